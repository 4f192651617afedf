/- slices.Grow and slices.Concat at records. -/
import Derived.Test.YtmhmnchdhacdbaaGreatDoorClone
import Derived.Test.YtmhmnchdhacdbaaGreatDoorSrt
import Derived.Lib.AppendZeros
import Derived.Deep.DeepCutAuto
import Derived.Deep.RegionLaw
import Derived.Deep.RegionHeld3
namespace Go.Proofs.YtmhmnchdhacdbaaGreatDoor
open Go.RowKit
set_option linter.unusedVariables false
set_option linter.unusedSimpArgs false

set_option maxRecDepth 100000 in
set_option maxHeartbeats 1000000 in
theorem grow_any (n : Nat) (w : World) (hn : n ≤ 1000000) :
    Calls Tryz.prog 84 #[.slice none 0 0, .int .i64 n] w
      fun e w' => ∃ v', e = .returned v' ∧ Below w.heap.size w w' ∧ w'.ownsRow w.heap.size 60 6 v' 0 [] := by
  by_cases h0 : n = 0
  · subst h0
    go_enter Tryz.func84, Tryz.ntmps84
    go_wp2
    go_ret
    exact ⟨_, rfl, Below.refl _ _, World.ownsRow_nil _ _ _ _⟩
  · obtain ⟨i, z, ht, hi, hz, hsize, hby, hzs, hsz⟩ := rcdElem
    have hr := Lib.run_append_nil_zeros (P := Tryz.prog) w 26 3 26 60 i z .i64 .i64 Tryz.underlying26 Tryz.underlying3 hi hz n (by omega) (by omega) (by omega) (by rw [hby]; omega)
    have hb1 : Below w.heap.size w (w.drew.alloc (.cells (Builtin.zeroCells z.cells n ++ Builtin.zeroCells z.cells (grownCap w n 0 60 - n)) 60)) := (Below.refl _ _).drew.alloc (by simp) _
    have hge := grownCap_ge w n 0 60
    have hle := grownCap_le_maxLen w n 0 60 (by unfold maxLen; omega)
    have hown : (w.drew.alloc (.cells (Builtin.zeroCells z.cells n ++ Builtin.zeroCells z.cells (grownCap w n 0 60 - n)) 60)).ownsRow w.heap.size 60 6 (.slice (some ⟨w.heap.size, 0, none⟩) 0 (grownCap w n 0 60)) 0 [] :=
      ⟨rfl, .inr ⟨w.heap.size, _, _, rfl, Nat.le_refl _, heap_alloc_new w.drew _, Nat.zero_le _, hle, by rw [Array.size_append, size_zeroCells, size_zeroCells, hzs, ← Nat.add_mul]; congr 1; omega, by simp⟩⟩
    clear hz hsize hby hzs hsz ht hi
    generalize w.drew.alloc (.cells (Builtin.zeroCells z.cells n ++ Builtin.zeroCells z.cells (grownCap w n 0 60 - n)) 60) = w1 at hr hb1 hown
    generalize grownCap w n 0 60 = cp at hr hown hge hle
    have HO := Lib.hid hown
    have HB := Lib.hid hb1
    have hnz : (0 : Int) < (n : Int) := by omega
    unfold maxLen at hle
    clear hown hb1
    go_enter Tryz.func84, Tryz.ntmps84
    go_wp2_with (at_builtin; refine Lib.wpList_append_run _ rfl _ _ _ _ rfl _ _ rfl rfl _ _ hr ?_)
    go_ret
    exact ⟨_, rfl, HB.out, HO.out⟩

theorem rcd_one (l : List Rcd) : ∀ u ∈ l.flatMap Rcd.cells, u.oneCell' = true := by
  intro u hu
  obtain ⟨r, -, hr⟩ := List.mem_flatMap.1 hu
  simp only [Rcd.cells, List.mem_cons, List.not_mem_nil, or_false] at hr
  rcases hr with rfl | rfl | rfl | rfl | rfl | rfl <;> rfl
set_option maxHeartbeats 2000000 in
theorem concat_any (l1 l2 : List Rcd) (v1 v2 : Value) (g : Nat) (w : World) (hB : Blk w g 26 [v1, v2]) (h1 : Rcds w v1 l1) (h2 : Rcds w v2 l2) (hl1 : l1.length ≤ 100000) (hl2 : l2.length ≤ 100000) :
    Calls Tryz.prog 50 #[.slice (some ⟨g, 0, none⟩) 2 2] w
      fun e w' => ∃ v', e = .returned v' ∧ Below w.heap.size w w' ∧ w'.ownsRow w.heap.size 60 6 v' (l1.length + l2.length) ((l1 ++ l2).flatMap Rcd.cells) := by
  obtain ⟨A1, c1, rfl, -, -, -⟩ := id h1
  obtain ⟨A2, c2, rfl, -, -, -⟩ := id h2
  have b0 := hB.cell 0
  have b1 := hB.cell 1
  have b0' : w.cell? ⟨g, 0, none⟩ = some (.slice A1 l1.length c1) := b0
  have b1' : w.cell? ⟨g, 1, none⟩ = some (.slice A2 l2.length c2) := b1
  clear b0 b1
  have HB := Lib.hid hB
  have H1 := Lib.hid h1
  have H2 := Lib.hid h2
  have HG := Lib.hid (grow_any (l1.length + l2.length) w (by omega))
  rw [Int.natCast_add] at HG
  clear hB h1 h2
  go_enter Tryz.func50, Tryz.ntmps50
  go_wp2_with fail
  refine wp_loop_rounds 3 ?_
  rw [rounds_succ]
  go_wp2_with fail
  rw [rounds_succ]
  go_wp2_with fail
  rw [rounds_succ]
  go_wp2_with fail
  refine HG.out.mono ?_
  rintro e w1 ⟨v', rfl, hb1, hown1⟩
  have q0 := cell_below b0' hb1 (cell_lt b0')
  have q1 := cell_below b1' hb1 (cell_lt b1')
  have hr1 : Row w1 6 (.slice A1 l1.length c1) l1.length (l1.flatMap Rcd.cells) := Row.below H1.out hb1
  have B1 := Lib.hid b1'
  have HOW := Lib.hid hown1
  have HBL := Lib.hid hb1
  have HR1 := Lib.hid hr1
  clear hb1 hown1 b0' b1' hr1
  go_wp2_with fail
  refine wp_loop_rounds 3 ?_
  rw [rounds_succ]
  go_wp2_with (at_builtin; refine wpList_push rfl rfl rcdElem HOW.out rfl HR1.out rfl HBL.out HBL.out.size (rcd_one _) (by omega) (by unfold maxLen; omega) ?_; intro A' c' w2 hown2 hbl2)
  have q2 := cell_below B1.out hbl2 (cell_lt B1.out)
  have hr2 : Row w2 6 (.slice A2 l2.length c2) l2.length (l2.flatMap Rcd.cells) := Row.below H2.out hbl2
  rw [Nat.zero_add, List.nil_append] at hown2
  have HOW2 := Lib.hid hown2
  have HBL2 := Lib.hid hbl2
  have HR2 := Lib.hid hr2
  clear hown2 hbl2 hr2 q0 q1
  rw [rounds_succ]
  go_wp2_with (at_builtin; refine wpList_push rfl rfl rcdElem HOW2.out rfl HR2.out rfl HBL2.out HBL2.out.size (rcd_one _) (by omega) (by unfold maxLen; omega) ?_; intro A3 c3 w3 hown3 hbl3)
  have HOW3 := Lib.hid hown3
  have HBL3 := Lib.hid hbl3
  clear hown3 hbl3
  rw [rounds_succ]
  go_wp2_with fail
  go_ret
  refine ⟨_, rfl, HBL3.out, ?_⟩
  have := HOW3.out
  rw [List.flatMap_append]
  simpa using this
end Go.Proofs.YtmhmnchdhacdbaaGreatDoor
/- Plain Lean: what the walk of Append leans on, and that Append keeps it. -/
namespace Go.Proofs.YtmhmnchdhacdbaaGreatDoor
open Go.RowKit
set_option linter.unusedVariables false
set_option linter.unusedSimpArgs false

structure DepW (d : Dep) : Prop where
  len : d.revs.length ≤ 512
  rlen : d.recs.length ≤ 512
  num : ∀ r ∈ d.revs, 0 < r.num ∧ r.num ≤ d.revs.length
  path : ∀ r ∈ d.revs, validS r.path = true
  rec_ : ∀ r ∈ d.recs, r.good
structure ChgW (c : Chg) : Prop where
  len : c.edits.length ≤ 1000
  rlen : c.recs.length ≤ 1000
  path : ∀ x ∈ c.edits, x.path.size ≤ 1000
  rec_ : ∀ r ∈ c.recs, r.small ∧ r.last ≤ 9223372036854775807

theorem lastM_mem {f : ByteArray → Option Rev} {revs : List Rev} {x : Rev} (h : ∀ p r, f p = some r → r ∈ revs ∧ r.path = p) : ∀ p r, lastM f x p = some r → r ∈ revs ++ [x] ∧ r.path = p := by
  intro p r hr
  have hu : ∀ p r, upd f x.path x p = some r → r ∈ revs ++ [x] ∧ r.path = p := by
    intro p r hr
    unfold upd at hr
    by_cases e : p = x.path
    · rw [if_pos (by simpa using e)] at hr
      injection hr with hr
      subst hr
      exact ⟨by simp, e.symm⟩
    · rw [if_neg (by simpa using e)] at hr
      obtain ⟨h1, h2⟩ := h p r hr
      exact ⟨by simp [h1], h2⟩
  unfold lastM at hr
  cases hb : f x.path with
  | none => rw [hb] at hr; exact hu p r hr
  | some b =>
    rw [hb] at hr
    simp only at hr
    by_cases hlt : b.num < x.num
    · rw [if_pos hlt] at hr; exact hu p r hr
    · rw [if_neg hlt] at hr
      obtain ⟨h1, h2⟩ := h p r hr
      exact ⟨by simp [h1], h2⟩
theorem lastOf_mem (revs : List Rev) : ∀ p r, lastOf revs p = some r → r ∈ revs ∧ r.path = p := by
  suffices H : ∀ (l done : List Rev) (f : ByteArray → Option Rev), (∀ p r, f p = some r → r ∈ done ∧ r.path = p) → ∀ p r, l.foldl lastM f p = some r → r ∈ done ++ l ∧ r.path = p by
    intro p r hr
    have := H revs [] (fun _ => none) (fun p r h => by cases h) p r hr
    simpa using this
  intro l
  induction l with
  | nil => intro done f h p r hr; simpa using h p r hr
  | cons x l ih =>
    intro done f h p r hr
    have := ih (done ++ [x]) (lastM f x) (lastM_mem h) p r hr
    simpa using this
theorem DepW.lastNum {d : Dep} (h : DepW d) (p : ByteArray) : 0 ≤ (lastR (lastOf d.revs) p).num ∧ (lastR (lastOf d.revs) p).num ≤ d.revs.length := by
  unfold lastR
  cases hl : lastOf d.revs p with
  | none => simp [zeroRev]
  | some r =>
    have := h.num r (lastOf_mem _ _ _ hl).1
    simp; omega
theorem editsOf_mem (es : List Edt) : ∀ p e, editsOf es p = some e → e ∈ es ∧ e.path = p := by
  suffices H : ∀ (l done : List Edt) (f : ByteArray → Option Edt), (∀ p r, f p = some r → r ∈ done ∧ r.path = p) → ∀ p r, l.foldl (fun f e => upd f e.path e) f p = some r → r ∈ done ++ l ∧ r.path = p by
    intro p r hr
    have := H es [] (fun _ => none) (fun p r h => by cases h) p r hr
    simpa using this
  intro l
  induction l with
  | nil => intro done f h p r hr; simpa using h p r hr
  | cons x l ih =>
    intro done f h p r hr
    have := ih (done ++ [x]) (upd f x.path x) (fun p r hr => by
      unfold upd at hr
      by_cases e : p = x.path
      · rw [if_pos (by simpa using e)] at hr
        injection hr with hr
        subst hr
        exact ⟨by simp, e.symm⟩
      · rw [if_neg (by simpa using e)] at hr
        obtain ⟨h1, h2⟩ := h p r hr
        exact ⟨by simp [h1], h2⟩) p r hr
    simpa using this
theorem greatest_mem {revs : List Rev} {q : ByteArray} {p : Rev → Bool} {v : Rev} (h : greatest revs q p = some v) : v ∈ revs ∧ v.path = q ∧ p v = true := by
  suffices H : ∀ (l : List Rev) (o : Option Rev) (S : Rev → Prop), (∀ x, o = some x → S x ∧ x.path = q ∧ p x = true) → (∀ x ∈ l, S x) → ∀ v, l.foldl (fun o r => if r.path = q ∧ p r = true then (match o with
    | none => some r
    | some b => if b.num < r.num then some r else some b) else o) o = some v → S v ∧ v.path = q ∧ p v = true by
    exact H revs none (fun x => x ∈ revs) (fun x hx => by cases hx) (fun x hx => hx) v h
  intro l
  induction l with
  | nil => intro o S ho hl v hv; exact ho v hv
  | cons x l ih =>
    intro o S ho hl v hv
    refine ih _ S ?_ (fun y hy => hl y (List.mem_cons_of_mem _ hy)) v hv
    intro y hy
    simp only at hy
    split at hy
    · rename_i hx
      split at hy
      · injection hy with hy; subst hy; exact ⟨hl _ (List.mem_cons_self ..), hx⟩
      · split at hy
        · injection hy with hy; subst hy; exact ⟨hl _ (List.mem_cons_self ..), hx⟩
        · injection hy with hy; subst hy; exact ho _ rfl
    · exact ho y hy
theorem recsF_all {revs : List Rev} {c : Chg} {ed : ByteArray → Option Edt} : ∀ (rs : List Rcd) (b : Option Rcd), recsF revs c ed b rs = true → ∀ r ∈ rs, recOk revs c ed r = true
  | [], b, h, r, hr => by cases hr
  | x :: rs, b, h, r, hr => by
    unfold recsF at h
    simp only [Bool.and_eq_true] at h
    rcases List.mem_cons.1 hr with rfl | hr
    · exact h.1.2
    · exact recsF_all rs _ h.2 r hr
theorem recsE_zero {revs : List Rev} {c : Chg} (h : recsE revs c = 0) : recsF revs c (editsOf c.edits) none c.recs = true := by
  unfold recsE at h; split at h
  · assumption
  · cases h
/-- A record that is accepted: its target is an edit, its source a revision. -/
theorem isRec_parts {revs : List Rev} {n : Int} {ed : ByteArray → Option Edt} {r : Rcd} (h : isRec revs n ed r = true) : (∃ e, ed r.to = some e ∧ e.act ≠ 5 ∧ r.num = e.base + 1) ∧ ∃ v, greatest revs r.frm (fun v => decide (v.num = r.last)) = some v := by
  unfold isRec at h
  cases he : ed r.to with
  | none => rw [he] at h; cases h
  | some e =>
    rw [he] at h
    simp only at h
    split at h
    · cases h
    · rename_i hn
      refine ⟨⟨e, rfl, fun h5 => hn (.inl h5), ?_⟩, ?_⟩
      · exact Classical.byContradiction fun hc => hn (.inr (.inl hc))
      · unfold sourceR at h
        cases hg : greatest revs r.frm (fun v => decide (v.num = r.last)) with
        | none => rw [hg] at h; cases h
        | some v => exact ⟨v, rfl⟩
theorem appE_goods {d : Dep} {c : Chg} (hd : DepW d) (hc : ChgW c) (h2 : everyE (lastOf d.revs) emptyS c.edits = 0) (h4 : recsE d.revs c = 0) : ∀ r ∈ c.recs, r.good := by
  intro r hr
  have h1 := recsF_all _ _ (recsE_zero h4) r hr
  unfold recOk at h1
  rw [Bool.and_eq_true] at h1
  obtain ⟨⟨e, he, -, -⟩, v, hv⟩ := isRec_parts h1.1
  obtain ⟨g1, g2, -⟩ := greatest_mem hv
  obtain ⟨k1, k2⟩ := editsOf_mem _ _ _ he
  refine ⟨(hc.rec_ r hr).1, ?_, ?_⟩
  · rw [← g2]; exact hd.path v g1
  · rw [← k2]; exact ((everyE_paths h2).2 e k1).1
theorem roomE_zero {d : Dep} {c : Chg} (h : roomE d c = 0) : d.revs.length + c.edits.length ≤ 512 ∧ d.recs.length + c.recs.length ≤ 512 := by
  unfold roomE at h; split at h
  · cases h
  · omega
theorem appE_keeps {d : Dep} {c : Chg} (hd : DepW d) (hc : ChgW c) (h : appE d c = 0) (l : List Rcd) (hl : l.Perm (d.recs ++ c.recs)) : DepW ⟨newRevs d c, l⟩ := by
  obtain ⟨h1, h2, h3, h4, h5⟩ := appE_zero h
  obtain ⟨r1, r2⟩ := roomE_zero h5
  obtain ⟨s1, -⟩ := sizeE_zero h1
  have hlen : (newRevs d c).length = d.revs.length + c.edits.length := by unfold newRevs; simp
  refine ⟨by simp only [hlen]; exact r1, by simp only [hl.length_eq, List.length_append]; exact r2, ?_, ?_, ?_⟩
  · intro r hr
    simp only [hlen]
    rcases List.mem_append.1 hr with hr | hr
    · have := hd.num r hr; omega
    · obtain ⟨e, he, rfl⟩ := List.mem_map.1 hr
      have := hd.lastNum e.path
      simp only [madeR]; omega
  · intro r hr
    rcases List.mem_append.1 hr with hr | hr
    · exact hd.path r hr
    · obtain ⟨e, he, rfl⟩ := List.mem_map.1 hr
      exact ((everyE_paths h2).2 e he).1
  · intro r hr
    rcases List.mem_append.1 (hl.mem_iff.1 hr) with hr | hr
    · exact hd.rec_ r hr
    · exact appE_goods hd hc h2 h4 r hr
theorem appE_bases {d : Dep} {c : Chg} (hd : DepW d) (h2 : everyE (lastOf d.revs) emptyS c.edits = 0) : ∀ p e, editsOf c.edits p = some e → 0 ≤ e.base ∧ e.base ≤ 1000000 := by
  intro p e he
  obtain ⟨k1, k2⟩ := editsOf_mem _ _ _ he
  have := (oneE_zero ((everyE_paths h2).2 e k1).2.2).2.1
  have h3 := hd.lastNum e.path
  have := hd.len
  omega
/-- Records that are good, as elements of the sort. -/
theorem goods_list {l : List Rcd} (h : ∀ r ∈ l, r.good) : ∃ l' : List OkRcd, l'.map (·.1) = l ∧ l'.length = l.length ∧ l'.flatMap OkRcd.enc = l.flatMap Rcd.cells := by
  induction l with
  | nil => exact ⟨[], rfl, rfl, rfl⟩
  | cons r l ih =>
    obtain ⟨l', h1, h2, h3⟩ := ih fun x hx => h x (List.mem_cons_of_mem _ hx)
    exact ⟨⟨r, h r (List.mem_cons_self ..)⟩ :: l', by simp [h1], by simp [h2], by simp [h3, OkRcd.enc]⟩
theorem enc_list (l : List OkRcd) : l.flatMap OkRcd.enc = (l.map (·.1)).flatMap Rcd.cells := by
  induction l with
  | nil => rfl
  | cons r l ih => simp [ih, OkRcd.enc]
end Go.Proofs.YtmhmnchdhacdbaaGreatDoor
/- Words for history.Append. -/
namespace Go.Proofs.YtmhmnchdhacdbaaGreatDoor
open Go.RowKit
set_option linter.unusedVariables false
set_option linter.unusedSimpArgs false

/-- The state of Append while its steps run. -/
structure ApSt (w0 w : World) (d : Dep) (c : Chg) (dv dr ev rv : Value) (g b gd gc gr gs : Nat) (ed : Option (ByteArray → Option Edt)) : Prop where
  bel : Below w0.heap.size w0 w
  le : w0.heap.size ≤ b
  ler : w0.heap.size ≤ gr
  chk : Chk w g dv dr c.num c.client c.text ev rv b (b + 1) (b + 1 + 1)
  last : LastMap w b (lastOf d.revs)
  edits : ∀ f, ed = some f → EditMap w (b + 1) f
  lines : LineMap w (b + 1 + 1) (linesOf d.revs)
  boxD : Blk w gd 28 [dv, dr]
  boxC : Blk w gc 56 [.int .i64 c.num, .string c.client, .string c.text, ev, rv]
  boxR : Blk w gr 28 [.slice none 0 0, .slice none 0 0]
  stp : Blk w gs 84 [stepV 79 g, stepV 80 g, stepV 81 g, stepV 82 g, stepV 83 g]
  revs : Revs w dv d.revs
  recs : Rcds w dr d.recs
  eds : Edts w ev c.edits
  rcs : Rcds w rv c.recs
section
variable {w0 w w' : World} {d : Dep} {c : Chg} {dv dr ev rv : Value} {g b gd gc gr gs : Nat} {ed : Option (ByteArray → Option Edt)}
theorem ApSt.below (h : ApSt w0 w d c dv dr ev rv g b gd gc gr gs ed) (hb : Below w.heap.size w w') : ApSt w0 w' d c dv dr ev rv g b gd gc gr gs ed :=
  ⟨below_next h.bel hb, h.le, h.ler, Blk.below h.chk hb (Blk.lt h.chk), FMap.below h.last hb, fun f e => FMap.below (h.edits f e) hb, FMap.below h.lines hb, h.boxD.below hb h.boxD.lt, h.boxC.below hb h.boxC.lt, h.boxR.below hb h.boxR.lt, h.stp.below hb h.stp.lt, h.revs.below hb, h.recs.below hb, h.eds.below hb, h.rcs.below hb⟩
theorem ApSt.every {f : ByteArray → Option Edt} {es : List Edt} {r : Int} (h : ApSt w0 w d c dv dr ev rv g b gd gc gr gs (some f)) (he : EvRel w (b + 1) es r w') (hr : r = 0) : ApSt w0 w' d c dv dr ev rv g b gd gc gr gs (some (editsOf es)) := by
  have hg := he.1
  have hm := FMap.obj (h.edits f rfl)
  have hb : Below w0.heap.size w0 w' := h.bel.grown hg h.bel.size (fun j e => by injection e with e; have := h.le; omega)
  exact ⟨hb, h.le, h.ler, Blk.turn h.chk hm hg, FMap.grown h.last hg (by intro e; injection e with e; omega), fun f' e => by injection e with e; subst e; exact he.2 hr, FMap.grown h.lines hg (by intro e; injection e with e; omega), h.boxD.turn hm hg, h.boxC.turn hm hg, h.boxR.turn hm hg, h.stp.turn hm hg, Row.turn h.revs (by decide) hm hg, Row.turn h.recs (by decide) hm hg, Row.turn h.eds (by decide) hm hg, Row.turn h.rcs (by decide) hm hg⟩
theorem ApSt.every' {f : ByteArray → Option Edt} {es : List Edt} {r : Int} (h : ApSt w0 w d c dv dr ev rv g b gd gc gr gs (some f)) (he : EvRel w (b + 1) es r w') : Below w0.heap.size w0 w' ∧ Blk w' gr 28 [.slice none 0 0, .slice none 0 0] := by
  have hg := he.1
  have hm := FMap.obj (h.edits f rfl)
  exact ⟨h.bel.grown hg h.bel.size (fun j e => by injection e with e; have := h.le; omega), h.boxR.turn hm hg⟩
end
theorem box5 {w : World} {g : Nat} {e : TypeId} {a b c d x : Value} (h : Blk w g e [a, b, c, d, x]) :
    w.cell? ⟨g, 0, none⟩ = some a ∧ w.cell? ⟨g, 1, none⟩ = some b ∧ w.cell? ⟨g, 2, none⟩ = some c ∧ w.cell? ⟨g, 3, none⟩ = some d ∧ w.cell? ⟨g, 4, none⟩ = some x :=
  ⟨h.cell 0, h.cell 1, h.cell 2, h.cell 3, h.cell 4⟩

/-- v's row, if it has a block, lies from B on. -/
def Fresh (B : Nat) (v : Value) : Prop := ∀ x, v.ownBlock = some x → B ≤ x
/-- What Append leaves. -/
def ApPost (w : World) (d : Dep) (c : Chg) (e : Ending) (w' : World) : Prop :=
  Below w.heap.size w w' ∧ (appE d c ≠ 0 ∧ e = .returned (.tuple #[.agg #[.slice none 0 0, .slice none 0 0], .int .i64 (appE d c)]) ∨
    appE d c = 0 ∧ ∃ (dv' dr' : Value) (l : List Rcd), e = .returned (.tuple #[.agg #[dv', dr'], .int .i64 0]) ∧ Revs w' dv' (newRevs d c) ∧ Rcds w' dr' l ∧ l.Perm (d.recs ++ c.recs) ∧ l.Pairwise (fun a b => 0 ≤ cmpR b a) ∧ Fresh w.heap.size dv' ∧ Fresh w.heap.size dr')

theorem own_mono {w : World} {base base' : Nat} {e : TypeId} {size n : Nat} {v : Value} {xs : List Value} (h : w.ownsRow base e size v n xs) (hb : base' ≤ base) : w.ownsRow base' e size v n xs := by
  obtain ⟨h1, h2 | ⟨g, cap, cur, e1, h3, h4⟩⟩ := h
  · exact ⟨h1, .inl h2⟩
  · exact ⟨h1, .inr ⟨g, cap, cur, e1, Nat.le_trans hb h3, h4⟩⟩
theorem own_grown {w w' : World} {base : Nat} {e : TypeId} {size n : Nat} {v : Value} {xs : List Value} {row : Option Nat} (h : w.ownsRow base e size v n xs) (hg : w.grownBy w' row) (hne : ∀ x, v.ownBlock = some x → row ≠ some x) : w'.ownsRow base e size v n xs := by
  obtain ⟨h1, h2 | ⟨g, cap, cur, e1, h3, h4, h5⟩⟩ := h
  · exact ⟨h1, .inl h2⟩
  · exact ⟨h1, .inr ⟨g, cap, cur, e1, h3, by rw [hg.block g (Array.getElem?_eq_some_iff.1 h4).1 (fun e => hne g (by rw [e1]; rfl) e.symm)]; exact h4, h5⟩⟩
theorem own_setCell {w : World} {base : Nat} {e : TypeId} {size n : Nat} {v : Value} {xs : List Value} (h : w.ownsRow base e size v n xs) {p : Addr} (hne : v.ownBlock ≠ some p.block) (u : Value) : (w.setCell p u).ownsRow base e size v n xs := by
  obtain ⟨h1, h2 | ⟨g, cap, cur, e1, h3, h4, h5⟩⟩ := h
  · exact ⟨h1, .inl h2⟩
  · exact ⟨h1, .inr ⟨g, cap, cur, e1, h3, by rw [Below.heap_setCell w p u g (fun e => hne (by rw [e1, ← e]; rfl))]; exact h4, h5⟩⟩
theorem clone_own (revs : List Rev) (v : Value) (V X : World) (hX : Below V.heap.size V X) (hR : Revs X v revs) (hl : revs.length ≤ 1000000) :
    Calls Tryz.prog 49 #[v] X
      fun e w' => ∃ A' c', e = .returned (.slice A' revs.length c') ∧ Below V.heap.size V w' ∧ w'.ownsRow X.heap.size 36 12 (.slice A' revs.length c') revs.length (revs.flatMap Rev.cells) ∧ Below X.heap.size X w' :=
  (clone_any revs v X hR hl).mono fun e w' ⟨v', h1, h2, h3⟩ => by
    obtain ⟨A', c', rfl⟩ := own_slice h3
    exact ⟨A', c', h1, below_next hX h2, h3, h2⟩
theorem concat_own (l1 l2 : List Rcd) (v1 v2 : Value) (g : Nat) (V w : World) (hX : Below V.heap.size V w) (hB : Blk w g 26 [v1, v2]) (h1 : Rcds w v1 l1) (h2 : Rcds w v2 l2) (hl1 : l1.length ≤ 100000) (hl2 : l2.length ≤ 100000) :
    Calls Tryz.prog 50 #[.slice (some ⟨g, 0, none⟩) 2 2] w
      fun e w' => ∃ A' c', e = .returned (.slice A' (l1.length + l2.length) c') ∧ Below V.heap.size V w' ∧ w'.ownsRow w.heap.size 60 6 (.slice A' (l1.length + l2.length) c') (l1.length + l2.length) ((l1 ++ l2).flatMap Rcd.cells) ∧ Below w.heap.size w w' :=
  (concat_any l1 l2 v1 v2 g w hB h1 h2 hl1 hl2).mono fun e w' ⟨v', k1, k2, k3⟩ => by
    obtain ⟨A', c', rfl⟩ := own_slice k3
    exact ⟨A', c', k1, below_next hX k2, k3, k2⟩
/-- Append's result while it is made: in block g10, of two rows of its own. -/
structure ApR (V wx : World) (g10 : Nat) (v1 v2 : Value) (n m : Nat) (xs ys : List Value) : Prop where
  bel : Below V.heap.size V wx
  le : V.heap.size ≤ g10
  box : Blk wx g10 28 [v1, v2]
  one : wx.ownsRow V.heap.size 36 12 v1 n xs
  two : wx.ownsRow V.heap.size 60 6 v2 m ys
  ne1 : v1.ownBlock ≠ some g10
  ne2 : v2.ownBlock ≠ some g10
  ne12 : ∀ x, v1.ownBlock = some x → v2.ownBlock ≠ some x

/-- 'append(s, x...)' as one step of a region that draws its order. -/
theorem step_app {P : Program} {W : World} {ops : Array Oper} {o : Oper} {a : Act} {K : Act → World → Prop} {Q : Exit → Act → World → Prop} {E : Prop} (hgd : o.guard = none) {s x : Operand} {t : TypeId}
    (ho : o.op = .call { callee := .builtin .append, args := #[s, x], argTypes := #[t, t] })
    {e : TypeId} {size bytes base : Nat} (he : ElemOk P t e size bytes) {v : Value} {n : Nat} {xs : List Value} (hown : W.ownsRow base e size v n xs) (hs : a.eval s = v)
    {u : Value} {m : Nat} {news : List Value} (hr : Row W size u m news) (hx : a.eval x = u) (h1 : ∀ u ∈ news, u.oneCell' = true) (hbytes : (n + m) * bytes ≤ 140737488355328) (h63 : n + m ≤ maxLen) (hbase : base ≤ W.heap.size)
    (h : ∀ A' c' w', w'.ownsRow base e size (.slice A' (n + m) c') (n + m) (xs ++ news) → W.grownBy w' v.ownBlock →
      ((Value.slice A' (n + m) c').ownBlock = v.ownBlock ∨ (Value.slice A' (n + m) c').ownBlock = some W.heap.size) → K (a.put o.dst (.slice A' (n + m) c')) w') :
    if Region.wanted o (yielded ops a.tmps) = true then Oper.wp P o a W K Q else E := by
  have hw : Region.wanted o (yielded ops a.tmps) = true := by simp [Region.wanted, hgd]
  rw [if_pos hw]
  obtain ⟨A', c', w', hrun, h2, h3, h4⟩ := run_app (ty := o.type) he hown hr h1 hbytes h63 hbase
  unfold Oper.wp execOp
  simp only [ho, resolve, invoke, builtin, Sem.run_bind, Sem.run_pure, Result.andThen_ok, List.map_toArray, List.map_cons, List.map_nil, hs, hx, hrun]
  exact h A' c' w' h2 h3 h4
theorem below_alloc' {a w : World} (h : Below a.heap.size a w) (o : Obj) : Below a.heap.size a (w.alloc o) := h.alloc h.size o
theorem Blk.below' {w w' : World} {g : Nat} {e : TypeId} {cs : List Value} (h : Blk w g e cs) (hb : Below w.heap.size w w') : Blk w' g e cs := h.below hb h.lt
theorem Blk.drew' {w : World} {g : Nat} {e : TypeId} {cs : List Value} (h : Blk w g e cs) : Blk w.drew g e cs := h
theorem own_drew' {w : World} {B : Nat} {e : TypeId} {k : Nat} {v : Value} {n : Nat} {xs : List Value} (h : w.ownsRow B e k v n xs) : w.drew.ownsRow B e k v n xs := h
theorem own_alloc' {w : World} {B : Nat} {e : TypeId} {k : Nat} {v : Value} {n : Nat} {xs : List Value} (h : w.ownsRow B e k v n xs) (o : Obj) : (w.alloc o).ownsRow B e k v n xs := own_below h ((Below.refl _ _).alloc (Nat.le_refl _) _)
theorem drew_heap (w : World) : w.drew.heap = w.heap := rfl
theorem blk_at {w : World} {g : Nat} {cs : List Value} {e : TypeId} (hg : g = w.heap.size) : Blk (w.alloc (.cells cs.toArray e)) g e cs := by rw [hg]; exact blk_new w cs e
theorem apR_of {V X w5 Y w6 W : World} {v1 v2 : Value} {g10 n m : Nat} {xs ys : List Value} (hX : Below V.heap.size V X) (h5 : Below X.heap.size X w5) (hY : Below w5.heap.size w5 Y) (h6 : Below Y.heap.size Y w6) (hW : Below w6.heap.size w6 W)
    (o5 : w5.ownsRow X.heap.size 36 12 v1 n xs) (o6 : w6.ownsRow Y.heap.size 60 6 v2 m ys)
    (hb : Blk W g10 28 [.slice none 0 0, .slice none 0 0]) (hg : (V.heap.size ≤ g10 ∧ g10 < X.heap.size) ∨ (w5.heap.size ≤ g10 ∧ g10 < Y.heap.size) ∨ w6.heap.size ≤ g10) :
    ApR V ((W.setCell ⟨g10, 0, none⟩ v1).setCell ⟨g10, 1, none⟩ v2) g10 v1 v2 n m xs ys := by
  have b5 := below_next hX h5
  have h56 := below_next hY h6
  have b6 := below_next b5 h56
  have bW := below_next b6 hW
  have l1 := o5.lt
  have l2 := o6.lt
  have s1 := hX.size
  have s2 := h5.size
  have s3 := hY.size
  have s4 := h6.size
  have s5 := hW.size
  have n1 : v1.ownBlock ≠ some g10 := fun e => by have := l1 _ e; omega
  have n2 : v2.ownBlock ≠ some g10 := fun e => by have := l2 _ e; omega
  have hle : V.heap.size ≤ g10 := by omega
  refine ⟨(bW.setCell (p := ⟨g10, 0, none⟩) hle _).setCell (p := ⟨g10, 1, none⟩) hle _, hle, (hb.set_ 0 v1).set_ 1 v2, ?_, ?_, n1, n2, ?_⟩
  · exact own_mono (own_setCell (own_setCell (own_below (own_below o5 h56) hW) (p := ⟨g10, 0, none⟩) n1 _) (p := ⟨g10, 1, none⟩) n1 _) s1
  · exact own_mono (own_setCell (own_setCell (own_below o6 hW) (p := ⟨g10, 0, none⟩) n2 _) (p := ⟨g10, 1, none⟩) n2 _) (by omega)
  · intro x e1 e2
    have := l1 _ e1
    have := l2 _ e2
    omega

theorem apR_of2 {V X w5 Y w6 : World} {v1 v2 : Value} {n m : Nat} {xs ys : List Value} (hX : Below V.heap.size V X) (h5 : Below X.heap.size X w5) (hY : Below w5.heap.size w5 Y) (h6 : Below Y.heap.size Y w6)
    (o5 : w5.ownsRow X.heap.size 36 12 v1 n xs) (o6 : w6.ownsRow Y.heap.size 60 6 v2 m ys) :
    ApR V (w6.alloc (.cells #[v1, v2] 28)) w6.heap.size v1 v2 n m xs ys := by
  have b5 := below_next hX h5
  have h56 := below_next hY h6
  have b6 := below_next b5 h56
  have l1 := o5.lt
  have l2 := o6.lt
  have s1 := hX.size
  have s2 := h5.size
  have s3 := hY.size
  have s4 := h6.size
  refine ⟨below_alloc' b6 _, b6.size, blk_new w6 [v1, v2] _, own_mono (own_alloc' (own_below o5 h56) _) s1, own_mono (own_alloc' o6 _) (by omega), fun e => by have := l1 _ e; omega, fun e => by have := l2 _ e; omega, ?_⟩
  intro x e1 e2
  have := l1 _ e1
  have := l2 _ e2
  omega

/-- One more revision appended: X is the world ahead of the append, the element's block laid. -/
theorem ApR.push {V wr X w5 : World} {g10 : Nat} {v1 v2 v3 : Value} {n n' m : Nat} {xs xs' ys : List Value} (h : ApR V wr g10 v1 v2 n m xs ys) (hX : Below wr.heap.size wr X) (ho : w5.ownsRow V.heap.size 36 12 v3 n' xs') (hg : X.grownBy w5 v1.ownBlock) (hw : v3.ownBlock = v1.ownBlock ∨ v3.ownBlock = some X.heap.size) :
    ApR V (w5.setCell ⟨g10, 0, none⟩ v3) g10 v3 v2 n' m xs' ys := by
  have l1 := h.one.lt
  have l2 := h.two.lt
  have lb := h.box.lt
  have hs := hX.size
  have n3 : v3.ownBlock ≠ some g10 := fun e => by
    rcases hw with hw | hw
    · exact h.ne1 (hw ▸ e)
    · rw [hw] at e; injection e with e; omega
  have b5 : Below V.heap.size V w5 := (below_next h.bel hX).grown hg (by have := h.bel.size; omega) (fun k e => (l1 k e).1)
  refine ⟨b5.setCell (p := ⟨g10, 0, none⟩) h.le _, h.le, ?_, own_setCell ho (p := ⟨g10, 0, none⟩) n3 _, ?_, n3, h.ne2, ?_⟩
  · exact ((h.box.below hX lb).grown hg (fun e => h.ne1 e.symm)).set_ 0 v3
  · exact own_setCell (own_grown (own_below h.two hX) hg (fun x e e2 => h.ne12 x e2 e)) (p := ⟨g10, 0, none⟩) h.ne2 _
  · intro x e1 e2
    rcases hw with hw | hw
    · exact h.ne12 x (hw ▸ e1) e2
    · rw [hw] at e1; injection e1 with e1
      have := l2 _ e2; omega

theorem ApR.under {V wr X : World} {g10 : Nat} {v1 v2 : Value} {n m : Nat} {xs ys : List Value} (h : ApR V wr g10 v1 v2 n m xs ys) (hX : Below wr.heap.size wr X) : ApR V X g10 v1 v2 n m xs ys :=
  ⟨below_next h.bel hX, h.le, h.box.below hX h.box.lt, own_below h.one hX, own_below h.two hX, h.ne1, h.ne2, h.ne12⟩
/-- The operations of region n of a function's text. -/
def regAt (n : Nat) : Code → Option (Array Oper)
  | .region i ops _ => if i = n then some ops else none
  | .seq a b => (regAt n a).or (regAt n b)
  | .cond _ a b => (regAt n a).or (regAt n b)
  | .block _ a => regAt n a
  | .loop a => regAt n a
  | _ => none
end Go.Proofs.YtmhmnchdhacdbaaGreatDoor
/- Region 13 of history.Append: one more revision. -/
namespace Go.Proofs.YtmhmnchdhacdbaaGreatDoor
open Go.RowKit
set_option linter.unusedVariables false
set_option linter.unusedSimpArgs false

set_option maxRecDepth 100000 in
set_option maxHeartbeats 8000000 in
theorem region13 (ops : Array Oper) (hops : Tryz.f23.body.bind (regAt 13) = some ops) (Q : Exit → Act → World → Prop) (g g10 ge n m : Nat) (x : Edt) (r : Rev) (v1 v2 : Value) (xs ys : List Value) (V V1 : World)
    (hR : ApR V V1 g10 v1 v2 n m xs ys) (hB : Blk V1 ge 58 [.string x.path, .int .i64 x.act, .int .i64 x.ty.base, .bool x.ty.k, .bool x.ty.l, .bool x.ty.x, .int .u64 x.sum, .int .i64 x.size, .int .i64 x.base, .string x.frm, .int .i64 x.fnum, .int .i64 x.fence]) (hge : V.heap.size ≤ ge) (hne : v1.ownBlock ≠ some ge) (hn : n ≤ 100000)
    (hrev : ∀ X, Below V1.heap.size V1 X → Calls Tryz.prog 51 #[.pointer (some ⟨g, 0, none⟩), .agg #[.string x.path, .int .i64 x.act, .int .i64 x.ty.base, .bool x.ty.k, .bool x.ty.l, .bool x.ty.x, .int .u64 x.sum, .int .i64 x.size, .int .i64 x.base, .string x.frm, .int .i64 x.fnum, .int .i64 x.fence]] X fun e w' => e = .returned (.agg #[.string r.path, .int .i64 r.num, .int .i64 r.chg, .int .i64 r.act, .int .i64 r.ty.base, .bool r.ty.k, .bool r.ty.l, .bool r.ty.x, .int .u64 r.sum, .int .i64 r.size, .string r.frm, .int .i64 r.fnum]) ∧ Below X.heap.size X w')
    (u0 u1 u2 u3 u4 u5 u7 u8 u9 u11 u13 u14 u15 u16 u17 u18 u19 u20 u21 u22 u23 u24 u25 u26 u27 u28 u29 u30 u31 u32 u33 u34 u35 u36 u37 u38 u39 u40 u41 u42 u43 u44 u45 u46 u47 u48 u49 u50 u51 u52 u53 u54 u55 u56 u57 u58 u59 : Value)
    (hQ : ∀ (t47 t48 t49 t50 t51 t52 t53 t54 : Value) (v3 : Value) (w' : World), Hid (ApR V w' g10 v3 v2 (n + 1) m (xs ++ [.string r.path, .int .i64 r.num, .int .i64 r.chg, .int .i64 r.act, .int .i64 r.ty.base, .bool r.ty.k, .bool r.ty.l, .bool r.ty.x, .int .u64 r.sum, .int .i64 r.size, .string r.frm, .int .i64 r.fnum]) ys) → Q .normal ⟨#[u0, u1, u2, u3, u4, u5, .pointer (some ⟨g, 0, none⟩), u7, u8, u9, .pointer (some ⟨g10, 0, none⟩), u11, .pointer (some ⟨ge, 0, none⟩), u13, u14, u15, u16, u17, u18, u19, u20, u21, u22, u23, u24, u25, u26, u27, u28, u29, u30, u31, u32, u33, u34, u35, u36, u37, u38, u39, u40, u41, u42, u43, u44, u45, u46, t47, t48, t49, t50, t51, t52, t53, t54, u55, u56, u57, u58, u59], []⟩ w') :
    (Code.region 13 ops true).wp Tryz.prog Q ⟨#[u0, u1, u2, u3, u4, u5, .pointer (some ⟨g, 0, none⟩), u7, u8, u9, .pointer (some ⟨g10, 0, none⟩), u11, .pointer (some ⟨ge, 0, none⟩), u13, u14, u15, u16, u17, u18, u19, u20, u21, u22, u23, u24, u25, u26, u27, u28, u29, u30, u31, u32, u33, u34, u35, u36, u37, u38, u39, u40, u41, u42, u43, u44, u45, u46, u47, u48, u49, u50, u51, u52, u53, u54, u55, u56, u57, u58, u59], []⟩ V1 := by
  simp only [Tryz.f23, Option.bind_some, regAt] at hops
  simp at hops
  subst hops
  obtain ⟨A1, c1, hv1⟩ := own_slice hR.one
  subst hv1
  have HQ := Lib.hid hQ
  have HR := Lib.hid hR
  have HB := Lib.hid hB
  have HRV2 := Lib.hid hrev
  clear hQ hR hB hrev
  have f0 : V1.cell? ⟨g10, 0, none⟩ = some (.slice A1 n c1) := HR.out.box.cell 0
  obtain ⟨c0, c1', c2, c3, c4, c5, c6, c7, c8, c9, c10, c11⟩ := box12 HB.out
  refine wp_region_noPanic ?_
  go_region_law (first
    | (refine step_app rfl rfl revElem (own_below (own_below HR.out.one hS5) ((Below.refl _ _).alloc (Nat.le_refl _) _)) (by simp [Act.eval, Act.put]) (row_new w5 [.string r.path, .int .i64 r.num, .int .i64 r.chg, .int .i64 r.act, .int .i64 r.ty.base, .bool r.ty.k, .bool r.ty.l, .bool r.ty.x, .int .u64 r.sum, .int .i64 r.size, .string r.frm, .int .i64 r.fnum] _ 12 1 rfl (by decide) _ rfl) (by simp [Act.eval, Act.put]) (by simp [Value.oneCell']) (by omega) (by unfold maxLen; omega) (by have := hS5.size; have := HR.out.bel.size; simp; omega) ?_; intro A6 c6' w6 hO6 hG6 hw6; have hbx := (HR.out.box.below (below_next hS5 ((Below.refl _ _).alloc (Nat.le_refl _) _)) HR.out.box.lt).grown hG6 (fun e => HR.out.ne1 e.symm); obtain ⟨b0, b1, g0, g1⟩ := box2 hbx)
    | (go_simp; go_at_call 51; refine (HRV2.out _ (Below.refl _ _).drew).mono ?_; rintro e w5 ⟨rfl, hX5⟩; have hS5 : Below V1.heap.size V1 w5 := (Below.refl _ _).drew.trans hX5; have f5 : w5.cell? ⟨g10, 0, none⟩ = some (.slice A1 n c1) := (HR.out.box.below hS5 HR.out.box.lt).cell 0; have f6 : (w5.alloc (.cells #[.string r.path, .int .i64 r.num, .int .i64 r.chg, .int .i64 r.act, .int .i64 r.ty.base, .bool r.ty.k, .bool r.ty.l, .bool r.ty.x, .int .u64 r.sum, .int .i64 r.size, .string r.frm, .int .i64 r.fnum] 36)).cell? ⟨g10, 0, none⟩ = some (.slice A1 n c1) := (HR.out.box.below (hS5.alloc hS5.size _) HR.out.box.lt).cell 0))
  all_goals exact NoPanic.normal (HQ.out _ _ _ _ _ _ _ _ _ _ (HR.out.push (below_next hS5 ((Below.refl _ _).alloc (Nat.le_refl _) _)) hO6 hG6 hw6))
end Go.Proofs.YtmhmnchdhacdbaaGreatDoor
/- history.Append. -/
namespace Go.Proofs.YtmhmnchdhacdbaaGreatDoor
open Go.RowKit
set_option linter.unusedVariables false
set_option linter.unusedSimpArgs false

set_option maxRecDepth 100000 in
set_option maxHeartbeats 8000000 in
theorem append_any (d : Dep) (c : Chg) (dv dr ev rv : Value) (w : World) (hR : Revs w dv d.revs) (hQ : Rcds w dr d.recs) (hE : Edts w ev c.edits) (hC : Rcds w rv c.recs) (hD : DepW d) (hW : ChgW c) :
    Calls Tryz.prog 23 #[.agg #[dv, dr], .agg #[.int .i64 c.num, .string c.client, .string c.text, ev, rv]] w (ApPost w d c) := by
  obtain ⟨Av, cv, rfl, -⟩ := id hR
  obtain ⟨Aq, cq, rfl, -⟩ := id hQ
  obtain ⟨Ae, ce, rfl, -⟩ := id hE
  obtain ⟨Ac, cc, rfl, -⟩ := id hC
  obtain ⟨dv, hdv⟩ : ∃ v, v = Value.slice Av d.revs.length cv := ⟨_, rfl⟩
  obtain ⟨dr, hdr⟩ : ∃ v, v = Value.slice Aq d.recs.length cq := ⟨_, rfl⟩
  obtain ⟨ev, hev⟩ : ∃ v, v = Value.slice Ae c.edits.length ce := ⟨_, rfl⟩
  obtain ⟨rv, hrv⟩ : ∃ v, v = Value.slice Ac c.recs.length cc := ⟨_, rfl⟩
  rw [← hdv] at hR ⊢
  rw [← hdr] at hQ ⊢
  rw [← hev] at hE ⊢
  rw [← hrv] at hC ⊢
  have HDV := Lib.hid hdv
  have HDR := Lib.hid hdr
  have HEV := Lib.hid hev
  have HRV := Lib.hid hrv
  clear hdv hdr hev hrv
  obtain ⟨W1, hW1⟩ : ∃ W, W = ((w.alloc (.cells #[dv, dr] 28)).alloc (.cells #[.int .i64 c.num, .string c.client, .string c.text, ev, rv] 56)).alloc (.cells #[.slice none 0 0, .slice none 0 0] 28) := ⟨_, rfl⟩
  have hb1 : Below w.heap.size w W1 := by rw [hW1]; exact (((Below.refl _ _).alloc (Nat.le_refl _) _).alloc (by simp) _).alloc (by simp; omega) _
  have hs1 : W1.heap.size = w.heap.size + 1 + 1 + 1 := by rw [hW1]; simp
  have hB1 : Blk W1 w.heap.size 28 [dv, dr] := by rw [hW1]; exact ((blk_new w _ _).alloc _).alloc _
  have hB2 : Blk W1 (w.heap.size + 1) 56 [.int .i64 c.num, .string c.client, .string c.text, ev, rv] := by
    rw [hW1]
    have := blk_new (w.alloc (.cells #[dv, dr] 28)) [.int .i64 c.num, .string c.client, .string c.text, ev, rv] 56
    simp only [World.size_alloc] at this
    exact this.alloc _
  have hB3 : Blk W1 (w.heap.size + 1 + 1) 28 [.slice none 0 0, .slice none 0 0] := by
    rw [hW1]
    have := blk_new ((w.alloc (.cells #[dv, dr] 28)).alloc (.cells #[.int .i64 c.num, .string c.client, .string c.text, ev, rv] 56)) [.slice none 0 0, .slice none 0 0] 28
    simp only [World.size_alloc] at this
    exact this
  have HW1 := Lib.hid hW1
  have HNC := Lib.hid (newCheck_any d.revs c dv dr ev rv W1 (hR.below hb1) (by have := hD.len; omega) (fun r hr => by have := hD.num r hr; have := hD.len; omega))
  have HNR := Lib.hid (show Revs w dv d.revs ∧ Rcds w dr d.recs ∧ Edts w ev c.edits ∧ Rcds w rv c.recs from ⟨hR, hQ, hE, hC⟩)
  have HD := Lib.hid hD
  have HW := Lib.hid hW
  clear hW1 hR hQ hE hC hD hW
  go_enter Tryz.func23, Tryz.ntmps23
  obtain ⟨c0, c1, -, -⟩ := box2 hB1
  obtain ⟨d0, d1, d2, d3, d4⟩ := box5 hB2
  go_upto_region 1 with fail
  rw [← HW1.out]
  go_wp2_with fail
  refine HNC.out.mono ?_
  rintro e w2 ⟨g, b, rfl, hb2, hbb, hn⟩
  have hk2 : Hid _ := hn
  clear c0 c1 d0 d1 d2 d3 d4 hn
  go_wp2_with fail
  refine (steps_any g w2).mono ?_
  rintro e w3 ⟨rfl, hb3, hs3⟩
  have HST : Hid (ApSt w w3 d c dv dr ev rv g b w.heap.size (w.heap.size + 1) (w.heap.size + 1 + 1) w2.heap.size (some fun _ => none)) := Lib.hid (by
    obtain ⟨k1, k2, k3, k4⟩ := hk2.out
    have hb12 := hb2
    have hb13 : Below W1.heap.size W1 w3 := below_next hb12 hb3
    have hbw : Below w.heap.size w w3 := below_next hb1 hb13
    exact ⟨hbw, by omega, by omega, Blk.below k1 hb3 (Blk.lt k1), FMap.below k2 hb3, fun f e => by injection e with e; subst e; exact FMap.below k3 hb3, FMap.below k4 hb3, hB1.below hb13 hB1.lt, hB2.below hb13 hB2.lt, hB3.below hb13 hB3.lt, hs3, HNR.out.1.below hbw, HNR.out.2.1.below hbw, HNR.out.2.2.1.below hbw, HNR.out.2.2.2.below hbw⟩)
  clear hb2 hbb hk2 hb3 hs3 hB1 hB2 hB3 hb1 hs1
  generalize w2.heap.size = gs at HST ⊢
  go_wp2_with fail
  refine wp_loop_rounds 6 ?_
  rw [rounds_succ]
  have FAIL : ∀ (W : World) (n : Int), Below w.heap.size w W → n ≠ 0 → appE d c = n → ApPost w d c (.returned (.tuple #[.agg #[.slice none 0 0, .slice none 0 0], .int .i64 n])) W := fun W n hb hn he => ⟨hb, .inl ⟨by rw [he]; exact hn, by rw [he]⟩⟩
  have HF := Lib.hid FAIL
  clear FAIL
  have t0 : w3.cell? ⟨gs, 0, none⟩ = some (.func (.func 79) #[.pointer (some ⟨g, 0, none⟩)] #[]) := HST.out.stp.cell 0
  have HZ0 := Lib.hid (size_any d.revs c g dv dr ev rv b (b + 1) (b + 1 + 1) w3 HST.out.chk HST.out.revs HST.out.eds HST.out.rcs)
  obtain ⟨e0, he0⟩ : ∃ x, sizeE d.revs c = x := ⟨_, rfl⟩
  rw [he0] at HZ0
  have HE0 := Lib.hid he0
  clear he0
  go_wp2_with fail
  refine HZ0.out.mono ?_
  rintro e v0 ⟨rfl, hv⟩
  clear t0 HZ0
  by_cases h0 : e0 = 0
  case neg =>
    have q : (e0 != 0) = true := by simpa using h0
    have HA : Hid (appE d c = e0) := Lib.hid (by unfold appE; rw [ HE0.out, firstE_ne h0])
    have HN := Lib.hid h0
    have hbx := (HST.out.below hv).bel
    have hR4 := (HST.out.below hv).boxR
    have HBX := Lib.hid hbx
    clear h0 hbx hv HST
    obtain ⟨r0, r1, f0, f1⟩ := box2 hR4
    go_wp2_with fail
    have hR5 := (hR4.set_ 0 (.slice none 0 0)).set_ 1 (.slice none 0 0)
    have hB5 := (HBX.out.setCell (p := ⟨w.heap.size + 1 + 1, 0, none⟩) (by simp; omega) (.slice none 0 0)).setCell (p := ⟨w.heap.size + 1 + 1, 1, none⟩) (by simp; omega) (.slice none 0 0)
    clear r0 r1 f0 f1 hR4
    generalize (v0.setCell ⟨w.heap.size + 1 + 1, 0, none⟩ (.slice none 0 0)).setCell ⟨w.heap.size + 1 + 1, 1, none⟩ (.slice none 0 0) = W5 at hR5 hB5 ⊢
    obtain ⟨r0, r1, -, -⟩ := box2 hR5
    refine bodyPost_ret (v := .tuple #[.agg #[.slice none 0 0, .slice none 0 0], .int .i64 e0]) (by simp [results, Tryz.results23, go_sem, r0, r1]) rfl (HF.out W5 e0 hB5 HN.out HA.out)
  subst h0
  have HV0 : Hid ((0 : Int) = 0) := Lib.hid rfl
  have HS0 := Lib.hid (HST.out.below hv)
  clear hv HST HV0
  go_wp2_with fail
  rw [rounds_succ]
  have t1 : v0.cell? ⟨gs, 1, none⟩ = some (.func (.func 80) #[.pointer (some ⟨g, 0, none⟩)] #[]) := HS0.out.stp.cell 1
  have HZ1 := Lib.hid (everyEdit_any (lastOf d.revs) c.edits g dv dr ev rv c.num c.client c.text b (b + 1) (b + 1 + 1) v0 HS0.out.chk HS0.out.last (by omega) HS0.out.eds (HS0.out.edits _ rfl) (by have := HW.out.len; omega) (fun x hx => by have := HW.out.path x hx; omega))
  obtain ⟨e1, he1⟩ : ∃ x, everyE (lastOf d.revs) emptyS c.edits = x := ⟨_, rfl⟩
  rw [he1] at HZ1
  have HE1 := Lib.hid he1
  clear he1
  go_wp2_with fail
  refine HZ1.out.mono ?_
  rintro e v1 ⟨rfl, hv⟩
  clear t1 HZ1
  by_cases h1 : e1 = 0
  case neg =>
    have q : (e1 != 0) = true := by simpa using h1
    have HA : Hid (appE d c = e1) := Lib.hid (by unfold appE; rw [HE0.out, firstE_skip,  HE1.out, firstE_ne h1])
    have HN := Lib.hid h1
    have hbx := (HS0.out.every' hv).1
    have hR4 := (HS0.out.every' hv).2
    have HBX := Lib.hid hbx
    clear h1 hbx hv HS0
    obtain ⟨r0, r1, f0, f1⟩ := box2 hR4
    go_wp2_with fail
    have hR5 := (hR4.set_ 0 (.slice none 0 0)).set_ 1 (.slice none 0 0)
    have hB5 := (HBX.out.setCell (p := ⟨w.heap.size + 1 + 1, 0, none⟩) (by simp; omega) (.slice none 0 0)).setCell (p := ⟨w.heap.size + 1 + 1, 1, none⟩) (by simp; omega) (.slice none 0 0)
    clear r0 r1 f0 f1 hR4
    generalize (v1.setCell ⟨w.heap.size + 1 + 1, 0, none⟩ (.slice none 0 0)).setCell ⟨w.heap.size + 1 + 1, 1, none⟩ (.slice none 0 0) = W5 at hR5 hB5 ⊢
    obtain ⟨r0, r1, -, -⟩ := box2 hR5
    refine bodyPost_ret (v := .tuple #[.agg #[.slice none 0 0, .slice none 0 0], .int .i64 e1]) (by simp [results, Tryz.results23, go_sem, r0, r1]) rfl (HF.out W5 e1 hB5 HN.out HA.out)
  subst h1
  have HV1 : Hid ((0 : Int) = 0) := Lib.hid rfl
  have HS1 := Lib.hid (HS0.out.every hv HV1.out)
  clear hv HS0 HV1
  go_wp2_with fail
  rw [rounds_succ]
  have t2 : v1.cell? ⟨gs, 2, none⟩ = some (.func (.func 81) #[.pointer (some ⟨g, 0, none⟩)] #[]) := HS1.out.stp.cell 2
  have HZ2 := Lib.hid (moves_any c.edits g dv dr ev rv c.num c.client c.text b (b + 1) (b + 1 + 1) v1 HS1.out.chk HS1.out.eds (HS1.out.edits _ rfl) (by have := HW.out.len; omega))
  obtain ⟨e2, he2⟩ : ∃ x, movesE c.edits = x := ⟨_, rfl⟩
  rw [he2] at HZ2
  have HE2 := Lib.hid he2
  clear he2
  go_wp2_with fail
  refine HZ2.out.mono ?_
  rintro e v2 ⟨rfl, hv⟩
  clear t2 HZ2
  by_cases h2 : e2 = 0
  case neg =>
    have q : (e2 != 0) = true := by simpa using h2
    have HA : Hid (appE d c = e2) := Lib.hid (by unfold appE; rw [HE0.out, firstE_skip, HE1.out, firstE_skip,  HE2.out, firstE_ne h2])
    have HN := Lib.hid h2
    have hbx := (HS1.out.below hv).bel
    have hR4 := (HS1.out.below hv).boxR
    have HBX := Lib.hid hbx
    clear h2 hbx hv HS1
    obtain ⟨r0, r1, f0, f1⟩ := box2 hR4
    go_wp2_with fail
    have hR5 := (hR4.set_ 0 (.slice none 0 0)).set_ 1 (.slice none 0 0)
    have hB5 := (HBX.out.setCell (p := ⟨w.heap.size + 1 + 1, 0, none⟩) (by simp; omega) (.slice none 0 0)).setCell (p := ⟨w.heap.size + 1 + 1, 1, none⟩) (by simp; omega) (.slice none 0 0)
    clear r0 r1 f0 f1 hR4
    generalize (v2.setCell ⟨w.heap.size + 1 + 1, 0, none⟩ (.slice none 0 0)).setCell ⟨w.heap.size + 1 + 1, 1, none⟩ (.slice none 0 0) = W5 at hR5 hB5 ⊢
    obtain ⟨r0, r1, -, -⟩ := box2 hR5
    refine bodyPost_ret (v := .tuple #[.agg #[.slice none 0 0, .slice none 0 0], .int .i64 e2]) (by simp [results, Tryz.results23, go_sem, r0, r1]) rfl (HF.out W5 e2 hB5 HN.out HA.out)
  subst h2
  have HV2 : Hid ((0 : Int) = 0) := Lib.hid rfl
  have HS2 := Lib.hid (HS1.out.below hv)
  clear hv HS1 HV2
  go_wp2_with fail
  rw [rounds_succ]
  have t3 : v2.cell? ⟨gs, 3, none⟩ = some (.func (.func 82) #[.pointer (some ⟨g, 0, none⟩)] #[]) := HS2.out.stp.cell 3
  have HZ3 := Lib.hid (records_any d.revs c g dv dr ev rv b (b + 1) (b + 1 + 1) v2 HS2.out.chk HS2.out.revs HS2.out.last (HS2.out.edits _ rfl) HS2.out.lines HS2.out.rcs (by have := HD.out.len; omega) (by have := HW.out.rlen; omega) HW.out.rec_ (fun p => (HD.out.lastNum p).1) (fun p => by have := (HD.out.lastNum p).2; have := HD.out.len; omega) (appE_bases HD.out HE1.out))
  obtain ⟨e3, he3⟩ : ∃ x, recsE d.revs c = x := ⟨_, rfl⟩
  rw [he3] at HZ3
  have HE3 := Lib.hid he3
  clear he3
  go_wp2_with fail
  refine HZ3.out.mono ?_
  rintro e v3 ⟨rfl, hv⟩
  clear t3 HZ3
  by_cases h3 : e3 = 0
  case neg =>
    have q : (e3 != 0) = true := by simpa using h3
    have HA : Hid (appE d c = e3) := Lib.hid (by unfold appE; rw [HE0.out, firstE_skip, HE1.out, firstE_skip, HE2.out, firstE_skip,  HE3.out, firstE_ne h3])
    have HN := Lib.hid h3
    have hbx := (HS2.out.below hv).bel
    have hR4 := (HS2.out.below hv).boxR
    have HBX := Lib.hid hbx
    clear h3 hbx hv HS2
    obtain ⟨r0, r1, f0, f1⟩ := box2 hR4
    go_wp2_with fail
    have hR5 := (hR4.set_ 0 (.slice none 0 0)).set_ 1 (.slice none 0 0)
    have hB5 := (HBX.out.setCell (p := ⟨w.heap.size + 1 + 1, 0, none⟩) (by simp; omega) (.slice none 0 0)).setCell (p := ⟨w.heap.size + 1 + 1, 1, none⟩) (by simp; omega) (.slice none 0 0)
    clear r0 r1 f0 f1 hR4
    generalize (v3.setCell ⟨w.heap.size + 1 + 1, 0, none⟩ (.slice none 0 0)).setCell ⟨w.heap.size + 1 + 1, 1, none⟩ (.slice none 0 0) = W5 at hR5 hB5 ⊢
    obtain ⟨r0, r1, -, -⟩ := box2 hR5
    refine bodyPost_ret (v := .tuple #[.agg #[.slice none 0 0, .slice none 0 0], .int .i64 e3]) (by simp [results, Tryz.results23, go_sem, r0, r1]) rfl (HF.out W5 e3 hB5 HN.out HA.out)
  subst h3
  have HV3 : Hid ((0 : Int) = 0) := Lib.hid rfl
  have HS3 := Lib.hid (HS2.out.below hv)
  clear hv HS2 HV3
  go_wp2_with fail
  rw [rounds_succ]
  have t4 : v3.cell? ⟨gs, 4, none⟩ = some (.func (.func 83) #[.pointer (some ⟨g, 0, none⟩)] #[]) := HS3.out.stp.cell 4
  have HZ4 := Lib.hid (room_any d c g dv dr ev rv b (b + 1) (b + 1 + 1) v3 HS3.out.chk HS3.out.revs HS3.out.recs HS3.out.eds HS3.out.rcs (by have := HD.out.len; omega) (by have := HD.out.rlen; omega) (by have := HW.out.len; omega) (by have := HW.out.rlen; omega))
  obtain ⟨e4, he4⟩ : ∃ x, roomE d c = x := ⟨_, rfl⟩
  rw [he4] at HZ4
  have HE4 := Lib.hid he4
  clear he4
  go_wp2_with fail
  refine HZ4.out.mono ?_
  rintro e v4 ⟨rfl, hv⟩
  clear t4 HZ4
  by_cases h4 : e4 = 0
  case neg =>
    have q : (e4 != 0) = true := by simpa using h4
    have HA : Hid (appE d c = e4) := Lib.hid (by unfold appE; rw [HE0.out, firstE_skip, HE1.out, firstE_skip, HE2.out, firstE_skip, HE3.out, firstE_skip,  HE4.out, firstE_ne h4])
    have HN := Lib.hid h4
    have hbx := (HS3.out.below hv).bel
    have hR4 := (HS3.out.below hv).boxR
    have HBX := Lib.hid hbx
    clear h4 hbx hv HS3
    obtain ⟨r0, r1, f0, f1⟩ := box2 hR4
    go_wp2_with fail
    have hR5 := (hR4.set_ 0 (.slice none 0 0)).set_ 1 (.slice none 0 0)
    have hB5 := (HBX.out.setCell (p := ⟨w.heap.size + 1 + 1, 0, none⟩) (by simp; omega) (.slice none 0 0)).setCell (p := ⟨w.heap.size + 1 + 1, 1, none⟩) (by simp; omega) (.slice none 0 0)
    clear r0 r1 f0 f1 hR4
    generalize (v4.setCell ⟨w.heap.size + 1 + 1, 0, none⟩ (.slice none 0 0)).setCell ⟨w.heap.size + 1 + 1, 1, none⟩ (.slice none 0 0) = W5 at hR5 hB5 ⊢
    obtain ⟨r0, r1, -, -⟩ := box2 hR5
    refine bodyPost_ret (v := .tuple #[.agg #[.slice none 0 0, .slice none 0 0], .int .i64 e4]) (by simp [results, Tryz.results23, go_sem, r0, r1]) rfl (HF.out W5 e4 hB5 HN.out HA.out)
  subst h4
  have HV4 : Hid ((0 : Int) = 0) := Lib.hid rfl
  have HS4 := Lib.hid (HS3.out.below hv)
  clear hv HS3 HV4
  go_wp2_with fail
  rw [rounds_succ]
  have HA : Hid (appE d c = 0) := Lib.hid (by unfold appE; rw [HE0.out, firstE_skip, HE1.out, firstE_skip, HE2.out, firstE_skip, HE3.out, firstE_skip, HE4.out, firstE_skip]; rfl)
  have HG := Lib.hid (appE_goods HD.out HW.out HE1.out HE3.out)
  clear HE0 HE1 HE2 HE3 HE4
  go_upto_region 9 with fail
  generalize v4 = V at HS4 ⊢
  clear HNC HW1
  have HCL := Lib.hid (fun X (hX : Below V.heap.size V X) => clone_own d.revs dv V X hX (HS4.out.revs.below hX) (by have := HD.out.len; omega))
  have HCC := Lib.hid (fun X gq (hX : Below V.heap.size V X) (hq : Blk X gq 26 [dr, rv]) => concat_own d.recs c.recs dr rv gq V X hX hq (HS4.out.recs.below hX) (HS4.out.rcs.below hX) (by have := HD.out.rlen; omega) (by have := HW.out.rlen; omega))
  have hkc : ∀ w', Below V.heap.size V w' → w'.cell? ⟨w.heap.size, 0, none⟩ = some dv ∧ w'.cell? ⟨w.heap.size, 1, none⟩ = some dr ∧ w'.cell? ⟨w.heap.size + 1, 4, none⟩ = some rv := fun w' hb =>
    ⟨(HS4.out.below hb).boxD.cell 0, (HS4.out.below hb).boxD.cell 1, (HS4.out.below hb).boxC.cell 4⟩
  have HC := Lib.hid hkc
  clear hkc
  go_cut [10] (fun s10 wx => ∃ (g10 : Nat) (v1 v2 : Value), s10 = .pointer (some ⟨g10, 0, none⟩) ∧ Hid (ApR V wx g10 v1 v2 d.revs.length (d.recs.length + c.recs.length) (d.revs.flatMap Rev.cells) ((d.recs ++ c.recs).flatMap Rcd.cells)))
  case first => as_aux_lemma =>
    rw [HDV.out] at HC HCL
    rw [HDR.out, HRV.out] at HC HCC
    go_region_held3 (fun w' => Below V.heap.size V w' ∧ w'.cell? ⟨w.heap.size, 0, none⟩ = some (.slice Av d.revs.length cv) ∧ w'.cell? ⟨w.heap.size, 1, none⟩ = some (.slice Aq d.recs.length cq) ∧ w'.cell? ⟨w.heap.size + 1, 4, none⟩ = some (.slice Ac c.recs.length cc))
      ((refine and_of ?_ (HC.out _); repeat (first | with_reducible assumption | with_reducible exact Below.refl _ _ | with_reducible refine Below.drew ?_ | with_reducible refine below_alloc' ?_ _ | refine Below.setCell ?_ (by first | exact hS6.size | (have := hS6.size; simp; omega) | (have := hS5.size; simp; omega) | (simp; done)) _)))
      (first
        | (go_at_call 49; refine (HCL.out _ ?_).mono ?_; (repeat (first | with_reducible exact Below.refl _ _ | with_reducible refine Below.drew ?_ | with_reducible refine below_alloc' ?_ _)); rintro e w5 ⟨A5, c5, rfl, hS5, hO5, hX5⟩)
        | (go_at_call 50; refine (HCC.out _ _ ?_ ?_).mono ?_; (repeat (first | with_reducible assumption | with_reducible refine Below.drew ?_ | with_reducible refine below_alloc' ?_ _)); (first | with_reducible exact blk_new _ _ _ | with_reducible exact blk_at (World.size_alloc _ _).symm | with_reducible exact Blk.alloc (blk_new _ _ _) _ | with_reducible exact Blk.below' (blk_new _ _ _) hX5 | with_reducible exact Blk.alloc (Blk.below' (blk_new _ _ _) hX5) _ | with_reducible exact Blk.below' (Blk.drew' (blk_new _ _ _)) hX5 | with_reducible exact Blk.alloc (Blk.below' (Blk.drew' (blk_new _ _ _)) hX5) _ | with_reducible exact Blk.below' (blk_at (World.size_alloc _ _).symm) hX5 | with_reducible exact Blk.alloc (Blk.below' (blk_at (World.size_alloc _ _).symm) hX5) _ | with_reducible exact Blk.below' (Blk.drew' (blk_at (World.size_alloc _ _).symm)) hX5 | with_reducible exact Blk.alloc (Blk.below' (Blk.drew' (blk_at (World.size_alloc _ _).symm)) hX5) _ | with_reducible exact Blk.below' (Blk.alloc (blk_new _ _ _) _) hX5 | with_reducible exact Blk.alloc (Blk.below' (Blk.alloc (blk_new _ _ _) _) hX5) _ | with_reducible exact Blk.below' (Blk.drew' (Blk.alloc (blk_new _ _ _) _)) hX5 | with_reducible exact Blk.alloc (Blk.below' (Blk.drew' (Blk.alloc (blk_new _ _ _) _)) hX5) _ | exact blk_new _ _ _ | exact blk_at (World.size_alloc _ _).symm | exact Blk.alloc (blk_new _ _ _) _ | exact Blk.below' (blk_new _ _ _) hX5 | exact Blk.alloc (Blk.below' (blk_new _ _ _) hX5) _ | exact Blk.below' (Blk.drew' (blk_new _ _ _)) hX5 | exact Blk.alloc (Blk.below' (Blk.drew' (blk_new _ _ _)) hX5) _ | exact Blk.below' (blk_at (World.size_alloc _ _).symm) hX5 | exact Blk.alloc (Blk.below' (blk_at (World.size_alloc _ _).symm) hX5) _ | exact Blk.below' (Blk.drew' (blk_at (World.size_alloc _ _).symm)) hX5 | exact Blk.alloc (Blk.below' (Blk.drew' (blk_at (World.size_alloc _ _).symm)) hX5) _ | exact Blk.below' (Blk.alloc (blk_new _ _ _) _) hX5 | exact Blk.alloc (Blk.below' (Blk.alloc (blk_new _ _ _) _) hX5) _ | exact Blk.below' (Blk.drew' (Blk.alloc (blk_new _ _ _) _)) hX5 | exact Blk.alloc (Blk.below' (Blk.drew' (Blk.alloc (blk_new _ _ _) _)) hX5) _); rintro e w6 ⟨A6, c6, rfl, hS6, hO6, hX6⟩; (first | (have hB10 := Blk.below' (blk_new _ [.slice none 0 0, .slice none 0 0] 28) hX6; (try simp only [World.size_alloc] at hB10); obtain ⟨r0, r1, f0, f1⟩ := box2 hB10) | (have hB10 := Blk.below' (Blk.alloc (blk_new _ [.slice none 0 0, .slice none 0 0] 28) _) hX6; (try simp only [World.size_alloc] at hB10); obtain ⟨r0, r1, f0, f1⟩ := box2 hB10) | (have hB10 := Blk.below' (Blk.below' (blk_new _ [.slice none 0 0, .slice none 0 0] 28) hX5) hX6; (try simp only [World.size_alloc] at hB10); obtain ⟨r0, r1, f0, f1⟩ := box2 hB10) | (have hB10 := Blk.below' (Blk.alloc (Blk.below' (blk_new _ [.slice none 0 0, .slice none 0 0] 28) hX5) _) hX6; (try simp only [World.size_alloc] at hB10); obtain ⟨r0, r1, f0, f1⟩ := box2 hB10) | (have hB10 := Blk.below' (Blk.below' (Blk.drew' (blk_new _ [.slice none 0 0, .slice none 0 0] 28)) hX5) hX6; (try simp only [World.size_alloc] at hB10); obtain ⟨r0, r1, f0, f1⟩ := box2 hB10) | (have hB10 := Blk.below' (Blk.alloc (Blk.below' (Blk.drew' (blk_new _ [.slice none 0 0, .slice none 0 0] 28)) hX5) _) hX6; (try simp only [World.size_alloc] at hB10); obtain ⟨r0, r1, f0, f1⟩ := box2 hB10) | (have hB10 := Blk.below' (Blk.below' (Blk.alloc (blk_new _ [.slice none 0 0, .slice none 0 0] 28) _) hX5) hX6; (try simp only [World.size_alloc] at hB10); obtain ⟨r0, r1, f0, f1⟩ := box2 hB10) | (have hB10 := Blk.below' (Blk.alloc (Blk.below' (Blk.alloc (blk_new _ [.slice none 0 0, .slice none 0 0] 28) _) hX5) _) hX6; (try simp only [World.size_alloc] at hB10); obtain ⟨r0, r1, f0, f1⟩ := box2 hB10) | (have hB10 := Blk.below' (Blk.below' (Blk.drew' (Blk.alloc (blk_new _ [.slice none 0 0, .slice none 0 0] 28) _)) hX5) hX6; (try simp only [World.size_alloc] at hB10); obtain ⟨r0, r1, f0, f1⟩ := box2 hB10) | (have hB10 := Blk.below' (Blk.alloc (Blk.below' (Blk.drew' (Blk.alloc (blk_new _ [.slice none 0 0, .slice none 0 0] 28) _)) hX5) _) hX6; (try simp only [World.size_alloc] at hB10); obtain ⟨r0, r1, f0, f1⟩ := box2 hB10) | skip)))
    all_goals
      first
        | (have hq := apR_of (V := V) (by repeat (first | with_reducible exact Below.refl _ _ | with_reducible refine Below.drew ?_ | with_reducible refine below_alloc' ?_ _)) hX5 (by repeat (first | with_reducible exact Below.refl _ _ | with_reducible refine Below.drew ?_ | with_reducible refine below_alloc' ?_ _)) hX6 (Below.refl _ _) hO5 hO6 hB10 (by simp only [drew_heap, World.size_alloc]; omega)
           clear r0 r1 f0 f1 hB10 hO5 hO6 hX5 hX6 hS5 hS6
           go_wp2_with fail
           go_meet
           exact ⟨_, _, _, rfl, hq⟩)
        | (have hq := apR_of2 (V := V) (by repeat (first | with_reducible exact Below.refl _ _ | with_reducible refine Below.drew ?_ | with_reducible refine below_alloc' ?_ _)) hX5 (by repeat (first | with_reducible exact Below.refl _ _ | with_reducible refine Below.drew ?_ | with_reducible refine below_alloc' ?_ _)) hX6 hO5 hO6
           clear hO5 hO6 hX5 hX6 hS5 hS6
           go_wp2_with fail
           go_meet
           exact ⟨_, _, _, rfl, hq⟩)
  case rest => as_aux_lemma =>
    obtain ⟨g10, v1, v2, rfl, HR⟩ := hcut
    clear HCL HCC HC HF
    have e3 : wc.cell? ⟨w.heap.size + 1, 3, none⟩ = some ev := (HS4.out.below HR.out.bel).boxC.cell 3
    rw [HEV.out] at e3
    obtain ⟨B, hB⟩ : ∃ B, B = V.heap.size := ⟨_, rfl⟩
    go_wp2_with fail
    clear e3
    go_loopw [43] (fun s wr => ∃ (k : Nat) (v1 : Value), s = .int .i64 k ∧ k ≤ c.edits.length ∧ Hid (ApR V wr g10 v1 v2 (d.revs.length + k) (d.recs.length + c.recs.length) ((d.revs ++ (c.edits.take k).map (madeR (lastOf d.revs) c.num)).flatMap Rev.cells) ((d.recs ++ c.recs).flatMap Rcd.cells))) (fun s _ => c.edits.length - (intOf s).toNat)
    case atStart => exact ⟨0, v1, rfl, Nat.zero_le _, by have := HR.out; rw [List.take_zero, List.map_nil, List.append_nil, Nat.add_zero]; exact this⟩
    case round =>
      obtain ⟨k, v1, rfl, hk, HK⟩ := hrel
      by_cases hlt : k < c.edits.length
      · have hEa := (HS4.out.below HK.out.bel).eds
        rw [HEV.out] at hEa
        obtain ⟨ad, rfl, hab, hld⟩ := Edts.at_ hEa hlt
        have HT := Lib.hid (show c.edits.take (k + 1) = c.edits.take k ++ [c.edits[k]] from List.take_succ_eq_append_getElem hlt)
        have hxm := HD.out.lastNum c.edits[k].path
        generalize c.edits[k] = x at hld HT hxm
        obtain ⟨x0, x1, x2, x3, x4, x5, x6, x7, x8, x9, x10, x11⟩ := hld
        have hX1 := blk_new wr [.string x.path, .int .i64 x.act, .int .i64 x.ty.base, .bool x.ty.k, .bool x.ty.l, .bool x.ty.x, .int .u64 x.sum, .int .i64 x.size, .int .i64 x.base, .string x.frm, .int .i64 x.fnum, .int .i64 x.fence] 58
        have hA1 : Below wr.heap.size wr (wr.alloc (.cells #[.string x.path, .int .i64 x.act, .int .i64 x.ty.base, .bool x.ty.k, .bool x.ty.l, .bool x.ty.x, .int .u64 x.sum, .int .i64 x.size, .int .i64 x.base, .string x.frm, .int .i64 x.fnum, .int .i64 x.fence] 58)) := (Below.refl _ _).alloc (Nat.le_refl _) _
        clear hEa
        go_upto_region 13 with fail
        clear x0 x1 x2 x3 x4 x5 x6 x7 x8 x9 x10 x11
        generalize wr.alloc (.cells #[.string x.path, .int .i64 x.act, .int .i64 x.ty.base, .bool x.ty.k, .bool x.ty.l, .bool x.ty.x, .int .u64 x.sum, .int .i64 x.size, .int .i64 x.base, .string x.frm, .int .i64 x.fnum, .int .i64 x.fence] 58) = V1 at hX1 hA1 ⊢
        have HRV2 := Lib.hid (fun X (hX : Below V1.heap.size V1 X) => revision_any (lastOf d.revs) x g dv dr ev rv c.num c.client c.text b (b + 1) (b + 1 + 1) X ((HS4.out.below (below_next (below_next HK.out.bel hA1) hX)).chk) ((HS4.out.below (below_next (below_next HK.out.bel hA1) hX)).last) hxm.1 (by have := HD.out.len; omega))
        have HAR := Lib.hid (HK.out.under hA1)
        have HX1 := Lib.hid hX1
        have hle1 : V.heap.size ≤ wr.heap.size := HK.out.bel.size
        have HNE : Hid (v1.ownBlock ≠ some wr.heap.size) := Lib.hid fun e => by have := HK.out.one.lt _ e; omega
        have hk2 : d.revs.length + k ≤ 100000 := by have := HD.out.len; have := HW.out.len; omega
        clear hX1
        refine region13 _ (by kernel_rfl) _ g g10 wr.heap.size (d.revs.length + k) (d.recs.length + c.recs.length) x (madeR (lastOf d.revs) c.num x) v1 v2 _ _ V V1 HAR.out HX1.out hle1 HNE.out hk2 HRV2.out _ _ _ _ _ _ _ _ _ _ _ _ _ _ _ _ _ _ _ _ _ _ _ _ _ _ _ _ _ _ _ _ _ _ _ _ _ _ _ _ _ _ _ _ _ _ _ _ _ _ _ _ _ _ _ _ _ ?_
        intro t47 t48 t49 t50 t51 t52 t53 t54 v3 w6 HQ
        go_wp2_with fail
        go_roundw
        case rel =>
          refine ⟨k + 1, v3, by go_num, by omega, ?_⟩
          have := HQ.out
          rw [HT.out, List.map_append, List.map_cons, List.map_nil, ← List.append_assoc, List.flatMap_append, List.flatMap_cons, List.flatMap_nil, List.append_nil]
          exact this
        case measure => simp [intOf]; omega
      · have hkk : k = c.edits.length := by omega
        subst hkk
        have hR2 := HK.out
        rw [List.take_length] at hR2
        obtain ⟨A1, c1, hv1⟩ := own_slice hR2.one
        obtain ⟨A2, c2, hv2⟩ := own_slice hR2.two
        subst hv1 hv2
        obtain ⟨lg, hl1, hl2, hl3⟩ := goods_list (l := d.recs ++ c.recs) (fun r hr => by
          rcases List.mem_append.1 hr with hr | hr
          · exact HD.out.rec_ r hr
          · exact HG.out r hr)
        have HSR := Lib.hid (sortStable_any lg (.slice A2 (d.recs.length + c.recs.length) c2) V.heap.size wr (by rw [hl2, hl3, List.length_append]; exact hR2.two) (by rw [hl2, List.length_append]; have := HD.out.rlen; have := HW.out.rlen; omega))
        rw [hl2, List.length_append] at HSR
        have HL1 := Lib.hid hl1
        have b1' : wr.cell? ⟨g10, 1, none⟩ = some (.slice A2 (d.recs.length + c.recs.length) c2) := hR2.box.cell 1
        have HR2 := Lib.hid hR2
        clear hl1 hl2 hl3 hR2 HK
        go_wp2_with fail
        refine HSR.out.mono ?_
        rintro e w6 ⟨rfl, l', hp, hs, ho, hgr⟩
        have hb6 : Below V.heap.size V w6 := HR2.out.bel.grown hgr HR2.out.bel.size (fun j e => (HR2.out.two.lt j e).1)
        have hbx := HR2.out.box.grown hgr (fun e => HR2.out.ne2 e.symm)
        have hon := own_grown HR2.out.one hgr (fun x e e2 => HR2.out.ne12 x e e2)
        have hre := (HS4.out.below hb6).boxR
        have hbw := (HS4.out.below hb6).bel
        have hler := (HS4.out.below hb6).ler
        have hlt6 : w.heap.size + 1 + 1 < V.heap.size := HS4.out.boxR.lt
        have hg10 := HR2.out.le
        have HP : Hid (l'.Perm lg ∧ l'.Pairwise (fun a b => 0 ≤ OkRcd.cmp b a)) := Lib.hid ⟨hp, hs⟩
        have HON := Lib.hid hon
        have HTW := Lib.hid ho
        have HBW := Lib.hid hbw
        clear b1' hp hs hon ho hbw hgr hb6
        obtain ⟨b0, b1, -, -⟩ := box2 hbx
        obtain ⟨r0, r1, f0, f1⟩ := box2 hre
        go_wp2_with fail
        have hR5 := (hre.set_ 0 (.slice A1 (d.revs.length + c.edits.length) c1)).set_ 1 (.slice A2 (d.recs.length + c.recs.length) c2)
        have hB5 := (HBW.out.setCell (p := ⟨w.heap.size + 1 + 1, 0, none⟩) (by simp; omega) (.slice A1 (d.revs.length + c.edits.length) c1)).setCell (p := ⟨w.heap.size + 1 + 1, 1, none⟩) (by simp; omega) (.slice A2 (d.recs.length + c.recs.length) c2)
        have hO5 := Row.of_own (own_setCell (own_setCell HON.out (p := ⟨w.heap.size + 1 + 1, 0, none⟩) (fun e => by have := HR2.out.one.lt _ e; simp at this; omega) (.slice A1 (d.revs.length + c.edits.length) c1)) (p := ⟨w.heap.size + 1 + 1, 1, none⟩) (fun e => by have := HR2.out.one.lt _ e; simp at this; omega) (.slice A2 (d.recs.length + c.recs.length) c2))
        have hT5 := Row.of_own (own_setCell (own_setCell HTW.out (p := ⟨w.heap.size + 1 + 1, 0, none⟩) (fun e => by have := HR2.out.two.lt _ e; simp at this; omega) (.slice A1 (d.revs.length + c.edits.length) c1)) (p := ⟨w.heap.size + 1 + 1, 1, none⟩) (fun e => by have := HR2.out.two.lt _ e; simp at this; omega) (.slice A2 (d.recs.length + c.recs.length) c2))
        clear b0 b1 r0 r1 f0 f1 hre hbx
        generalize (w6.setCell ⟨w.heap.size + 1 + 1, 0, none⟩ (.slice A1 (d.revs.length + c.edits.length) c1)).setCell ⟨w.heap.size + 1 + 1, 1, none⟩ (.slice A2 (d.recs.length + c.recs.length) c2) = W5 at hR5 hB5 hO5 hT5 ⊢
        obtain ⟨r0, r1, -, -⟩ := box2 hR5
        refine bodyPost_ret (v := .tuple #[.agg #[.slice A1 (d.revs.length + c.edits.length) c1, .slice A2 (d.recs.length + c.recs.length) c2], .int .i64 0]) (by simp [results, Tryz.results23, go_sem, r0, r1]) rfl ?_
        refine ⟨hB5, .inr ⟨HA.out, _, _, l'.map (·.1), rfl, ?_, ?_, ?_, ?_, fun x e => Nat.le_trans HS4.out.bel.size (HR2.out.one.lt x e).1, fun x e => Nat.le_trans HS4.out.bel.size (HR2.out.two.lt x e).1⟩⟩
        · unfold Revs newRevs
          rw [List.length_append, List.length_map]
          exact hO5
        · unfold Rcds
          rw [List.length_map, HP.out.1.length_eq, ← List.length_map (f := fun x : OkRcd => x.1), HL1.out, List.length_append, ← enc_list]
          exact hT5
        · have := HP.out.1.map (fun x : OkRcd => x.1)
          rw [HL1.out] at this
          exact this
        · rw [List.pairwise_map]
          exact HP.out.2
end Go.Proofs.YtmhmnchdhacdbaaGreatDoor
/- Slices of changes; the statements' own Small and play. -/
namespace Go.Proofs.YtmhmnchdhacdbaaGreatDoor
open Go.RowKit
set_option linter.unusedVariables false
set_option linter.unusedSimpArgs false

/-- A change with the slices that it has in memory. -/
abbrev ChV := Chg × Value × Value
def ChV.cells (p : ChV) : List Value := [.int .i64 p.1.num, .string p.1.client, .string p.1.text, p.2.1, p.2.2]
def ChV.ok (w : World) (p : ChV) : Prop := Edts w p.2.1 p.1.edits ∧ Rcds w p.2.2 p.1.recs
def Chgs (w : World) (v : Value) (ps : List ChV) : Prop := Row w 5 v ps.length (ps.flatMap ChV.cells) ∧ ∀ p ∈ ps, p.ok w
theorem ChV.ok_below {w w' : World} {p : ChV} (h : p.ok w) (hb : Below w.heap.size w w') : p.ok w' := ⟨h.1.below hb, h.2.below hb⟩
theorem Chgs.below {w w' : World} {v : Value} {ps : List ChV} (h : Chgs w v ps) (hb : Below w.heap.size w w') : Chgs w' v ps := ⟨Row.below h.1 hb, fun p hp => ChV.ok_below (h.2 p hp) hb⟩
def ChAt (w : World) (a : Addr) (p : ChV) : Prop := w.cell? a = some (.int .i64 p.1.num) ∧ w.cell? ⟨a.block, a.off + 1, none⟩ = some (.string p.1.client) ∧ w.cell? ⟨a.block, a.off + 2, none⟩ = some (.string p.1.text) ∧ w.cell? ⟨a.block, a.off + 3, none⟩ = some p.2.1 ∧ w.cell? ⟨a.block, a.off + 4, none⟩ = some p.2.2
theorem Chgs.at_ {w : World} {A : Option Addr} {c : Nat} {l : List ChV} (h : Chgs w (.slice A l.length c) l) {k : Nat} (hk : k < l.length) :
    ∃ ad, A = some ad ∧ ad.block < w.heap.size ∧ ChAt w (ad.add (k * 5)) l[k] := by
  obtain ⟨ad, e, hb, hc⟩ := row_at (f := ChV.cells) (n := 5) (fun _ => rfl) h.1 hk
  exact ⟨ad, e, hb, hc 0 _ rfl, hc 1 _ rfl, hc 2 _ rfl, hc 3 _ rfl, hc 4 _ rfl⟩

def edtSm (x : Edt) : Prop := x.path.size + x.frm.size ≤ 500
def rcdSm (x : Rcd) : Prop := x.frm.size + x.to.size ≤ 500
def chgSm (c : Chg) : Prop := (∀ x ∈ c.edits, edtSm x) ∧ ∀ x ∈ c.recs, rcdSm x
def chgLen (c : Chg) : Nat := c.edits.length + c.recs.length
def lenSum (l : List Chg) : Nat := (l.map chgLen).sum
def smallL (l : List Chg) : Prop := (∀ c ∈ l, chgSm c) ∧ l.length ≤ 40 ∧ lenSum l ≤ 200
theorem lenSum_snoc (l : List Chg) (c : Chg) : lenSum (l ++ [c]) = lenSum l + chgLen c := by unfold lenSum; simp
theorem lenSum_mem {l : List Chg} {c : Chg} (h : c ∈ l) : chgLen c ≤ lenSum l := by
  induction l with
  | nil => cases h
  | cons x l ih =>
    unfold lenSum at ih ⊢
    simp only [List.map_cons, List.sum_cons]
    rcases List.mem_cons.1 h with rfl | h
    · omega
    · have := ih h; omega

def SmPost (w : World) (l : List Chg) (e : Ending) (w' : World) : Prop := ∃ b, e = .returned (.bool b) ∧ Below w.heap.size w w' ∧ (b = true → smallL l)
set_option maxRecDepth 100000 in
set_option maxHeartbeats 8000000 in
theorem small_any (ps : List ChV) (v : Value) (w : World) (hP : Chgs w v ps) (hl : ps.length ≤ 10000000000000) (hs : ∀ p ∈ ps, chgLen p.1 ≤ 10000000000000) (hz : ∀ p ∈ ps, (∀ x ∈ p.1.edits, x.path.size ≤ 140737488355328 ∧ x.frm.size ≤ 140737488355328) ∧ ∀ x ∈ p.1.recs, x.frm.size ≤ 140737488355328 ∧ x.to.size ≤ 140737488355328) :
    Calls Tryz.prog 6 #[v] w (SmPost w (ps.map (·.1))) := by
  obtain ⟨A, c, rfl, hc, hm, -⟩ := id hP.1
  have HP := Lib.hid hP
  have HS := Lib.hid hs
  have HZ := Lib.hid hz
  unfold maxLen at hm
  clear hP hs hz
  go_enter Tryz.func6, Tryz.ntmps6
  go_wp2_with fail
  go_loopw [3, 12] (fun s t wr => ∃ (k : Nat) (tot : Int), s = .int .i64 tot ∧ t = .int .i64 k ∧ k ≤ ps.length ∧ Hid ((k ≤ 40 → tot = lenSum ((ps.take k).map (·.1)) ∧ 0 ≤ tot ∧ tot ≤ k * 10000000000000) ∧ (∀ p ∈ ps.take k, chgSm p.1) ∧ Below w.heap.size w wr)) (fun _ t _ => ps.length - (intOf t).toNat)
  case atStart => exact ⟨0, 0, rfl, rfl, Nat.zero_le _, fun _ => ⟨rfl, by omega, by omega⟩, fun p hp => by simp at hp, Below.refl _ _⟩
  case round =>
    obtain ⟨k, tot, rfl, rfl, hk, HI⟩ := hrel
    by_cases hlt : k < ps.length
    · have hPr := HP.out.below HI.out.2.2
      obtain ⟨ad, rfl, hab, hld⟩ := Chgs.at_ hPr hlt
      have HT := Lib.hid (show ps.take (k + 1) = ps.take k ++ [ps[k]] from List.take_succ_eq_append_getElem hlt)
      have hpm : ps[k] ∈ ps := List.getElem_mem _
      have hok := hPr.2 ps[k] hpm
      have hcl := HS.out ps[k] hpm
      have HPM := Lib.hid (HZ.out ps[k] hpm)
      generalize ps[k] = p at hld HT hok hcl HPM
      clear hpm hPr
      obtain ⟨ch, ev, rv⟩ := p
      obtain ⟨Ae, ce, he, -⟩ := id hok.1
      obtain ⟨Ac, cc, hc2, -⟩ := id hok.2
      change ev = .slice Ae ch.edits.length ce at he
      change rv = .slice Ac ch.recs.length cc at hc2
      subst he hc2
      obtain ⟨x0, x1, x2, x3, x4⟩ := hld
      change wr.cell? (ad.add (k * 5)) = some (.int .i64 ch.num) at x0
      change wr.cell? ⟨(ad.add (k * 5)).block, (ad.add (k * 5)).off + 1, none⟩ = some (.string ch.client) at x1
      change wr.cell? ⟨(ad.add (k * 5)).block, (ad.add (k * 5)).off + 2, none⟩ = some (.string ch.text) at x2
      change wr.cell? ⟨(ad.add (k * 5)).block, (ad.add (k * 5)).off + 3, none⟩ = some (.slice Ae ch.edits.length ce) at x3
      change wr.cell? ⟨(ad.add (k * 5)).block, (ad.add (k * 5)).off + 4, none⟩ = some (.slice Ac ch.recs.length cc) at x4
      unfold chgLen at hcl
      change ch.edits.length + ch.recs.length ≤ 10000000000000 at hcl
      have HOK : Hid (Edts wr (.slice Ae ch.edits.length ce) ch.edits ∧ Rcds wr (.slice Ac ch.recs.length cc) ch.recs) := Lib.hid hok
      clear hok
      have hX1 := blk_new wr [.int .i64 ch.num, .string ch.client, .string ch.text, .slice Ae ch.edits.length ce, .slice Ac ch.recs.length cc] 56
      have hA1 : Below wr.heap.size wr (wr.alloc (.cells #[.int .i64 ch.num, .string ch.client, .string ch.text, .slice Ae ch.edits.length ce, .slice Ac ch.recs.length cc] 56)) := (Below.refl _ _).alloc (Nat.le_refl _) _
      go_upto_region 5 with fail
      clear x0 x1 x2 x3 x4
      generalize wr.alloc (.cells #[.int .i64 ch.num, .string ch.client, .string ch.text, .slice Ae ch.edits.length ce, .slice Ac ch.recs.length cc] 56) = V1 at hX1 hA1 ⊢
      generalize wr = wq at hX1 hA1 HOK HI hab ⊢
      obtain ⟨-, -, -, y3, y4⟩ := box5 hX1
      go_wp2_with fail
      clear y3 y4
      have HX1 := Lib.hid hX1
      have HA1 := Lib.hid hA1
      clear hX1 hA1
      go_loopw [28] (fun s wy => ∃ j : Nat, s = .int .i64 j ∧ j ≤ ch.edits.length ∧ Hid ((∀ x ∈ ch.edits.take j, edtSm x) ∧ Below V1.heap.size V1 wy)) (fun s _ => ch.edits.length - (intOf s).toNat)
      case atStart => exact ⟨0, rfl, Nat.zero_le _, fun x hx => by simp at hx, Below.refl _ _⟩
      case round =>
        obtain ⟨j, rfl, hj, HJ⟩ := hrel
        by_cases hjl : j < ch.edits.length
        · have hEd := (HOK.out.1.below HA1.out).below HJ.out.2
          obtain ⟨ad2, rfl, hab2, hld2⟩ := Edts.at_ hEd hjl
          have HTJ := Lib.hid (show ch.edits.take (j + 1) = ch.edits.take j ++ [ch.edits[j]] from List.take_succ_eq_append_getElem hjl)
          have hzz := HPM.out.1 ch.edits[j] (List.getElem_mem _)
          generalize ch.edits[j] = x at hld2 HTJ hzz
          obtain ⟨x0, x1, x2, x3, x4, x5, x6, x7, x8, x9, x10, x11⟩ := hld2
          have hX2 := blk_new wr [.string x.path, .int .i64 x.act, .int .i64 x.ty.base, .bool x.ty.k, .bool x.ty.l, .bool x.ty.x, .int .u64 x.sum, .int .i64 x.size, .int .i64 x.base, .string x.frm, .int .i64 x.fnum, .int .i64 x.fence] 58
          have hb2 : Below V1.heap.size V1 (wr.alloc (.cells #[.string x.path, .int .i64 x.act, .int .i64 x.ty.base, .bool x.ty.k, .bool x.ty.l, .bool x.ty.x, .int .u64 x.sum, .int .i64 x.size, .int .i64 x.base, .string x.frm, .int .i64 x.fnum, .int .i64 x.fence] 58)) := HJ.out.2.alloc HJ.out.2.size _
          clear hEd
          go_upto_region 9 with fail
          clear x0 x1 x2 x3 x4 x5 x6 x7 x8 x9 x10 x11
          generalize wr.alloc (.cells #[.string x.path, .int .i64 x.act, .int .i64 x.ty.base, .bool x.ty.k, .bool x.ty.l, .bool x.ty.x, .int .u64 x.sum, .int .i64 x.size, .int .i64 x.base, .string x.frm, .int .i64 x.fnum, .int .i64 x.fence] 58) = V2 at hX2 hb2 ⊢
          obtain ⟨y0, -, -, -, -, -, -, -, -, y9, -, -⟩ := box12 hX2
          have HB2 := Lib.hid hb2
          clear hX2 hb2
          by_cases hq : x.path.size + x.frm.size ≤ 500
          · have q : decide ((500 : Int) < (x.path.size : Int) + (x.frm.size : Int)) = false := by simp; omega
            have HQ : Hid (edtSm x) := Lib.hid hq
            clear hq
            go_wp2_with fail
            go_roundw
            case rel => exact ⟨j + 1, by go_num, by omega, fun y hy => by
              rw [HTJ.out] at hy
              rcases List.mem_append.1 hy with hy | hy
              · exact HJ.out.1 y hy
              · rw [List.mem_singleton] at hy; subst hy; exact HQ.out, HB2.out⟩
            case measure => simp [intOf]; omega
          · have q : decide ((500 : Int) < (x.path.size : Int) + (x.frm.size : Int)) = true := by simp; omega
            clear hq
            go_wp2_with fail
            go_ret
            exact ⟨false, rfl, below_next HI.out.2.2 (below_next HA1.out HB2.out), fun h => by cases h⟩
        · have hje : j = ch.edits.length := by omega
          subst hje
          have HES : Hid (∀ x ∈ ch.edits, edtSm x) := Lib.hid (by have := HJ.out.1; rwa [List.take_length] at this)
          have y4 : wr.cell? ⟨wq.heap.size, 4, none⟩ = some (.slice Ac ch.recs.length cc) := (HX1.out.below HJ.out.2 HX1.out.lt).cell 4
          have HJB := Lib.hid HJ.out.2
          clear HJ
          go_wp2_with fail
          clear y4
          generalize wr = V3 at HJB ⊢
          go_loopw [44] (fun s wy => ∃ j : Nat, s = .int .i64 j ∧ j ≤ ch.recs.length ∧ Hid ((∀ x ∈ ch.recs.take j, rcdSm x) ∧ Below V3.heap.size V3 wy)) (fun s _ => ch.recs.length - (intOf s).toNat)
          case atStart => exact ⟨0, rfl, Nat.zero_le _, fun x hx => by simp at hx, Below.refl _ _⟩
          case round =>
            obtain ⟨j, rfl, hj, HJ⟩ := hrel
            by_cases hjl : j < ch.recs.length
            · have hEd := ((HOK.out.2.below HA1.out).below HJB.out).below HJ.out.2
              obtain ⟨ad2, rfl, hab2, hld2⟩ := Rcds.at_ hEd hjl
              have HTJ := Lib.hid (show ch.recs.take (j + 1) = ch.recs.take j ++ [ch.recs[j]] from List.take_succ_eq_append_getElem hjl)
              have hzz := HPM.out.2 ch.recs[j] (List.getElem_mem _)
              generalize ch.recs[j] = x at hld2 HTJ hzz
              obtain ⟨x0, x1, x2, x3, x4, x5⟩ := hld2
              have hX2 := blk_new wr [.string x.frm, .int .i64 x.first, .int .i64 x.last, .string x.to, .int .i64 x.num, .int .i64 x.how] 60
              have hb2 : Below V3.heap.size V3 (wr.alloc (.cells #[.string x.frm, .int .i64 x.first, .int .i64 x.last, .string x.to, .int .i64 x.num, .int .i64 x.how] 60)) := HJ.out.2.alloc HJ.out.2.size _
              clear hEd
              go_upto_region 15 with fail
              clear x0 x1 x2 x3 x4 x5
              generalize wr.alloc (.cells #[.string x.frm, .int .i64 x.first, .int .i64 x.last, .string x.to, .int .i64 x.num, .int .i64 x.how] 60) = V2 at hX2 hb2 ⊢
              obtain ⟨y0, -, -, y3, -, -⟩ := box6 hX2
              have HB2 := Lib.hid hb2
              clear hX2 hb2
              by_cases hq : x.frm.size + x.to.size ≤ 500
              · have q : decide ((500 : Int) < (x.frm.size : Int) + (x.to.size : Int)) = false := by simp; omega
                have HQ : Hid (rcdSm x) := Lib.hid hq
                clear hq
                go_wp2_with fail
                go_roundw
                case rel => exact ⟨j + 1, by go_num, by omega, fun y hy => by
                  rw [HTJ.out] at hy
                  rcases List.mem_append.1 hy with hy | hy
                  · exact HJ.out.1 y hy
                  · rw [List.mem_singleton] at hy; subst hy; exact HQ.out, HB2.out⟩
                case measure => simp [intOf]; omega
              · have q : decide ((500 : Int) < (x.frm.size : Int) + (x.to.size : Int)) = true := by simp; omega
                clear hq
                go_wp2_with fail
                go_ret
                exact ⟨false, rfl, below_next HI.out.2.2 (below_next HA1.out (below_next HJB.out HB2.out)), fun h => by cases h⟩
            · have hje : j = ch.recs.length := by omega
              subst hje
              have HRS : Hid (∀ x ∈ ch.recs, rcdSm x) := Lib.hid (by have := HJ.out.1; rwa [List.take_length] at this)
              go_wp2_with fail
              go_roundw
              case rel =>
                refine ⟨k + 1, wrap64 (tot + ((ch.edits.length : Int) + (ch.recs.length : Int))), rfl, by go_num, by omega, ?_, ?_, below_next HI.out.2.2 (below_next HA1.out (below_next HJB.out HJ.out.2))⟩
                · intro h40
                  obtain ⟨i1, i2, i3⟩ := HI.out.1 (by omega)
                  have hwr : wrap64 (tot + ((ch.edits.length : Int) + (ch.recs.length : Int))) = tot + ((ch.edits.length : Int) + (ch.recs.length : Int)) := by unfold wrap64; omega
                  rw [hwr, HT.out, List.map_append, List.map_cons, List.map_nil, lenSum_snoc]
                  refine ⟨?_, by omega, by omega⟩
                  rw [i1]; unfold chgLen; dsimp only; omega
                · intro p hp
                  rw [HT.out] at hp
                  rcases List.mem_append.1 hp with hp | hp
                  · exact HI.out.2.1 p hp
                  · rw [List.mem_singleton] at hp; subst hp; exact ⟨HES.out, HRS.out⟩
              case measure => simp [intOf]; omega
    · have hkk : k = ps.length := by omega
      subst hkk
      have HI2 : Hid ((ps.length ≤ 40 → tot = lenSum (ps.map (·.1)) ∧ 0 ≤ tot ∧ tot ≤ ps.length * 10000000000000) ∧ (∀ c ∈ ps.map (·.1), chgSm c)) := Lib.hid (by
        have h1 := HI.out.1
        have h2 := HI.out.2.1
        rw [List.take_length] at h1 h2
        exact ⟨h1, fun c hc => by obtain ⟨p, hp, rfl⟩ := List.mem_map.1 hc; exact h2 p hp⟩)
      by_cases h40 : ps.length ≤ 40
      · have d1 : decide (ps.length ≤ 40) = true := by simp; omega
        by_cases h200 : tot ≤ 200
        · have d1' : decide ((ps.length : Int) ≤ 40) = true := by simp; omega
          have d2' : decide (tot ≤ 200) = true := by simp; omega
          go_wp2_with fail
          go_ret
          exact ⟨true, rfl, HI.out.2.2, fun _ => ⟨HI2.out.2, by rw [List.length_map]; exact h40, by have := (HI2.out.1 h40).1; omega⟩⟩
        · have d1' : decide ((ps.length : Int) ≤ 40) = true := by simp; omega
          have d2' : decide (tot ≤ 200) = false := by simp; omega
          go_wp2_with fail
          go_ret
          exact ⟨false, rfl, HI.out.2.2, fun h => by cases h⟩
      · have d1' : decide ((ps.length : Int) ≤ 40) = false := by simp; omega
        go_wp2_with fail
        go_ret
        exact ⟨false, rfl, HI.out.2.2, fun h => by cases h⟩
end Go.Proofs.YtmhmnchdhacdbaaGreatDoor
/- The statements' own play. -/
namespace Go.Proofs.YtmhmnchdhacdbaaGreatDoor
open Go.RowKit
set_option linter.unusedVariables false
set_option linter.unusedSimpArgs false

/-- The depots that the changes make, one after the other (the order of equal records is left open). -/
inductive Plays : List Chg → Dep → Prop where
  | nil : Plays [] ⟨[], []⟩
  | skip {l : List Chg} {d : Dep} {c : Chg} : Plays l d → appE d c ≠ 0 → Plays (l ++ [c]) d
  | step {l : List Chg} {d : Dep} {c : Chg} {rs : List Rcd} : Plays l d → appE d c = 0 → rs.Perm (d.recs ++ c.recs) → rs.Pairwise (fun a b => 0 ≤ cmpR b a) → Plays (l ++ [c]) ⟨newRevs d c, rs⟩
theorem depW_nil : DepW ⟨[], []⟩ := ⟨by simp, by simp, fun r hr => by simp at hr, fun r hr => by simp at hr, fun r hr => by simp at hr⟩
theorem small_chgW {c : Chg} (h : chgSm c) (hl : chgLen c ≤ 200) (hr : ∀ r ∈ c.recs, r.last ≤ 9223372036854775807) : ChgW c := by
  unfold chgLen at hl
  refine ⟨by omega, by omega, fun x hx => ?_, fun r hx => ⟨⟨?_, ?_⟩, hr r hx⟩⟩
  · have := h.1 x hx; unfold edtSm at this; omega
  · have := h.2 r hx; unfold rcdSm at this; omega
  · have := h.2 r hx; unfold rcdSm at this; omega
/-- A depot in memory, of which everything that the walks ask is known. -/
def DepAt (w : World) (dv dr : Value) (d : Dep) : Prop := Revs w dv d.revs ∧ Rcds w dr d.recs ∧ DepW d
theorem DepAt.below {w w' : World} {dv dr : Value} {d : Dep} (h : DepAt w dv dr d) (hb : Below w.heap.size w w') : DepAt w' dv dr d := ⟨h.1.below hb, h.2.1.below hb, h.2.2⟩
theorem Row.setCell_far {w : World} {size n g i : Nat} {v u : Value} {xs : List Value} (h : Row w size v n xs) (hne : v.ownBlock ≠ some g) : Row (w.setCell ⟨g, i, none⟩ u) size v n xs := by
  obtain ⟨A, c, rfl, hc, hm, hl, h0, hx⟩ := h
  refine ⟨A, c, rfl, hc, hm, hl, h0, fun hn => ?_⟩
  obtain ⟨ad, rfl, hb, hcell⟩ := hx hn
  refine ⟨ad, rfl, by simpa [World.setCell] using hb, fun j u' hu => ?_⟩
  rw [← hcell j u' hu]
  refine World.cell?_of_block (Below.heap_setCell w _ _ _ ?_)
  rw [add_block]
  intro e
  exact hne (congrArg some e)
theorem DepAt.setCell {w : World} {dv dr u : Value} {d : Dep} {g i : Nat} (h : DepAt w dv dr d) (h1 : dv.ownBlock ≠ some g) (h2 : dr.ownBlock ≠ some g) : DepAt (w.setCell ⟨g, i, none⟩ u) dv dr d :=
  ⟨Row.setCell_far h.1 h1, Row.setCell_far h.2.1 h2, h.2.2⟩
/-- What play leaves. -/
def PlayPost (w : World) (l : List Chg) (e : Ending) (w' : World) : Prop := ∃ dv dr d, e = .returned (.agg #[dv, dr]) ∧ Below w.heap.size w w' ∧ DepAt w' dv dr d ∧ Plays l d ∧ Fresh w.heap.size dv ∧ Fresh w.heap.size dr

/-- The state of play's loop. -/
structure PlSt (w wr : World) (l : List Chg) (g2 g3 B : Nat) (dv dr : Value) (d : Dep) : Prop where
  bel : Below w.heap.size w wr
  box2 : Blk wr g2 28 [.slice none 0 0, .slice none 0 0]
  box3 : Blk wr g3 28 [dv, dr]
  dep : DepAt wr dv dr d
  far : Fresh B dv ∧ Fresh B dr
  pl : Plays l d

set_option maxRecDepth 100000 in
set_option maxHeartbeats 8000000 in
theorem play_any (ps : List ChV) (v : Value) (w : World) (hP : Chgs w v ps) (hs : smallL (ps.map (·.1))) (hr : ∀ p ∈ ps, ∀ r ∈ p.1.recs, r.last ≤ 9223372036854775807) :
    Calls Tryz.prog 18 #[v] w (PlayPost w (ps.map (·.1))) := by
  obtain ⟨A, c, rfl, hc, hm, -⟩ := id hP.1
  have HP := Lib.hid hP
  have hl40 : ps.length ≤ 40 := by have := hs.2.1; rwa [List.length_map] at this
  have HS := Lib.hid (fun (p : ChV) (hp : p ∈ ps) => small_chgW (hs.1 p.1 (List.mem_map_of_mem hp)) (Nat.le_trans (lenSum_mem (List.mem_map_of_mem hp)) hs.2.2) (hr p hp))
  unfold maxLen at hm
  clear hP hs hr
  go_enter Tryz.func18, Tryz.ntmps18
  go_wp2_with fail
  have hst : PlSt w ((w.alloc (.cells #[.slice none 0 0, .slice none 0 0] 28)).alloc (.cells #[.slice none 0 0, .slice none 0 0] 28)) [] w.heap.size (w.heap.size + 1) (w.heap.size + 1 + 1) (.slice none 0 0) (.slice none 0 0) ⟨[], []⟩ := by
    refine ⟨((Below.refl _ _).alloc (Nat.le_refl _) _).alloc (by simp) _, (blk_new w _ _).alloc _, blk_at (by simp), ⟨Revs.nil_ _, Rcds.nil_ _, depW_nil⟩, ⟨fun x e => (by cases e), fun x e => (by cases e)⟩, Plays.nil⟩
  generalize (w.alloc (.cells #[.slice none 0 0, .slice none 0 0] 28)).alloc (.cells #[.slice none 0 0, .slice none 0 0] 28) = W0 at hst ⊢
  go_loopw [10] (fun s wr => ∃ (k : Nat) (dv dr : Value) (d : Dep), s = .int .i64 k ∧ k ≤ ps.length ∧ Hid (PlSt w wr ((ps.take k).map (·.1)) w.heap.size (w.heap.size + 1) (w.heap.size + 1 + 1) dv dr d)) (fun s _ => ps.length - (intOf s).toNat)
  case atStart => exact ⟨0, _, _, _, rfl, Nat.zero_le _, hst⟩
  case round =>
    obtain ⟨k, dv, dr, d, rfl, hk, HI⟩ := hrel
    clear hst
    by_cases hlt : k < ps.length
    · have hPr := HP.out.below HI.out.bel
      obtain ⟨ad, rfl, hab, hld⟩ := Chgs.at_ hPr hlt
      have HT := Lib.hid (show ps.take (k + 1) = ps.take k ++ [ps[k]] from List.take_succ_eq_append_getElem hlt)
      have hpm : ps[k] ∈ ps := List.getElem_mem _
      have hok := hPr.2 ps[k] hpm
      have HPM := Lib.hid (HS.out ps[k] hpm)
      generalize ps[k] = p at hld HT hok HPM
      clear hpm hPr
      obtain ⟨ch, ev, rv⟩ := p
      obtain ⟨Ae, ce, he, -⟩ := id hok.1
      obtain ⟨Ac, cc, hc2, -⟩ := id hok.2
      change ev = .slice Ae ch.edits.length ce at he
      change rv = .slice Ac ch.recs.length cc at hc2
      subst he hc2
      obtain ⟨x0, x1, x2, x3, x4⟩ := hld
      change wr.cell? (ad.add (k * 5)) = some (.int .i64 ch.num) at x0
      change wr.cell? ⟨(ad.add (k * 5)).block, (ad.add (k * 5)).off + 1, none⟩ = some (.string ch.client) at x1
      change wr.cell? ⟨(ad.add (k * 5)).block, (ad.add (k * 5)).off + 2, none⟩ = some (.string ch.text) at x2
      change wr.cell? ⟨(ad.add (k * 5)).block, (ad.add (k * 5)).off + 3, none⟩ = some (.slice Ae ch.edits.length ce) at x3
      change wr.cell? ⟨(ad.add (k * 5)).block, (ad.add (k * 5)).off + 4, none⟩ = some (.slice Ac ch.recs.length cc) at x4
      have HOK : Hid (Edts wr (.slice Ae ch.edits.length ce) ch.edits ∧ Rcds wr (.slice Ac ch.recs.length cc) ch.recs) := Lib.hid hok
      clear hok
      have hX1 := blk_new wr [.int .i64 ch.num, .string ch.client, .string ch.text, .slice Ae ch.edits.length ce, .slice Ac ch.recs.length cc] 56
      have hA1 : Below wr.heap.size wr (wr.alloc (.cells #[.int .i64 ch.num, .string ch.client, .string ch.text, .slice Ae ch.edits.length ce, .slice Ac ch.recs.length cc] 56)) := (Below.refl _ _).alloc (Nat.le_refl _) _
      go_upto_region 5 with fail
      clear x0 x1 x2 x3 x4
      generalize wr.alloc (.cells #[.int .i64 ch.num, .string ch.client, .string ch.text, .slice Ae ch.edits.length ce, .slice Ac ch.recs.length cc] 56) = V1 at hX1 hA1 ⊢
      obtain ⟨y0, y1, y2, y3, y4⟩ := box5 hX1
      have hb3 := HI.out.box3.below hA1 HI.out.box3.lt
      obtain ⟨z0, z1, -, -⟩ := box2 hb3
      have HB3 := Lib.hid hb3
      have hD1 := HI.out.dep.below hA1
      have HAP := Lib.hid (append_any d ch dv dr (.slice Ae ch.edits.length ce) (.slice Ac ch.recs.length cc) V1 hD1.1 hD1.2.1 (HOK.out.1.below hA1) (HOK.out.2.below hA1) hD1.2.2 HPM.out)
      have HA1 := Lib.hid hA1
      clear hb3 hD1 hX1 hA1
      go_wp2_with fail
      refine HAP.out.mono ?_
      rintro e V2 ⟨hb2, ⟨hn0, rfl⟩ | ⟨h0, dv', dr', rs, rfl, hR', hQ', hpm', hpw', hf1, hf2⟩⟩
      · clear y0 y1 y2 y3 y4 z0 z1
        have HB2 := Lib.hid hb2
        have HN0 := Lib.hid hn0
        have q : (appE d ch == 0) = false := by simpa using hn0
        clear hb2 hn0
        go_wp2_with fail
        go_roundw
        case rel =>
          have hbb : Below wr.heap.size wr (V2.alloc (.cells #[.slice none 0 0, .slice none 0 0] 28)) := (below_next HA1.out HB2.out).alloc (below_next HA1.out HB2.out).size _
          refine ⟨k + 1, dv, dr, d, by go_num, by omega, below_next HI.out.bel hbb, HI.out.box2.below hbb HI.out.box2.lt, HI.out.box3.below hbb HI.out.box3.lt, HI.out.dep.below hbb, HI.out.far, ?_⟩
          rw [HT.out, List.map_append, List.map_cons, List.map_nil]
          exact Plays.skip HI.out.pl HN0.out
        case measure => simp [intOf]; omega
      · clear y0 y1 y2 y3 y4 z0 z1
        obtain ⟨A5, c5, rfl, -⟩ := id hR'
        obtain ⟨A6, c6, rfl, -⟩ := id hQ'
        have hbb := below_next HA1.out hb2
        have hlen := HI.out.box3.lt
        have hlen2 := HI.out.box2.lt
        have hsz1 := hbb.size
        have hle1 : wr.heap.size ≤ V1.heap.size := HA1.out.size
        have HN : Hid (DepAt V2 (.slice A5 (newRevs d ch).length c5) (.slice A6 rs.length c6) ⟨newRevs d ch, rs⟩ ∧ Plays ((ps.take k).map (·.1) ++ [ch]) ⟨newRevs d ch, rs⟩ ∧ Fresh V1.heap.size (.slice A5 (newRevs d ch).length c5) ∧ Fresh V1.heap.size (.slice A6 rs.length c6)) := Lib.hid ⟨⟨hR', hQ', appE_keeps HI.out.dep.2.2 HPM.out h0 rs hpm'⟩, Plays.step HI.out.pl h0 hpm' hpw', hf1, hf2⟩
        have h3a := (HI.out.box3.below hbb hlen).alloc (.cells #[.slice A5 (newRevs d ch).length c5, .slice A6 rs.length c6] 28)
        have h2a := (HI.out.box2.below hbb hlen2).alloc (.cells #[.slice A5 (newRevs d ch).length c5, .slice A6 rs.length c6] 28)
        have hba : Below w.heap.size w (V2.alloc (.cells #[.slice A5 (newRevs d ch).length c5, .slice A6 rs.length c6] 28)) := (below_next HI.out.bel hbb).alloc (below_next HI.out.bel hbb).size _
        have hda := HN.out.1.below ((Below.refl _ _).alloc (Nat.le_refl _) (.cells #[.slice A5 (newRevs d ch).length c5, .slice A6 rs.length c6] 28))
        have hx6 := blk_new V2 [.slice A5 (newRevs d ch).length c5, .slice A6 rs.length c6] 28
        have q : (appE d ch == 0) = true := by simpa using h0
        clear hR' hQ' hpm' hpw' hf1 hf2 hb2 hbb h0
        go_upto_region 6 with fail
        generalize V2.alloc (.cells #[.slice A5 (newRevs d ch).length c5, .slice A6 rs.length c6] 28) = V3 at h3a h2a hba hda hx6 ⊢
        obtain ⟨z0, z1, f0, f1⟩ := box2 h3a
        obtain ⟨w0, w1, -, -⟩ := box2 hx6
        have HBA := Lib.hid hba
        have HDA := Lib.hid hda
        have H2A := Lib.hid h2a
        have H3A := Lib.hid h3a
        clear hba hda h2a h3a hx6
        go_wp2_with fail
        go_roundw
        case rel =>
          have n1 : (Value.slice A5 (newRevs d ch).length c5).ownBlock ≠ some (w.heap.size + 1) := fun e => by have := HN.out.2.2.1 _ e; omega
          have n2 : (Value.slice A6 rs.length c6).ownBlock ≠ some (w.heap.size + 1) := fun e => by have := HN.out.2.2.2 _ e; omega
          refine ⟨k + 1, _, _, _, by go_num, by omega, (HBA.out.setCell (p := ⟨w.heap.size + 1, 0, none⟩) (by simp) _).setCell (p := ⟨w.heap.size + 1, 1, none⟩) (by simp) _, (H2A.out.far (p := ⟨w.heap.size + 1, 0, none⟩) (by simp) _).far (p := ⟨w.heap.size + 1, 1, none⟩) (by simp) _, (H3A.out.set_ 0 _).set_ 1 _, (HDA.out.setCell n1 n2).setCell n1 n2, ⟨fun x e => by have := HN.out.2.2.1 _ e; omega, fun x e => by have := HN.out.2.2.2 _ e; omega⟩, ?_⟩
          rw [HT.out, List.map_append, List.map_cons, List.map_nil]
          exact HN.out.2.1
        case measure => simp [intOf]; omega
    · have hkk : k = ps.length := by omega
      subst hkk
      have HPL : Hid (Plays (ps.map (·.1)) d) := Lib.hid (by have := HI.out.pl; rwa [List.take_length] at this)
      obtain ⟨A5, c5, rfl, -⟩ := id HI.out.dep.1
      obtain ⟨A6, c6, rfl, -⟩ := id HI.out.dep.2.1
      obtain ⟨z0, z1, -, -⟩ := box2 HI.out.box3
      obtain ⟨r0, r1, f0, f1⟩ := box2 HI.out.box2
      go_wp2_with fail
      have n1 : (Value.slice A5 d.revs.length c5).ownBlock ≠ some w.heap.size := fun e => by have := HI.out.far.1 _ e; omega
      have n2 : (Value.slice A6 d.recs.length c6).ownBlock ≠ some w.heap.size := fun e => by have := HI.out.far.2 _ e; omega
      have hR5 := (HI.out.box2.set_ 0 (.slice A5 d.revs.length c5)).set_ 1 (.slice A6 d.recs.length c6)
      have hB5 := (HI.out.bel.setCell (p := ⟨w.heap.size, 0, none⟩) (Nat.le_refl _) (.slice A5 d.revs.length c5)).setCell (p := ⟨w.heap.size, 1, none⟩) (Nat.le_refl _) (.slice A6 d.recs.length c6)
      have hD5 := (HI.out.dep.setCell (g := w.heap.size) (i := 0) (u := .slice A5 d.revs.length c5) n1 n2).setCell (g := w.heap.size) (i := 1) (u := .slice A6 d.recs.length c6) n1 n2
      clear z0 z1 r0 r1 f0 f1
      generalize (wr.setCell ⟨w.heap.size, 0, none⟩ (.slice A5 d.revs.length c5)).setCell ⟨w.heap.size, 1, none⟩ (.slice A6 d.recs.length c6) = W5 at hR5 hB5 hD5 ⊢
      obtain ⟨r0, r1, -, -⟩ := box2 hR5
      refine bodyPost_ret (v := .agg #[.slice A5 d.revs.length c5, .slice A6 d.recs.length c6]) (by simp [results, Tryz.results18, go_sem, r0, r1]) rfl ?_
      exact ⟨_, _, d, rfl, hB5, hD5, HPL.out, fun x e => by have := HI.out.far.1 _ e; omega, fun x e => by have := HI.out.far.2 _ e; omega⟩
end Go.Proofs.YtmhmnchdhacdbaaGreatDoor
