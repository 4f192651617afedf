/- slices.Grow and slices.Concat at records. -/
import Derived.Test.YtmhmnchdhacdbaaDoorClone
import Derived.Test.YtmhmnchdhacdbaaDoorSrt
import Derived.Test.YtmhmnchdhacdbaaDoorHo
import Derived.Lib.AppendZeros
import Derived.Deep.DeepCutAuto
import Derived.Deep.RegionLaw
import Derived.Deep.RegionHeld3
namespace Go.Proofs.YtmhmnchdhacdbaaDoor
open Go.RowKit
set_option linter.unusedVariables false
set_option linter.unusedSimpArgs false

set_option maxRecDepth 100000 in
set_option maxHeartbeats 1000000 in
theorem grow_any (n : Nat) (w : World) (hn : n ≤ 1000000) :
    Calls Tryd.prog 38 #[.slice none 0 0, .int .i64 n] w
      fun e w' => ∃ v', e = .returned v' ∧ Below w.heap.size w w' ∧ w'.ownsRow w.heap.size 50 6 v' 0 [] := by
  by_cases h0 : n = 0
  · subst h0
    go_enter Tryd.func38, Tryd.ntmps38
    go_wp2
    go_ret
    exact ⟨_, rfl, Below.refl _ _, World.ownsRow_nil _ _ _ _⟩
  · obtain ⟨i, z, ht, hi, hz, hsize, hby, hzs, hsz⟩ := rcdElem
    have hr := Lib.run_append_nil_zeros (P := Tryd.prog) w 24 3 24 50 i z .i64 .i64 Tryd.underlying24 Tryd.underlying3 hi hz n (by omega) (by omega) (by omega) (by rw [hby]; omega)
    have hb1 : Below w.heap.size w (w.drew.alloc (.cells (Builtin.zeroCells z.cells n ++ Builtin.zeroCells z.cells (grownCap w n 0 50 - n)) 50)) := (Below.refl _ _).drew.alloc (by simp) _
    have hge := grownCap_ge w n 0 50
    have hle := grownCap_le_maxLen w n 0 50 (by unfold maxLen; omega)
    have hown : (w.drew.alloc (.cells (Builtin.zeroCells z.cells n ++ Builtin.zeroCells z.cells (grownCap w n 0 50 - n)) 50)).ownsRow w.heap.size 50 6 (.slice (some ⟨w.heap.size, 0, none⟩) 0 (grownCap w n 0 50)) 0 [] :=
      ⟨rfl, .inr ⟨w.heap.size, _, _, rfl, Nat.le_refl _, heap_alloc_new w.drew _, Nat.zero_le _, hle, by rw [Array.size_append, size_zeroCells, size_zeroCells, hzs, ← Nat.add_mul]; congr 1; omega, by simp⟩⟩
    clear hz hsize hby hzs hsz ht hi
    generalize w.drew.alloc (.cells (Builtin.zeroCells z.cells n ++ Builtin.zeroCells z.cells (grownCap w n 0 50 - n)) 50) = w1 at hr hb1 hown
    generalize grownCap w n 0 50 = cp at hr hown hge hle
    have HO := Lib.hid hown
    have HB := Lib.hid hb1
    have hnz : (0 : Int) < (n : Int) := by omega
    unfold maxLen at hle
    clear hown hb1
    go_enter Tryd.func38, Tryd.ntmps38
    go_wp2_with (at_builtin; refine Lib.wpList_append_run _ rfl _ _ _ _ rfl _ _ rfl rfl _ _ hr ?_)
    go_ret
    exact ⟨_, rfl, HB.out, HO.out⟩

theorem rcd_one (l : List Rcd) : ∀ u ∈ l.flatMap Rcd.cells, u.oneCell' = true := by
  intro u hu
  obtain ⟨r, -, hr⟩ := List.mem_flatMap.1 hu
  simp only [Rcd.cells, List.mem_cons, List.not_mem_nil, or_false] at hr
  rcases hr with rfl | rfl | rfl | rfl | rfl | rfl <;> rfl
set_option maxHeartbeats 2000000 in
theorem concat_any (l1 l2 : List Rcd) (v1 v2 : Value) (g : Nat) (w : World) (hB : Blk w g 24 [v1, v2]) (h1 : Rcds w v1 l1) (h2 : Rcds w v2 l2) (hl1 : l1.length ≤ 100000) (hl2 : l2.length ≤ 100000) :
    Calls Tryd.prog 19 #[.slice (some ⟨g, 0, none⟩) 2 2] w
      fun e w' => ∃ v', e = .returned v' ∧ Below w.heap.size w w' ∧ w'.ownsRow w.heap.size 50 6 v' (l1.length + l2.length) ((l1 ++ l2).flatMap Rcd.cells) := by
  obtain ⟨A1, c1, rfl, -, -, -⟩ := id h1
  obtain ⟨A2, c2, rfl, -, -, -⟩ := id h2
  have b0 := hB.cell 0
  have b1 := hB.cell 1
  have b0' : w.cell? ⟨g, 0, none⟩ = some (.slice A1 l1.length c1) := b0
  have b1' : w.cell? ⟨g, 1, none⟩ = some (.slice A2 l2.length c2) := b1
  clear b0 b1
  have HB := Lib.hid hB
  have H1 := Lib.hid h1
  have H2 := Lib.hid h2
  have HG := Lib.hid (grow_any (l1.length + l2.length) w (by omega))
  rw [Int.natCast_add] at HG
  clear hB h1 h2
  go_enter Tryd.func19, Tryd.ntmps19
  go_wp2_with fail
  refine wp_loop_rounds 3 ?_
  rw [rounds_succ]
  go_wp2_with fail
  rw [rounds_succ]
  go_wp2_with fail
  rw [rounds_succ]
  go_wp2_with fail
  refine HG.out.mono ?_
  rintro e w1 ⟨v', rfl, hb1, hown1⟩
  have q0 := cell_below b0' hb1 (cell_lt b0')
  have q1 := cell_below b1' hb1 (cell_lt b1')
  have hr1 : Row w1 6 (.slice A1 l1.length c1) l1.length (l1.flatMap Rcd.cells) := Row.below H1.out hb1
  have B1 := Lib.hid b1'
  have HOW := Lib.hid hown1
  have HBL := Lib.hid hb1
  have HR1 := Lib.hid hr1
  clear hb1 hown1 b0' b1' hr1
  go_wp2_with fail
  refine wp_loop_rounds 3 ?_
  rw [rounds_succ]
  go_wp2_with (at_builtin; refine wpList_push rfl rfl rcdElem HOW.out rfl HR1.out rfl HBL.out HBL.out.size (rcd_one _) (by omega) (by unfold maxLen; omega) ?_; intro A' c' w2 hown2 hbl2)
  have q2 := cell_below B1.out hbl2 (cell_lt B1.out)
  have hr2 : Row w2 6 (.slice A2 l2.length c2) l2.length (l2.flatMap Rcd.cells) := Row.below H2.out hbl2
  rw [Nat.zero_add, List.nil_append] at hown2
  have HOW2 := Lib.hid hown2
  have HBL2 := Lib.hid hbl2
  have HR2 := Lib.hid hr2
  clear hown2 hbl2 hr2 q0 q1
  rw [rounds_succ]
  go_wp2_with (at_builtin; refine wpList_push rfl rfl rcdElem HOW2.out rfl HR2.out rfl HBL2.out HBL2.out.size (rcd_one _) (by omega) (by unfold maxLen; omega) ?_; intro A3 c3 w3 hown3 hbl3)
  have HOW3 := Lib.hid hown3
  have HBL3 := Lib.hid hbl3
  clear hown3 hbl3
  rw [rounds_succ]
  go_wp2_with fail
  go_ret
  refine ⟨_, rfl, HBL3.out, ?_⟩
  have := HOW3.out
  rw [List.flatMap_append]
  simpa using this
end Go.Proofs.YtmhmnchdhacdbaaDoor
/- Plain Lean: what the walk of Append leans on, and that Append keeps it. -/
namespace Go.Proofs.YtmhmnchdhacdbaaDoor
open Go.RowKit
set_option linter.unusedVariables false
set_option linter.unusedSimpArgs false

structure DepW (d : Dep) : Prop where
  len : d.revs.length ≤ 512
  rlen : d.recs.length ≤ 512
  num : ∀ r ∈ d.revs, 0 < r.num ∧ r.num ≤ d.revs.length
  path : ∀ r ∈ d.revs, validS r.path = true
  rec_ : ∀ r ∈ d.recs, r.good
structure ChgW (c : Chg) : Prop where
  len : c.edits.length ≤ 1000
  rlen : c.recs.length ≤ 1000
  path : ∀ x ∈ c.edits, x.path.size ≤ 1000
  rec_ : ∀ r ∈ c.recs, r.small ∧ r.last ≤ 9223372036854775807

theorem lastM_mem {f : ByteArray → Option Rev} {revs : List Rev} {x : Rev} (h : ∀ p r, f p = some r → r ∈ revs ∧ r.path = p) : ∀ p r, lastM f x p = some r → r ∈ revs ++ [x] ∧ r.path = p := by
  intro p r hr
  have hu : ∀ p r, upd f x.path x p = some r → r ∈ revs ++ [x] ∧ r.path = p := by
    intro p r hr
    unfold upd at hr
    by_cases e : p = x.path
    · rw [if_pos (by simpa using e)] at hr
      injection hr with hr
      subst hr
      exact ⟨by simp, e.symm⟩
    · rw [if_neg (by simpa using e)] at hr
      obtain ⟨h1, h2⟩ := h p r hr
      exact ⟨by simp [h1], h2⟩
  unfold lastM at hr
  cases hb : f x.path with
  | none => rw [hb] at hr; exact hu p r hr
  | some b =>
    rw [hb] at hr
    simp only at hr
    by_cases hlt : b.num < x.num
    · rw [if_pos hlt] at hr; exact hu p r hr
    · rw [if_neg hlt] at hr
      obtain ⟨h1, h2⟩ := h p r hr
      exact ⟨by simp [h1], h2⟩
theorem lastOf_mem (revs : List Rev) : ∀ p r, lastOf revs p = some r → r ∈ revs ∧ r.path = p := by
  suffices H : ∀ (l done : List Rev) (f : ByteArray → Option Rev), (∀ p r, f p = some r → r ∈ done ∧ r.path = p) → ∀ p r, l.foldl lastM f p = some r → r ∈ done ++ l ∧ r.path = p by
    intro p r hr
    have := H revs [] (fun _ => none) (fun p r h => by cases h) p r hr
    simpa using this
  intro l
  induction l with
  | nil => intro done f h p r hr; simpa using h p r hr
  | cons x l ih =>
    intro done f h p r hr
    have := ih (done ++ [x]) (lastM f x) (lastM_mem h) p r hr
    simpa using this
theorem DepW.lastNum {d : Dep} (h : DepW d) (p : ByteArray) : 0 ≤ (lastR (lastOf d.revs) p).num ∧ (lastR (lastOf d.revs) p).num ≤ d.revs.length := by
  unfold lastR
  cases hl : lastOf d.revs p with
  | none => simp [zeroRev]
  | some r =>
    have := h.num r (lastOf_mem _ _ _ hl).1
    simp; omega
theorem editsOf_mem (es : List Edt) : ∀ p e, editsOf es p = some e → e ∈ es ∧ e.path = p := by
  suffices H : ∀ (l done : List Edt) (f : ByteArray → Option Edt), (∀ p r, f p = some r → r ∈ done ∧ r.path = p) → ∀ p r, l.foldl (fun f e => upd f e.path e) f p = some r → r ∈ done ++ l ∧ r.path = p by
    intro p r hr
    have := H es [] (fun _ => none) (fun p r h => by cases h) p r hr
    simpa using this
  intro l
  induction l with
  | nil => intro done f h p r hr; simpa using h p r hr
  | cons x l ih =>
    intro done f h p r hr
    have := ih (done ++ [x]) (upd f x.path x) (fun p r hr => by
      unfold upd at hr
      by_cases e : p = x.path
      · rw [if_pos (by simpa using e)] at hr
        injection hr with hr
        subst hr
        exact ⟨by simp, e.symm⟩
      · rw [if_neg (by simpa using e)] at hr
        obtain ⟨h1, h2⟩ := h p r hr
        exact ⟨by simp [h1], h2⟩) p r hr
    simpa using this
theorem greatest_mem {revs : List Rev} {q : ByteArray} {p : Rev → Bool} {v : Rev} (h : greatest revs q p = some v) : v ∈ revs ∧ v.path = q ∧ p v = true := by
  suffices H : ∀ (l : List Rev) (o : Option Rev) (S : Rev → Prop), (∀ x, o = some x → S x ∧ x.path = q ∧ p x = true) → (∀ x ∈ l, S x) → ∀ v, l.foldl (fun o r => if r.path = q ∧ p r = true then (match o with
    | none => some r
    | some b => if b.num < r.num then some r else some b) else o) o = some v → S v ∧ v.path = q ∧ p v = true by
    exact H revs none (fun x => x ∈ revs) (fun x hx => by cases hx) (fun x hx => hx) v h
  intro l
  induction l with
  | nil => intro o S ho hl v hv; exact ho v hv
  | cons x l ih =>
    intro o S ho hl v hv
    refine ih _ S ?_ (fun y hy => hl y (List.mem_cons_of_mem _ hy)) v hv
    intro y hy
    simp only at hy
    split at hy
    · rename_i hx
      split at hy
      · injection hy with hy; subst hy; exact ⟨hl _ (List.mem_cons_self ..), hx⟩
      · split at hy
        · injection hy with hy; subst hy; exact ⟨hl _ (List.mem_cons_self ..), hx⟩
        · injection hy with hy; subst hy; exact ho _ rfl
    · exact ho y hy
theorem recsF_all {revs : List Rev} {c : Chg} {ed : ByteArray → Option Edt} : ∀ (rs : List Rcd) (b : Option Rcd), recsF revs c ed b rs = true → ∀ r ∈ rs, recOk revs c ed r = true
  | [], b, h, r, hr => by cases hr
  | x :: rs, b, h, r, hr => by
    unfold recsF at h
    simp only [Bool.and_eq_true] at h
    rcases List.mem_cons.1 hr with rfl | hr
    · exact h.1.2
    · exact recsF_all rs _ h.2 r hr
theorem recsE_zero {revs : List Rev} {c : Chg} (h : recsE revs c = 0) : recsF revs c (editsOf c.edits) none c.recs = true := by
  unfold recsE at h; split at h
  · assumption
  · cases h
/-- A record that is accepted: its target is an edit, its source a revision. -/
theorem isRec_parts {revs : List Rev} {n : Int} {ed : ByteArray → Option Edt} {r : Rcd} (h : isRec revs n ed r = true) : (∃ e, ed r.to = some e ∧ e.act ≠ 5 ∧ r.num = e.base + 1) ∧ ∃ v, greatest revs r.frm (fun v => decide (v.num = r.last)) = some v := by
  unfold isRec at h
  cases he : ed r.to with
  | none => rw [he] at h; cases h
  | some e =>
    rw [he] at h
    simp only at h
    split at h
    · cases h
    · rename_i hn
      refine ⟨⟨e, rfl, fun h5 => hn (.inl h5), ?_⟩, ?_⟩
      · exact Classical.byContradiction fun hc => hn (.inr (.inl hc))
      · unfold sourceR at h
        cases hg : greatest revs r.frm (fun v => decide (v.num = r.last)) with
        | none => rw [hg] at h; cases h
        | some v => exact ⟨v, rfl⟩
theorem appE_goods {d : Dep} {c : Chg} (hd : DepW d) (hc : ChgW c) (h2 : everyE (lastOf d.revs) emptyS c.edits = 0) (h4 : recsE d.revs c = 0) : ∀ r ∈ c.recs, r.good := by
  intro r hr
  have h1 := recsF_all _ _ (recsE_zero h4) r hr
  unfold recOk at h1
  rw [Bool.and_eq_true] at h1
  obtain ⟨⟨e, he, -, -⟩, v, hv⟩ := isRec_parts h1.1
  obtain ⟨g1, g2, -⟩ := greatest_mem hv
  obtain ⟨k1, k2⟩ := editsOf_mem _ _ _ he
  refine ⟨(hc.rec_ r hr).1, ?_, ?_⟩
  · rw [← g2]; exact hd.path v g1
  · rw [← k2]; exact ((everyE_paths h2).2 e k1).1
theorem roomE_zero {d : Dep} {c : Chg} (h : roomE d c = 0) : d.revs.length + c.edits.length ≤ 512 ∧ d.recs.length + c.recs.length ≤ 512 := by
  unfold roomE at h; split at h
  · cases h
  · omega
theorem appE_keeps {d : Dep} {c : Chg} (hd : DepW d) (hc : ChgW c) (h : appE d c = 0) (l : List Rcd) (hl : l.Perm (d.recs ++ c.recs)) : DepW ⟨newRevs d c, l⟩ := by
  obtain ⟨h1, h2, h3, h4, h5⟩ := appE_zero h
  obtain ⟨r1, r2⟩ := roomE_zero h5
  obtain ⟨s1, -⟩ := sizeE_zero h1
  have hlen : (newRevs d c).length = d.revs.length + c.edits.length := by unfold newRevs; simp
  refine ⟨by simp only [hlen]; exact r1, by simp only [hl.length_eq, List.length_append]; exact r2, ?_, ?_, ?_⟩
  · intro r hr
    simp only [hlen]
    rcases List.mem_append.1 hr with hr | hr
    · have := hd.num r hr; omega
    · obtain ⟨e, he, rfl⟩ := List.mem_map.1 hr
      have := hd.lastNum e.path
      simp only [madeR]; omega
  · intro r hr
    rcases List.mem_append.1 hr with hr | hr
    · exact hd.path r hr
    · obtain ⟨e, he, rfl⟩ := List.mem_map.1 hr
      exact ((everyE_paths h2).2 e he).1
  · intro r hr
    rcases List.mem_append.1 (hl.mem_iff.1 hr) with hr | hr
    · exact hd.rec_ r hr
    · exact appE_goods hd hc h2 h4 r hr
theorem appE_bases {d : Dep} {c : Chg} (hd : DepW d) (h2 : everyE (lastOf d.revs) emptyS c.edits = 0) : ∀ p e, editsOf c.edits p = some e → 0 ≤ e.base ∧ e.base ≤ 1000000 := by
  intro p e he
  obtain ⟨k1, k2⟩ := editsOf_mem _ _ _ he
  have := (oneE_zero ((everyE_paths h2).2 e k1).2.2).2.1
  have h3 := hd.lastNum e.path
  have := hd.len
  omega
/-- Records that are good, as elements of the sort. -/
theorem goods_list {l : List Rcd} (h : ∀ r ∈ l, r.good) : ∃ l' : List OkRcd, l'.map (·.1) = l ∧ l'.length = l.length ∧ l'.flatMap OkRcd.enc = l.flatMap Rcd.cells := by
  induction l with
  | nil => exact ⟨[], rfl, rfl, rfl⟩
  | cons r l ih =>
    obtain ⟨l', h1, h2, h3⟩ := ih fun x hx => h x (List.mem_cons_of_mem _ hx)
    exact ⟨⟨r, h r (List.mem_cons_self ..)⟩ :: l', by simp [h1], by simp [h2], by simp [h3, OkRcd.enc]⟩
theorem enc_list (l : List OkRcd) : l.flatMap OkRcd.enc = (l.map (·.1)).flatMap Rcd.cells := by
  induction l with
  | nil => rfl
  | cons r l ih => simp [ih, OkRcd.enc]
end Go.Proofs.YtmhmnchdhacdbaaDoor
/- Words for history.Append. -/
namespace Go.Proofs.YtmhmnchdhacdbaaDoor
open Go.RowKit
set_option linter.unusedVariables false
set_option linter.unusedSimpArgs false

/-- The state of Append while its steps run. -/
structure ApSt (w0 w : World) (d : Dep) (c : Chg) (dv dr ev rv : Value) (g b gd gc gr gs : Nat) (ed : Option (ByteArray → Option Edt)) : Prop where
  bel : Below w0.heap.size w0 w
  le : w0.heap.size ≤ b
  ler : w0.heap.size ≤ gr
  chk : Chk w g dv dr c.num c.client c.text ev rv b (b + 1) (b + 1 + 1)
  last : LastMap w b (lastOf d.revs)
  edits : ∀ f, ed = some f → EditMap w (b + 1) f
  lines : LineMap w (b + 1 + 1) (linesOf d.revs)
  boxD : Blk w gd 31 [dv, dr]
  boxC : Blk w gc 26 [.int .i64 c.num, .string c.client, .string c.text, ev, rv]
  boxR : Blk w gr 31 [.slice none 0 0, .slice none 0 0]
  stp : Blk w gs 57 [stepV 33 g, stepV 34 g, stepV 35 g, stepV 36 g, stepV 37 g]
  revs : Revs w dv d.revs
  recs : Rcds w dr d.recs
  eds : Edts w ev c.edits
  rcs : Rcds w rv c.recs
section
variable {w0 w w' : World} {d : Dep} {c : Chg} {dv dr ev rv : Value} {g b gd gc gr gs : Nat} {ed : Option (ByteArray → Option Edt)}
theorem ApSt.below (h : ApSt w0 w d c dv dr ev rv g b gd gc gr gs ed) (hb : Below w.heap.size w w') : ApSt w0 w' d c dv dr ev rv g b gd gc gr gs ed :=
  ⟨below_next h.bel hb, h.le, h.ler, Blk.below h.chk hb (Blk.lt h.chk), FMap.below h.last hb, fun f e => FMap.below (h.edits f e) hb, FMap.below h.lines hb, h.boxD.below hb h.boxD.lt, h.boxC.below hb h.boxC.lt, h.boxR.below hb h.boxR.lt, h.stp.below hb h.stp.lt, h.revs.below hb, h.recs.below hb, h.eds.below hb, h.rcs.below hb⟩
theorem ApSt.every {f : ByteArray → Option Edt} {es : List Edt} {r : Int} (h : ApSt w0 w d c dv dr ev rv g b gd gc gr gs (some f)) (he : EvRel w (b + 1) es r w') (hr : r = 0) : ApSt w0 w' d c dv dr ev rv g b gd gc gr gs (some (editsOf es)) := by
  have hg := he.1
  have hm := FMap.obj (h.edits f rfl)
  have hb : Below w0.heap.size w0 w' := h.bel.grown hg h.bel.size (fun j e => by injection e with e; have := h.le; omega)
  exact ⟨hb, h.le, h.ler, Blk.turn h.chk hm hg, FMap.grown h.last hg (by intro e; injection e with e; omega), fun f' e => by injection e with e; subst e; exact he.2 hr, FMap.grown h.lines hg (by intro e; injection e with e; omega), h.boxD.turn hm hg, h.boxC.turn hm hg, h.boxR.turn hm hg, h.stp.turn hm hg, Row.turn h.revs (by decide) hm hg, Row.turn h.recs (by decide) hm hg, Row.turn h.eds (by decide) hm hg, Row.turn h.rcs (by decide) hm hg⟩
theorem ApSt.every' {f : ByteArray → Option Edt} {es : List Edt} {r : Int} (h : ApSt w0 w d c dv dr ev rv g b gd gc gr gs (some f)) (he : EvRel w (b + 1) es r w') : Below w0.heap.size w0 w' ∧ Blk w' gr 31 [.slice none 0 0, .slice none 0 0] := by
  have hg := he.1
  have hm := FMap.obj (h.edits f rfl)
  exact ⟨h.bel.grown hg h.bel.size (fun j e => by injection e with e; have := h.le; omega), h.boxR.turn hm hg⟩
end
theorem box5 {w : World} {g : Nat} {e : TypeId} {a b c d x : Value} (h : Blk w g e [a, b, c, d, x]) :
    w.cell? ⟨g, 0, none⟩ = some a ∧ w.cell? ⟨g, 1, none⟩ = some b ∧ w.cell? ⟨g, 2, none⟩ = some c ∧ w.cell? ⟨g, 3, none⟩ = some d ∧ w.cell? ⟨g, 4, none⟩ = some x :=
  ⟨h.cell 0, h.cell 1, h.cell 2, h.cell 3, h.cell 4⟩

/-- v's row, if it has a block, lies from B on. -/
def Fresh (B : Nat) (v : Value) : Prop := ∀ x, v.ownBlock = some x → B ≤ x
/-- What Append leaves. -/
def ApPost (w : World) (d : Dep) (c : Chg) (e : Ending) (w' : World) : Prop :=
  Below w.heap.size w w' ∧ (appE d c ≠ 0 ∧ e = .returned (.tuple #[.agg #[.slice none 0 0, .slice none 0 0], .int .i64 (appE d c)]) ∨
    appE d c = 0 ∧ ∃ (dv' dr' : Value) (l : List Rcd), e = .returned (.tuple #[.agg #[dv', dr'], .int .i64 0]) ∧ Revs w' dv' (newRevs d c) ∧ Rcds w' dr' l ∧ l.Perm (d.recs ++ c.recs) ∧ l.Pairwise (fun a b => 0 ≤ cmpR b a) ∧ Fresh w.heap.size dv' ∧ Fresh w.heap.size dr')

theorem own_mono {w : World} {base base' : Nat} {e : TypeId} {size n : Nat} {v : Value} {xs : List Value} (h : w.ownsRow base e size v n xs) (hb : base' ≤ base) : w.ownsRow base' e size v n xs := by
  obtain ⟨h1, h2 | ⟨g, cap, cur, e1, h3, h4⟩⟩ := h
  · exact ⟨h1, .inl h2⟩
  · exact ⟨h1, .inr ⟨g, cap, cur, e1, Nat.le_trans hb h3, h4⟩⟩
theorem own_grown {w w' : World} {base : Nat} {e : TypeId} {size n : Nat} {v : Value} {xs : List Value} {row : Option Nat} (h : w.ownsRow base e size v n xs) (hg : w.grownBy w' row) (hne : ∀ x, v.ownBlock = some x → row ≠ some x) : w'.ownsRow base e size v n xs := by
  obtain ⟨h1, h2 | ⟨g, cap, cur, e1, h3, h4, h5⟩⟩ := h
  · exact ⟨h1, .inl h2⟩
  · exact ⟨h1, .inr ⟨g, cap, cur, e1, h3, by rw [hg.block g (Array.getElem?_eq_some_iff.1 h4).1 (fun e => hne g (by rw [e1]; rfl) e.symm)]; exact h4, h5⟩⟩
theorem own_setCell {w : World} {base : Nat} {e : TypeId} {size n : Nat} {v : Value} {xs : List Value} (h : w.ownsRow base e size v n xs) {p : Addr} (hne : v.ownBlock ≠ some p.block) (u : Value) : (w.setCell p u).ownsRow base e size v n xs := by
  obtain ⟨h1, h2 | ⟨g, cap, cur, e1, h3, h4, h5⟩⟩ := h
  · exact ⟨h1, .inl h2⟩
  · exact ⟨h1, .inr ⟨g, cap, cur, e1, h3, by rw [Below.heap_setCell w p u g (fun e => hne (by rw [e1, ← e]; rfl))]; exact h4, h5⟩⟩
theorem clone_own (revs : List Rev) (v : Value) (V X : World) (hX : Below V.heap.size V X) (hR : Revs X v revs) (hl : revs.length ≤ 1000000) :
    Calls Tryd.prog 18 #[v] X
      fun e w' => ∃ A' c', e = .returned (.slice A' revs.length c') ∧ Below V.heap.size V w' ∧ w'.ownsRow X.heap.size 45 12 (.slice A' revs.length c') revs.length (revs.flatMap Rev.cells) ∧ Below X.heap.size X w' :=
  (clone_any revs v X hR hl).mono fun e w' ⟨v', h1, h2, h3⟩ => by
    obtain ⟨A', c', rfl⟩ := own_slice h3
    exact ⟨A', c', h1, below_next hX h2, h3, h2⟩
theorem concat_own (l1 l2 : List Rcd) (v1 v2 : Value) (g : Nat) (V w : World) (hX : Below V.heap.size V w) (hB : Blk w g 24 [v1, v2]) (h1 : Rcds w v1 l1) (h2 : Rcds w v2 l2) (hl1 : l1.length ≤ 100000) (hl2 : l2.length ≤ 100000) :
    Calls Tryd.prog 19 #[.slice (some ⟨g, 0, none⟩) 2 2] w
      fun e w' => ∃ A' c', e = .returned (.slice A' (l1.length + l2.length) c') ∧ Below V.heap.size V w' ∧ w'.ownsRow w.heap.size 50 6 (.slice A' (l1.length + l2.length) c') (l1.length + l2.length) ((l1 ++ l2).flatMap Rcd.cells) ∧ Below w.heap.size w w' :=
  (concat_any l1 l2 v1 v2 g w hB h1 h2 hl1 hl2).mono fun e w' ⟨v', k1, k2, k3⟩ => by
    obtain ⟨A', c', rfl⟩ := own_slice k3
    exact ⟨A', c', k1, below_next hX k2, k3, k2⟩
/-- Append's result while it is made: in block g10, of two rows of its own. -/
structure ApR (V wx : World) (g10 : Nat) (v1 v2 : Value) (n m : Nat) (xs ys : List Value) : Prop where
  bel : Below V.heap.size V wx
  le : V.heap.size ≤ g10
  box : Blk wx g10 31 [v1, v2]
  one : wx.ownsRow V.heap.size 45 12 v1 n xs
  two : wx.ownsRow V.heap.size 50 6 v2 m ys
  ne1 : v1.ownBlock ≠ some g10
  ne2 : v2.ownBlock ≠ some g10
  ne12 : ∀ x, v1.ownBlock = some x → v2.ownBlock ≠ some x

/-- 'append(s, x...)' as one step of a region that draws its order. -/
theorem step_app {P : Program} {W : World} {ops : Array Oper} {o : Oper} {a : Act} {K : Act → World → Prop} {Q : Exit → Act → World → Prop} {E : Prop} (hgd : o.guard = none) {s x : Operand} {t : TypeId}
    (ho : o.op = .call { callee := .builtin .append, args := #[s, x], argTypes := #[t, t] })
    {e : TypeId} {size bytes base : Nat} (he : ElemOk P t e size bytes) {v : Value} {n : Nat} {xs : List Value} (hown : W.ownsRow base e size v n xs) (hs : a.eval s = v)
    {u : Value} {m : Nat} {news : List Value} (hr : Row W size u m news) (hx : a.eval x = u) (h1 : ∀ u ∈ news, u.oneCell' = true) (hbytes : (n + m) * bytes ≤ 140737488355328) (h63 : n + m ≤ maxLen) (hbase : base ≤ W.heap.size)
    (h : ∀ A' c' w', w'.ownsRow base e size (.slice A' (n + m) c') (n + m) (xs ++ news) → W.grownBy w' v.ownBlock →
      ((Value.slice A' (n + m) c').ownBlock = v.ownBlock ∨ (Value.slice A' (n + m) c').ownBlock = some W.heap.size) → K (a.put o.dst (.slice A' (n + m) c')) w') :
    if Region.wanted o (yielded ops a.tmps) = true then Oper.wp P o a W K Q else E := by
  have hw : Region.wanted o (yielded ops a.tmps) = true := by simp [Region.wanted, hgd]
  rw [if_pos hw]
  obtain ⟨A', c', w', hrun, h2, h3, h4⟩ := run_app (ty := o.type) he hown hr h1 hbytes h63 hbase
  unfold Oper.wp execOp
  simp only [ho, resolve, invoke, builtin, Sem.run_bind, Sem.run_pure, Result.andThen_ok, List.map_toArray, List.map_cons, List.map_nil, hs, hx, hrun]
  exact h A' c' w' h2 h3 h4
theorem below_alloc' {a w : World} (h : Below a.heap.size a w) (o : Obj) : Below a.heap.size a (w.alloc o) := h.alloc h.size o
theorem Blk.below' {w w' : World} {g : Nat} {e : TypeId} {cs : List Value} (h : Blk w g e cs) (hb : Below w.heap.size w w') : Blk w' g e cs := h.below hb h.lt
theorem Blk.drew' {w : World} {g : Nat} {e : TypeId} {cs : List Value} (h : Blk w g e cs) : Blk w.drew g e cs := h
theorem own_drew' {w : World} {B : Nat} {e : TypeId} {k : Nat} {v : Value} {n : Nat} {xs : List Value} (h : w.ownsRow B e k v n xs) : w.drew.ownsRow B e k v n xs := h
theorem own_alloc' {w : World} {B : Nat} {e : TypeId} {k : Nat} {v : Value} {n : Nat} {xs : List Value} (h : w.ownsRow B e k v n xs) (o : Obj) : (w.alloc o).ownsRow B e k v n xs := own_below h ((Below.refl _ _).alloc (Nat.le_refl _) _)
theorem drew_heap (w : World) : w.drew.heap = w.heap := rfl
theorem blk_at {w : World} {g : Nat} {cs : List Value} {e : TypeId} (hg : g = w.heap.size) : Blk (w.alloc (.cells cs.toArray e)) g e cs := by rw [hg]; exact blk_new w cs e
theorem apR_of {V X w5 Y w6 W : World} {v1 v2 : Value} {g10 n m : Nat} {xs ys : List Value} (hX : Below V.heap.size V X) (h5 : Below X.heap.size X w5) (hY : Below w5.heap.size w5 Y) (h6 : Below Y.heap.size Y w6) (hW : Below w6.heap.size w6 W)
    (o5 : w5.ownsRow X.heap.size 45 12 v1 n xs) (o6 : w6.ownsRow Y.heap.size 50 6 v2 m ys)
    (hb : Blk W g10 31 [.slice none 0 0, .slice none 0 0]) (hg : (V.heap.size ≤ g10 ∧ g10 < X.heap.size) ∨ (w5.heap.size ≤ g10 ∧ g10 < Y.heap.size) ∨ w6.heap.size ≤ g10) :
    ApR V ((W.setCell ⟨g10, 0, none⟩ v1).setCell ⟨g10, 1, none⟩ v2) g10 v1 v2 n m xs ys := by
  have b5 := below_next hX h5
  have h56 := below_next hY h6
  have b6 := below_next b5 h56
  have bW := below_next b6 hW
  have l1 := o5.lt
  have l2 := o6.lt
  have s1 := hX.size
  have s2 := h5.size
  have s3 := hY.size
  have s4 := h6.size
  have s5 := hW.size
  have n1 : v1.ownBlock ≠ some g10 := fun e => by have := l1 _ e; omega
  have n2 : v2.ownBlock ≠ some g10 := fun e => by have := l2 _ e; omega
  have hle : V.heap.size ≤ g10 := by omega
  refine ⟨(bW.setCell (p := ⟨g10, 0, none⟩) hle _).setCell (p := ⟨g10, 1, none⟩) hle _, hle, (hb.set_ 0 v1).set_ 1 v2, ?_, ?_, n1, n2, ?_⟩
  · exact own_mono (own_setCell (own_setCell (own_below (own_below o5 h56) hW) (p := ⟨g10, 0, none⟩) n1 _) (p := ⟨g10, 1, none⟩) n1 _) s1
  · exact own_mono (own_setCell (own_setCell (own_below o6 hW) (p := ⟨g10, 0, none⟩) n2 _) (p := ⟨g10, 1, none⟩) n2 _) (by omega)
  · intro x e1 e2
    have := l1 _ e1
    have := l2 _ e2
    omega

theorem apR_of2 {V X w5 Y w6 : World} {v1 v2 : Value} {n m : Nat} {xs ys : List Value} (hX : Below V.heap.size V X) (h5 : Below X.heap.size X w5) (hY : Below w5.heap.size w5 Y) (h6 : Below Y.heap.size Y w6)
    (o5 : w5.ownsRow X.heap.size 45 12 v1 n xs) (o6 : w6.ownsRow Y.heap.size 50 6 v2 m ys) :
    ApR V (w6.alloc (.cells #[v1, v2] 31)) w6.heap.size v1 v2 n m xs ys := by
  have b5 := below_next hX h5
  have h56 := below_next hY h6
  have b6 := below_next b5 h56
  have l1 := o5.lt
  have l2 := o6.lt
  have s1 := hX.size
  have s2 := h5.size
  have s3 := hY.size
  have s4 := h6.size
  refine ⟨below_alloc' b6 _, b6.size, blk_new w6 [v1, v2] _, own_mono (own_alloc' (own_below o5 h56) _) s1, own_mono (own_alloc' o6 _) (by omega), fun e => by have := l1 _ e; omega, fun e => by have := l2 _ e; omega, ?_⟩
  intro x e1 e2
  have := l1 _ e1
  have := l2 _ e2
  omega

/-- One more revision appended: X is the world ahead of the append, the element's block laid. -/
theorem ApR.push {V wr X w5 : World} {g10 : Nat} {v1 v2 v3 : Value} {n n' m : Nat} {xs xs' ys : List Value} (h : ApR V wr g10 v1 v2 n m xs ys) (hX : Below wr.heap.size wr X) (ho : w5.ownsRow V.heap.size 45 12 v3 n' xs') (hg : X.grownBy w5 v1.ownBlock) (hw : v3.ownBlock = v1.ownBlock ∨ v3.ownBlock = some X.heap.size) :
    ApR V (w5.setCell ⟨g10, 0, none⟩ v3) g10 v3 v2 n' m xs' ys := by
  have l1 := h.one.lt
  have l2 := h.two.lt
  have lb := h.box.lt
  have hs := hX.size
  have n3 : v3.ownBlock ≠ some g10 := fun e => by
    rcases hw with hw | hw
    · exact h.ne1 (hw ▸ e)
    · rw [hw] at e; injection e with e; omega
  have b5 : Below V.heap.size V w5 := (below_next h.bel hX).grown hg (by have := h.bel.size; omega) (fun k e => (l1 k e).1)
  refine ⟨b5.setCell (p := ⟨g10, 0, none⟩) h.le _, h.le, ?_, own_setCell ho (p := ⟨g10, 0, none⟩) n3 _, ?_, n3, h.ne2, ?_⟩
  · exact ((h.box.below hX lb).grown hg (fun e => h.ne1 e.symm)).set_ 0 v3
  · exact own_setCell (own_grown (own_below h.two hX) hg (fun x e e2 => h.ne12 x e2 e)) (p := ⟨g10, 0, none⟩) h.ne2 _
  · intro x e1 e2
    rcases hw with hw | hw
    · exact h.ne12 x (hw ▸ e1) e2
    · rw [hw] at e1; injection e1 with e1
      have := l2 _ e2; omega

theorem ApR.under {V wr X : World} {g10 : Nat} {v1 v2 : Value} {n m : Nat} {xs ys : List Value} (h : ApR V wr g10 v1 v2 n m xs ys) (hX : Below wr.heap.size wr X) : ApR V X g10 v1 v2 n m xs ys :=
  ⟨below_next h.bel hX, h.le, h.box.below hX h.box.lt, own_below h.one hX, own_below h.two hX, h.ne1, h.ne2, h.ne12⟩
/-- The operations of region n of a function's text. -/
def regAt (n : Nat) : Code → Option (Array Oper)
  | .region i ops _ => if i = n then some ops else none
  | .seq a b => (regAt n a).or (regAt n b)
  | .cond _ a b => (regAt n a).or (regAt n b)
  | .block _ a => regAt n a
  | .loop a => regAt n a
  | _ => none
end Go.Proofs.YtmhmnchdhacdbaaDoor
/- Region 13 of history.Append: one more revision. -/
namespace Go.Proofs.YtmhmnchdhacdbaaDoor
open Go.RowKit
set_option linter.unusedVariables false
set_option linter.unusedSimpArgs false

set_option maxRecDepth 100000 in
set_option maxHeartbeats 8000000 in
theorem region13 (ops : Array Oper) (hops : Tryd.f10.body.bind (regAt 13) = some ops) (Q : Exit → Act → World → Prop) (g g10 ge n m : Nat) (x : Edt) (r : Rev) (v1 v2 : Value) (xs ys : List Value) (V V1 : World)
    (hR : ApR V V1 g10 v1 v2 n m xs ys) (hB : Blk V1 ge 48 [.string x.path, .int .i64 x.act, .int .i64 x.ty.base, .bool x.ty.k, .bool x.ty.l, .bool x.ty.x, .int .u64 x.sum, .int .i64 x.size, .int .i64 x.base, .string x.frm, .int .i64 x.fnum, .int .i64 x.fence]) (hge : V.heap.size ≤ ge) (hne : v1.ownBlock ≠ some ge) (hn : n ≤ 100000)
    (hrev : ∀ X, Below V1.heap.size V1 X → Calls Tryd.prog 20 #[.pointer (some ⟨g, 0, none⟩), .agg #[.string x.path, .int .i64 x.act, .int .i64 x.ty.base, .bool x.ty.k, .bool x.ty.l, .bool x.ty.x, .int .u64 x.sum, .int .i64 x.size, .int .i64 x.base, .string x.frm, .int .i64 x.fnum, .int .i64 x.fence]] X fun e w' => e = .returned (.agg #[.string r.path, .int .i64 r.num, .int .i64 r.chg, .int .i64 r.act, .int .i64 r.ty.base, .bool r.ty.k, .bool r.ty.l, .bool r.ty.x, .int .u64 r.sum, .int .i64 r.size, .string r.frm, .int .i64 r.fnum]) ∧ Below X.heap.size X w')
    (u0 u1 u2 u3 u4 u5 u7 u8 u9 u11 u13 u14 u15 u16 u17 u18 u19 u20 u21 u22 u23 u24 u25 u26 u27 u28 u29 u30 u31 u32 u33 u34 u35 u36 u37 u38 u39 u40 u41 u42 u43 u44 u45 u46 u47 u48 u49 u50 u51 u52 u53 u54 u55 u56 u57 u58 u59 : Value)
    (hQ : ∀ (t47 t48 t49 t50 t51 t52 t53 t54 : Value) (v3 : Value) (w' : World), Hid (ApR V w' g10 v3 v2 (n + 1) m (xs ++ [.string r.path, .int .i64 r.num, .int .i64 r.chg, .int .i64 r.act, .int .i64 r.ty.base, .bool r.ty.k, .bool r.ty.l, .bool r.ty.x, .int .u64 r.sum, .int .i64 r.size, .string r.frm, .int .i64 r.fnum]) ys) → Q .normal ⟨#[u0, u1, u2, u3, u4, u5, .pointer (some ⟨g, 0, none⟩), u7, u8, u9, .pointer (some ⟨g10, 0, none⟩), u11, .pointer (some ⟨ge, 0, none⟩), u13, u14, u15, u16, u17, u18, u19, u20, u21, u22, u23, u24, u25, u26, u27, u28, u29, u30, u31, u32, u33, u34, u35, u36, u37, u38, u39, u40, u41, u42, u43, u44, u45, u46, t47, t48, t49, t50, t51, t52, t53, t54, u55, u56, u57, u58, u59], []⟩ w') :
    (Code.region 13 ops true).wp Tryd.prog Q ⟨#[u0, u1, u2, u3, u4, u5, .pointer (some ⟨g, 0, none⟩), u7, u8, u9, .pointer (some ⟨g10, 0, none⟩), u11, .pointer (some ⟨ge, 0, none⟩), u13, u14, u15, u16, u17, u18, u19, u20, u21, u22, u23, u24, u25, u26, u27, u28, u29, u30, u31, u32, u33, u34, u35, u36, u37, u38, u39, u40, u41, u42, u43, u44, u45, u46, u47, u48, u49, u50, u51, u52, u53, u54, u55, u56, u57, u58, u59], []⟩ V1 := by
  simp only [Tryd.f10, Option.bind_some, regAt] at hops
  simp at hops
  subst hops
  obtain ⟨A1, c1, hv1⟩ := own_slice hR.one
  subst hv1
  have HQ := Lib.hid hQ
  have HR := Lib.hid hR
  have HB := Lib.hid hB
  have HRV2 := Lib.hid hrev
  clear hQ hR hB hrev
  have f0 : V1.cell? ⟨g10, 0, none⟩ = some (.slice A1 n c1) := HR.out.box.cell 0
  obtain ⟨c0, c1', c2, c3, c4, c5, c6, c7, c8, c9, c10, c11⟩ := box12 HB.out
  refine wp_region_noPanic ?_
  go_region_law (first
    | (refine step_app rfl rfl revElem (own_below (own_below HR.out.one hS5) ((Below.refl _ _).alloc (Nat.le_refl _) _)) (by simp [Act.eval, Act.put]) (row_new w5 [.string r.path, .int .i64 r.num, .int .i64 r.chg, .int .i64 r.act, .int .i64 r.ty.base, .bool r.ty.k, .bool r.ty.l, .bool r.ty.x, .int .u64 r.sum, .int .i64 r.size, .string r.frm, .int .i64 r.fnum] _ 12 1 rfl (by decide) _ rfl) (by simp [Act.eval, Act.put]) (by simp [Value.oneCell']) (by omega) (by unfold maxLen; omega) (by have := hS5.size; have := HR.out.bel.size; simp; omega) ?_; intro A6 c6' w6 hO6 hG6 hw6; have hbx := (HR.out.box.below (below_next hS5 ((Below.refl _ _).alloc (Nat.le_refl _) _)) HR.out.box.lt).grown hG6 (fun e => HR.out.ne1 e.symm); obtain ⟨b0, b1, g0, g1⟩ := box2 hbx)
    | (go_simp; go_at_call 20; refine (HRV2.out _ (Below.refl _ _).drew).mono ?_; rintro e w5 ⟨rfl, hX5⟩; have hS5 : Below V1.heap.size V1 w5 := (Below.refl _ _).drew.trans hX5; have f5 : w5.cell? ⟨g10, 0, none⟩ = some (.slice A1 n c1) := (HR.out.box.below hS5 HR.out.box.lt).cell 0; have f6 : (w5.alloc (.cells #[.string r.path, .int .i64 r.num, .int .i64 r.chg, .int .i64 r.act, .int .i64 r.ty.base, .bool r.ty.k, .bool r.ty.l, .bool r.ty.x, .int .u64 r.sum, .int .i64 r.size, .string r.frm, .int .i64 r.fnum] 45)).cell? ⟨g10, 0, none⟩ = some (.slice A1 n c1) := (HR.out.box.below (hS5.alloc hS5.size _) HR.out.box.lt).cell 0))
  all_goals exact NoPanic.normal (HQ.out _ _ _ _ _ _ _ _ _ _ (HR.out.push (below_next hS5 ((Below.refl _ _).alloc (Nat.le_refl _) _)) hO6 hG6 hw6))
end Go.Proofs.YtmhmnchdhacdbaaDoor
/- history.Append. -/
namespace Go.Proofs.YtmhmnchdhacdbaaDoor
open Go.RowKit
set_option linter.unusedVariables false
set_option linter.unusedSimpArgs false

set_option maxRecDepth 100000 in
set_option maxHeartbeats 8000000 in
theorem append_any (d : Dep) (c : Chg) (dv dr ev rv : Value) (w : World) (hR : Revs w dv d.revs) (hQ : Rcds w dr d.recs) (hE : Edts w ev c.edits) (hC : Rcds w rv c.recs) (hD : DepW d) (hW : ChgW c) :
    Calls Tryd.prog 10 #[.agg #[dv, dr], .agg #[.int .i64 c.num, .string c.client, .string c.text, ev, rv]] w (ApPost w d c) := by
  obtain ⟨Av, cv, rfl, -⟩ := id hR
  obtain ⟨Aq, cq, rfl, -⟩ := id hQ
  obtain ⟨Ae, ce, rfl, -⟩ := id hE
  obtain ⟨Ac, cc, rfl, -⟩ := id hC
  obtain ⟨dv, hdv⟩ : ∃ v, v = Value.slice Av d.revs.length cv := ⟨_, rfl⟩
  obtain ⟨dr, hdr⟩ : ∃ v, v = Value.slice Aq d.recs.length cq := ⟨_, rfl⟩
  obtain ⟨ev, hev⟩ : ∃ v, v = Value.slice Ae c.edits.length ce := ⟨_, rfl⟩
  obtain ⟨rv, hrv⟩ : ∃ v, v = Value.slice Ac c.recs.length cc := ⟨_, rfl⟩
  rw [← hdv] at hR ⊢
  rw [← hdr] at hQ ⊢
  rw [← hev] at hE ⊢
  rw [← hrv] at hC ⊢
  have HDV := Lib.hid hdv
  have HDR := Lib.hid hdr
  have HEV := Lib.hid hev
  have HRV := Lib.hid hrv
  clear hdv hdr hev hrv
  obtain ⟨W1, hW1⟩ : ∃ W, W = ((w.alloc (.cells #[dv, dr] 31)).alloc (.cells #[.int .i64 c.num, .string c.client, .string c.text, ev, rv] 26)).alloc (.cells #[.slice none 0 0, .slice none 0 0] 31) := ⟨_, rfl⟩
  have hb1 : Below w.heap.size w W1 := by rw [hW1]; exact (((Below.refl _ _).alloc (Nat.le_refl _) _).alloc (by simp) _).alloc (by simp; omega) _
  have hs1 : W1.heap.size = w.heap.size + 1 + 1 + 1 := by rw [hW1]; simp
  have hB1 : Blk W1 w.heap.size 31 [dv, dr] := by rw [hW1]; exact ((blk_new w _ _).alloc _).alloc _
  have hB2 : Blk W1 (w.heap.size + 1) 26 [.int .i64 c.num, .string c.client, .string c.text, ev, rv] := by
    rw [hW1]
    have := blk_new (w.alloc (.cells #[dv, dr] 31)) [.int .i64 c.num, .string c.client, .string c.text, ev, rv] 26
    simp only [World.size_alloc] at this
    exact this.alloc _
  have hB3 : Blk W1 (w.heap.size + 1 + 1) 31 [.slice none 0 0, .slice none 0 0] := by
    rw [hW1]
    have := blk_new ((w.alloc (.cells #[dv, dr] 31)).alloc (.cells #[.int .i64 c.num, .string c.client, .string c.text, ev, rv] 26)) [.slice none 0 0, .slice none 0 0] 31
    simp only [World.size_alloc] at this
    exact this
  have HW1 := Lib.hid hW1
  have HNC := Lib.hid (newCheck_any d.revs c dv dr ev rv W1 (hR.below hb1) (by have := hD.len; omega) (fun r hr => by have := hD.num r hr; have := hD.len; omega))
  have HNR := Lib.hid (show Revs w dv d.revs ∧ Rcds w dr d.recs ∧ Edts w ev c.edits ∧ Rcds w rv c.recs from ⟨hR, hQ, hE, hC⟩)
  have HD := Lib.hid hD
  have HW := Lib.hid hW
  clear hW1 hR hQ hE hC hD hW
  go_enter Tryd.func10, Tryd.ntmps10
  obtain ⟨c0, c1, -, -⟩ := box2 hB1
  obtain ⟨d0, d1, d2, d3, d4⟩ := box5 hB2
  go_upto_region 1 with fail
  rw [← HW1.out]
  go_wp2_with fail
  refine HNC.out.mono ?_
  rintro e w2 ⟨g, b, rfl, hb2, hbb, hn⟩
  have hk2 : Hid _ := hn
  clear c0 c1 d0 d1 d2 d3 d4 hn
  go_wp2_with fail
  refine (steps_any g w2).mono ?_
  rintro e w3 ⟨rfl, hb3, hs3⟩
  have HST : Hid (ApSt w w3 d c dv dr ev rv g b w.heap.size (w.heap.size + 1) (w.heap.size + 1 + 1) w2.heap.size (some fun _ => none)) := Lib.hid (by
    obtain ⟨k1, k2, k3, k4⟩ := hk2.out
    have hb12 := hb2
    have hb13 : Below W1.heap.size W1 w3 := below_next hb12 hb3
    have hbw : Below w.heap.size w w3 := below_next hb1 hb13
    exact ⟨hbw, by omega, by omega, Blk.below k1 hb3 (Blk.lt k1), FMap.below k2 hb3, fun f e => by injection e with e; subst e; exact FMap.below k3 hb3, FMap.below k4 hb3, hB1.below hb13 hB1.lt, hB2.below hb13 hB2.lt, hB3.below hb13 hB3.lt, hs3, HNR.out.1.below hbw, HNR.out.2.1.below hbw, HNR.out.2.2.1.below hbw, HNR.out.2.2.2.below hbw⟩)
  clear hb2 hbb hk2 hb3 hs3 hB1 hB2 hB3 hb1 hs1
  generalize w2.heap.size = gs at HST ⊢
  go_wp2_with fail
  refine wp_loop_rounds 6 ?_
  rw [rounds_succ]
  have FAIL : ∀ (W : World) (n : Int), Below w.heap.size w W → n ≠ 0 → appE d c = n → ApPost w d c (.returned (.tuple #[.agg #[.slice none 0 0, .slice none 0 0], .int .i64 n])) W := fun W n hb hn he => ⟨hb, .inl ⟨by rw [he]; exact hn, by rw [he]⟩⟩
  have HF := Lib.hid FAIL
  clear FAIL
  have t0 : w3.cell? ⟨gs, 0, none⟩ = some (.func (.func 33) #[.pointer (some ⟨g, 0, none⟩)] #[]) := HST.out.stp.cell 0
  have HZ0 := Lib.hid (size_any d.revs c g dv dr ev rv b (b + 1) (b + 1 + 1) w3 HST.out.chk HST.out.revs HST.out.eds HST.out.rcs)
  obtain ⟨e0, he0⟩ : ∃ x, sizeE d.revs c = x := ⟨_, rfl⟩
  rw [he0] at HZ0
  have HE0 := Lib.hid he0
  clear he0
  go_wp2_with fail
  refine HZ0.out.mono ?_
  rintro e v0 ⟨rfl, hv⟩
  clear t0 HZ0
  by_cases h0 : e0 = 0
  case neg =>
    have q : (e0 != 0) = true := by simpa using h0
    have HA : Hid (appE d c = e0) := Lib.hid (by unfold appE; rw [ HE0.out, firstE_ne h0])
    have HN := Lib.hid h0
    have hbx := (HST.out.below hv).bel
    have hR4 := (HST.out.below hv).boxR
    have HBX := Lib.hid hbx
    clear h0 hbx hv HST
    obtain ⟨r0, r1, f0, f1⟩ := box2 hR4
    go_wp2_with fail
    have hR5 := (hR4.set_ 0 (.slice none 0 0)).set_ 1 (.slice none 0 0)
    have hB5 := (HBX.out.setCell (p := ⟨w.heap.size + 1 + 1, 0, none⟩) (by simp; omega) (.slice none 0 0)).setCell (p := ⟨w.heap.size + 1 + 1, 1, none⟩) (by simp; omega) (.slice none 0 0)
    clear r0 r1 f0 f1 hR4
    generalize (v0.setCell ⟨w.heap.size + 1 + 1, 0, none⟩ (.slice none 0 0)).setCell ⟨w.heap.size + 1 + 1, 1, none⟩ (.slice none 0 0) = W5 at hR5 hB5 ⊢
    obtain ⟨r0, r1, -, -⟩ := box2 hR5
    refine bodyPost_ret (v := .tuple #[.agg #[.slice none 0 0, .slice none 0 0], .int .i64 e0]) (by simp [results, Tryd.results10, go_sem, r0, r1]) rfl (HF.out W5 e0 hB5 HN.out HA.out)
  subst h0
  have HV0 : Hid ((0 : Int) = 0) := Lib.hid rfl
  have HS0 := Lib.hid (HST.out.below hv)
  clear hv HST HV0
  go_wp2_with fail
  rw [rounds_succ]
  have t1 : v0.cell? ⟨gs, 1, none⟩ = some (.func (.func 34) #[.pointer (some ⟨g, 0, none⟩)] #[]) := HS0.out.stp.cell 1
  have HZ1 := Lib.hid (everyEdit_any (lastOf d.revs) c.edits g dv dr ev rv c.num c.client c.text b (b + 1) (b + 1 + 1) v0 HS0.out.chk HS0.out.last (by omega) HS0.out.eds (HS0.out.edits _ rfl) (by have := HW.out.len; omega) (fun x hx => by have := HW.out.path x hx; omega))
  obtain ⟨e1, he1⟩ : ∃ x, everyE (lastOf d.revs) emptyS c.edits = x := ⟨_, rfl⟩
  rw [he1] at HZ1
  have HE1 := Lib.hid he1
  clear he1
  go_wp2_with fail
  refine HZ1.out.mono ?_
  rintro e v1 ⟨rfl, hv⟩
  clear t1 HZ1
  by_cases h1 : e1 = 0
  case neg =>
    have q : (e1 != 0) = true := by simpa using h1
    have HA : Hid (appE d c = e1) := Lib.hid (by unfold appE; rw [HE0.out, firstE_skip,  HE1.out, firstE_ne h1])
    have HN := Lib.hid h1
    have hbx := (HS0.out.every' hv).1
    have hR4 := (HS0.out.every' hv).2
    have HBX := Lib.hid hbx
    clear h1 hbx hv HS0
    obtain ⟨r0, r1, f0, f1⟩ := box2 hR4
    go_wp2_with fail
    have hR5 := (hR4.set_ 0 (.slice none 0 0)).set_ 1 (.slice none 0 0)
    have hB5 := (HBX.out.setCell (p := ⟨w.heap.size + 1 + 1, 0, none⟩) (by simp; omega) (.slice none 0 0)).setCell (p := ⟨w.heap.size + 1 + 1, 1, none⟩) (by simp; omega) (.slice none 0 0)
    clear r0 r1 f0 f1 hR4
    generalize (v1.setCell ⟨w.heap.size + 1 + 1, 0, none⟩ (.slice none 0 0)).setCell ⟨w.heap.size + 1 + 1, 1, none⟩ (.slice none 0 0) = W5 at hR5 hB5 ⊢
    obtain ⟨r0, r1, -, -⟩ := box2 hR5
    refine bodyPost_ret (v := .tuple #[.agg #[.slice none 0 0, .slice none 0 0], .int .i64 e1]) (by simp [results, Tryd.results10, go_sem, r0, r1]) rfl (HF.out W5 e1 hB5 HN.out HA.out)
  subst h1
  have HV1 : Hid ((0 : Int) = 0) := Lib.hid rfl
  have HS1 := Lib.hid (HS0.out.every hv HV1.out)
  clear hv HS0 HV1
  go_wp2_with fail
  rw [rounds_succ]
  have t2 : v1.cell? ⟨gs, 2, none⟩ = some (.func (.func 35) #[.pointer (some ⟨g, 0, none⟩)] #[]) := HS1.out.stp.cell 2
  have HZ2 := Lib.hid (moves_any c.edits g dv dr ev rv c.num c.client c.text b (b + 1) (b + 1 + 1) v1 HS1.out.chk HS1.out.eds (HS1.out.edits _ rfl) (by have := HW.out.len; omega))
  obtain ⟨e2, he2⟩ : ∃ x, movesE c.edits = x := ⟨_, rfl⟩
  rw [he2] at HZ2
  have HE2 := Lib.hid he2
  clear he2
  go_wp2_with fail
  refine HZ2.out.mono ?_
  rintro e v2 ⟨rfl, hv⟩
  clear t2 HZ2
  by_cases h2 : e2 = 0
  case neg =>
    have q : (e2 != 0) = true := by simpa using h2
    have HA : Hid (appE d c = e2) := Lib.hid (by unfold appE; rw [HE0.out, firstE_skip, HE1.out, firstE_skip,  HE2.out, firstE_ne h2])
    have HN := Lib.hid h2
    have hbx := (HS1.out.below hv).bel
    have hR4 := (HS1.out.below hv).boxR
    have HBX := Lib.hid hbx
    clear h2 hbx hv HS1
    obtain ⟨r0, r1, f0, f1⟩ := box2 hR4
    go_wp2_with fail
    have hR5 := (hR4.set_ 0 (.slice none 0 0)).set_ 1 (.slice none 0 0)
    have hB5 := (HBX.out.setCell (p := ⟨w.heap.size + 1 + 1, 0, none⟩) (by simp; omega) (.slice none 0 0)).setCell (p := ⟨w.heap.size + 1 + 1, 1, none⟩) (by simp; omega) (.slice none 0 0)
    clear r0 r1 f0 f1 hR4
    generalize (v2.setCell ⟨w.heap.size + 1 + 1, 0, none⟩ (.slice none 0 0)).setCell ⟨w.heap.size + 1 + 1, 1, none⟩ (.slice none 0 0) = W5 at hR5 hB5 ⊢
    obtain ⟨r0, r1, -, -⟩ := box2 hR5
    refine bodyPost_ret (v := .tuple #[.agg #[.slice none 0 0, .slice none 0 0], .int .i64 e2]) (by simp [results, Tryd.results10, go_sem, r0, r1]) rfl (HF.out W5 e2 hB5 HN.out HA.out)
  subst h2
  have HV2 : Hid ((0 : Int) = 0) := Lib.hid rfl
  have HS2 := Lib.hid (HS1.out.below hv)
  clear hv HS1 HV2
  go_wp2_with fail
  rw [rounds_succ]
  have t3 : v2.cell? ⟨gs, 3, none⟩ = some (.func (.func 36) #[.pointer (some ⟨g, 0, none⟩)] #[]) := HS2.out.stp.cell 3
  have HZ3 := Lib.hid (records_any d.revs c g dv dr ev rv b (b + 1) (b + 1 + 1) v2 HS2.out.chk HS2.out.revs HS2.out.last (HS2.out.edits _ rfl) HS2.out.lines HS2.out.rcs (by have := HD.out.len; omega) (by have := HW.out.rlen; omega) HW.out.rec_ (fun p => (HD.out.lastNum p).1) (fun p => by have := (HD.out.lastNum p).2; have := HD.out.len; omega) (appE_bases HD.out HE1.out))
  obtain ⟨e3, he3⟩ : ∃ x, recsE d.revs c = x := ⟨_, rfl⟩
  rw [he3] at HZ3
  have HE3 := Lib.hid he3
  clear he3
  go_wp2_with fail
  refine HZ3.out.mono ?_
  rintro e v3 ⟨rfl, hv⟩
  clear t3 HZ3
  by_cases h3 : e3 = 0
  case neg =>
    have q : (e3 != 0) = true := by simpa using h3
    have HA : Hid (appE d c = e3) := Lib.hid (by unfold appE; rw [HE0.out, firstE_skip, HE1.out, firstE_skip, HE2.out, firstE_skip,  HE3.out, firstE_ne h3])
    have HN := Lib.hid h3
    have hbx := (HS2.out.below hv).bel
    have hR4 := (HS2.out.below hv).boxR
    have HBX := Lib.hid hbx
    clear h3 hbx hv HS2
    obtain ⟨r0, r1, f0, f1⟩ := box2 hR4
    go_wp2_with fail
    have hR5 := (hR4.set_ 0 (.slice none 0 0)).set_ 1 (.slice none 0 0)
    have hB5 := (HBX.out.setCell (p := ⟨w.heap.size + 1 + 1, 0, none⟩) (by simp; omega) (.slice none 0 0)).setCell (p := ⟨w.heap.size + 1 + 1, 1, none⟩) (by simp; omega) (.slice none 0 0)
    clear r0 r1 f0 f1 hR4
    generalize (v3.setCell ⟨w.heap.size + 1 + 1, 0, none⟩ (.slice none 0 0)).setCell ⟨w.heap.size + 1 + 1, 1, none⟩ (.slice none 0 0) = W5 at hR5 hB5 ⊢
    obtain ⟨r0, r1, -, -⟩ := box2 hR5
    refine bodyPost_ret (v := .tuple #[.agg #[.slice none 0 0, .slice none 0 0], .int .i64 e3]) (by simp [results, Tryd.results10, go_sem, r0, r1]) rfl (HF.out W5 e3 hB5 HN.out HA.out)
  subst h3
  have HV3 : Hid ((0 : Int) = 0) := Lib.hid rfl
  have HS3 := Lib.hid (HS2.out.below hv)
  clear hv HS2 HV3
  go_wp2_with fail
  rw [rounds_succ]
  have t4 : v3.cell? ⟨gs, 4, none⟩ = some (.func (.func 37) #[.pointer (some ⟨g, 0, none⟩)] #[]) := HS3.out.stp.cell 4
  have HZ4 := Lib.hid (room_any d c g dv dr ev rv b (b + 1) (b + 1 + 1) v3 HS3.out.chk HS3.out.revs HS3.out.recs HS3.out.eds HS3.out.rcs (by have := HD.out.len; omega) (by have := HD.out.rlen; omega) (by have := HW.out.len; omega) (by have := HW.out.rlen; omega))
  obtain ⟨e4, he4⟩ : ∃ x, roomE d c = x := ⟨_, rfl⟩
  rw [he4] at HZ4
  have HE4 := Lib.hid he4
  clear he4
  go_wp2_with fail
  refine HZ4.out.mono ?_
  rintro e v4 ⟨rfl, hv⟩
  clear t4 HZ4
  by_cases h4 : e4 = 0
  case neg =>
    have q : (e4 != 0) = true := by simpa using h4
    have HA : Hid (appE d c = e4) := Lib.hid (by unfold appE; rw [HE0.out, firstE_skip, HE1.out, firstE_skip, HE2.out, firstE_skip, HE3.out, firstE_skip,  HE4.out, firstE_ne h4])
    have HN := Lib.hid h4
    have hbx := (HS3.out.below hv).bel
    have hR4 := (HS3.out.below hv).boxR
    have HBX := Lib.hid hbx
    clear h4 hbx hv HS3
    obtain ⟨r0, r1, f0, f1⟩ := box2 hR4
    go_wp2_with fail
    have hR5 := (hR4.set_ 0 (.slice none 0 0)).set_ 1 (.slice none 0 0)
    have hB5 := (HBX.out.setCell (p := ⟨w.heap.size + 1 + 1, 0, none⟩) (by simp; omega) (.slice none 0 0)).setCell (p := ⟨w.heap.size + 1 + 1, 1, none⟩) (by simp; omega) (.slice none 0 0)
    clear r0 r1 f0 f1 hR4
    generalize (v4.setCell ⟨w.heap.size + 1 + 1, 0, none⟩ (.slice none 0 0)).setCell ⟨w.heap.size + 1 + 1, 1, none⟩ (.slice none 0 0) = W5 at hR5 hB5 ⊢
    obtain ⟨r0, r1, -, -⟩ := box2 hR5
    refine bodyPost_ret (v := .tuple #[.agg #[.slice none 0 0, .slice none 0 0], .int .i64 e4]) (by simp [results, Tryd.results10, go_sem, r0, r1]) rfl (HF.out W5 e4 hB5 HN.out HA.out)
  subst h4
  have HV4 : Hid ((0 : Int) = 0) := Lib.hid rfl
  have HS4 := Lib.hid (HS3.out.below hv)
  clear hv HS3 HV4
  go_wp2_with fail
  rw [rounds_succ]
  have HA : Hid (appE d c = 0) := Lib.hid (by unfold appE; rw [HE0.out, firstE_skip, HE1.out, firstE_skip, HE2.out, firstE_skip, HE3.out, firstE_skip, HE4.out, firstE_skip]; rfl)
  have HG := Lib.hid (appE_goods HD.out HW.out HE1.out HE3.out)
  clear HE0 HE1 HE2 HE3 HE4
  go_upto_region 9 with fail
  generalize v4 = V at HS4 ⊢
  clear HNC HW1
  have HCL := Lib.hid (fun X (hX : Below V.heap.size V X) => clone_own d.revs dv V X hX (HS4.out.revs.below hX) (by have := HD.out.len; omega))
  have HCC := Lib.hid (fun X gq (hX : Below V.heap.size V X) (hq : Blk X gq 24 [dr, rv]) => concat_own d.recs c.recs dr rv gq V X hX hq (HS4.out.recs.below hX) (HS4.out.rcs.below hX) (by have := HD.out.rlen; omega) (by have := HW.out.rlen; omega))
  have hkc : ∀ w', Below V.heap.size V w' → w'.cell? ⟨w.heap.size, 0, none⟩ = some dv ∧ w'.cell? ⟨w.heap.size, 1, none⟩ = some dr ∧ w'.cell? ⟨w.heap.size + 1, 4, none⟩ = some rv := fun w' hb =>
    ⟨(HS4.out.below hb).boxD.cell 0, (HS4.out.below hb).boxD.cell 1, (HS4.out.below hb).boxC.cell 4⟩
  have HC := Lib.hid hkc
  clear hkc
  go_cut [10] (fun s10 wx => ∃ (g10 : Nat) (v1 v2 : Value), s10 = .pointer (some ⟨g10, 0, none⟩) ∧ Hid (ApR V wx g10 v1 v2 d.revs.length (d.recs.length + c.recs.length) (d.revs.flatMap Rev.cells) ((d.recs ++ c.recs).flatMap Rcd.cells)))
  case first => as_aux_lemma =>
    rw [HDV.out] at HC HCL
    rw [HDR.out, HRV.out] at HC HCC
    go_region_held3 (fun w' => Below V.heap.size V w' ∧ w'.cell? ⟨w.heap.size, 0, none⟩ = some (.slice Av d.revs.length cv) ∧ w'.cell? ⟨w.heap.size, 1, none⟩ = some (.slice Aq d.recs.length cq) ∧ w'.cell? ⟨w.heap.size + 1, 4, none⟩ = some (.slice Ac c.recs.length cc))
      ((refine and_of ?_ (HC.out _); repeat (first | with_reducible assumption | with_reducible exact Below.refl _ _ | with_reducible refine Below.drew ?_ | with_reducible refine below_alloc' ?_ _ | refine Below.setCell ?_ (by first | exact hS6.size | (have := hS6.size; simp; omega) | (have := hS5.size; simp; omega) | (simp; done)) _)))
      (first
        | (go_at_call 18; refine (HCL.out _ ?_).mono ?_; (repeat (first | with_reducible exact Below.refl _ _ | with_reducible refine Below.drew ?_ | with_reducible refine below_alloc' ?_ _)); rintro e w5 ⟨A5, c5, rfl, hS5, hO5, hX5⟩)
        | (go_at_call 19; refine (HCC.out _ _ ?_ ?_).mono ?_; (repeat (first | with_reducible assumption | with_reducible refine Below.drew ?_ | with_reducible refine below_alloc' ?_ _)); (first | with_reducible exact blk_new _ _ _ | with_reducible exact blk_at (World.size_alloc _ _).symm | with_reducible exact Blk.alloc (blk_new _ _ _) _ | with_reducible exact Blk.below' (blk_new _ _ _) hX5 | with_reducible exact Blk.alloc (Blk.below' (blk_new _ _ _) hX5) _ | with_reducible exact Blk.below' (Blk.drew' (blk_new _ _ _)) hX5 | with_reducible exact Blk.alloc (Blk.below' (Blk.drew' (blk_new _ _ _)) hX5) _ | with_reducible exact Blk.below' (blk_at (World.size_alloc _ _).symm) hX5 | with_reducible exact Blk.alloc (Blk.below' (blk_at (World.size_alloc _ _).symm) hX5) _ | with_reducible exact Blk.below' (Blk.drew' (blk_at (World.size_alloc _ _).symm)) hX5 | with_reducible exact Blk.alloc (Blk.below' (Blk.drew' (blk_at (World.size_alloc _ _).symm)) hX5) _ | with_reducible exact Blk.below' (Blk.alloc (blk_new _ _ _) _) hX5 | with_reducible exact Blk.alloc (Blk.below' (Blk.alloc (blk_new _ _ _) _) hX5) _ | with_reducible exact Blk.below' (Blk.drew' (Blk.alloc (blk_new _ _ _) _)) hX5 | with_reducible exact Blk.alloc (Blk.below' (Blk.drew' (Blk.alloc (blk_new _ _ _) _)) hX5) _ | exact blk_new _ _ _ | exact blk_at (World.size_alloc _ _).symm | exact Blk.alloc (blk_new _ _ _) _ | exact Blk.below' (blk_new _ _ _) hX5 | exact Blk.alloc (Blk.below' (blk_new _ _ _) hX5) _ | exact Blk.below' (Blk.drew' (blk_new _ _ _)) hX5 | exact Blk.alloc (Blk.below' (Blk.drew' (blk_new _ _ _)) hX5) _ | exact Blk.below' (blk_at (World.size_alloc _ _).symm) hX5 | exact Blk.alloc (Blk.below' (blk_at (World.size_alloc _ _).symm) hX5) _ | exact Blk.below' (Blk.drew' (blk_at (World.size_alloc _ _).symm)) hX5 | exact Blk.alloc (Blk.below' (Blk.drew' (blk_at (World.size_alloc _ _).symm)) hX5) _ | exact Blk.below' (Blk.alloc (blk_new _ _ _) _) hX5 | exact Blk.alloc (Blk.below' (Blk.alloc (blk_new _ _ _) _) hX5) _ | exact Blk.below' (Blk.drew' (Blk.alloc (blk_new _ _ _) _)) hX5 | exact Blk.alloc (Blk.below' (Blk.drew' (Blk.alloc (blk_new _ _ _) _)) hX5) _); rintro e w6 ⟨A6, c6, rfl, hS6, hO6, hX6⟩; (first | (have hB10 := Blk.below' (blk_new _ [.slice none 0 0, .slice none 0 0] 31) hX6; (try simp only [World.size_alloc] at hB10); obtain ⟨r0, r1, f0, f1⟩ := box2 hB10) | (have hB10 := Blk.below' (Blk.alloc (blk_new _ [.slice none 0 0, .slice none 0 0] 31) _) hX6; (try simp only [World.size_alloc] at hB10); obtain ⟨r0, r1, f0, f1⟩ := box2 hB10) | (have hB10 := Blk.below' (Blk.below' (blk_new _ [.slice none 0 0, .slice none 0 0] 31) hX5) hX6; (try simp only [World.size_alloc] at hB10); obtain ⟨r0, r1, f0, f1⟩ := box2 hB10) | (have hB10 := Blk.below' (Blk.alloc (Blk.below' (blk_new _ [.slice none 0 0, .slice none 0 0] 31) hX5) _) hX6; (try simp only [World.size_alloc] at hB10); obtain ⟨r0, r1, f0, f1⟩ := box2 hB10) | (have hB10 := Blk.below' (Blk.below' (Blk.drew' (blk_new _ [.slice none 0 0, .slice none 0 0] 31)) hX5) hX6; (try simp only [World.size_alloc] at hB10); obtain ⟨r0, r1, f0, f1⟩ := box2 hB10) | (have hB10 := Blk.below' (Blk.alloc (Blk.below' (Blk.drew' (blk_new _ [.slice none 0 0, .slice none 0 0] 31)) hX5) _) hX6; (try simp only [World.size_alloc] at hB10); obtain ⟨r0, r1, f0, f1⟩ := box2 hB10) | (have hB10 := Blk.below' (Blk.below' (Blk.alloc (blk_new _ [.slice none 0 0, .slice none 0 0] 31) _) hX5) hX6; (try simp only [World.size_alloc] at hB10); obtain ⟨r0, r1, f0, f1⟩ := box2 hB10) | (have hB10 := Blk.below' (Blk.alloc (Blk.below' (Blk.alloc (blk_new _ [.slice none 0 0, .slice none 0 0] 31) _) hX5) _) hX6; (try simp only [World.size_alloc] at hB10); obtain ⟨r0, r1, f0, f1⟩ := box2 hB10) | (have hB10 := Blk.below' (Blk.below' (Blk.drew' (Blk.alloc (blk_new _ [.slice none 0 0, .slice none 0 0] 31) _)) hX5) hX6; (try simp only [World.size_alloc] at hB10); obtain ⟨r0, r1, f0, f1⟩ := box2 hB10) | (have hB10 := Blk.below' (Blk.alloc (Blk.below' (Blk.drew' (Blk.alloc (blk_new _ [.slice none 0 0, .slice none 0 0] 31) _)) hX5) _) hX6; (try simp only [World.size_alloc] at hB10); obtain ⟨r0, r1, f0, f1⟩ := box2 hB10) | skip)))
    all_goals
      first
        | (have hq := apR_of (V := V) (by repeat (first | with_reducible exact Below.refl _ _ | with_reducible refine Below.drew ?_ | with_reducible refine below_alloc' ?_ _)) hX5 (by repeat (first | with_reducible exact Below.refl _ _ | with_reducible refine Below.drew ?_ | with_reducible refine below_alloc' ?_ _)) hX6 (Below.refl _ _) hO5 hO6 hB10 (by simp only [drew_heap, World.size_alloc]; omega)
           clear r0 r1 f0 f1 hB10 hO5 hO6 hX5 hX6 hS5 hS6
           go_wp2_with fail
           go_meet
           exact ⟨_, _, _, rfl, hq⟩)
        | (have hq := apR_of2 (V := V) (by repeat (first | with_reducible exact Below.refl _ _ | with_reducible refine Below.drew ?_ | with_reducible refine below_alloc' ?_ _)) hX5 (by repeat (first | with_reducible exact Below.refl _ _ | with_reducible refine Below.drew ?_ | with_reducible refine below_alloc' ?_ _)) hX6 hO5 hO6
           clear hO5 hO6 hX5 hX6 hS5 hS6
           go_wp2_with fail
           go_meet
           exact ⟨_, _, _, rfl, hq⟩)
  case rest => as_aux_lemma =>
    obtain ⟨g10, v1, v2, rfl, HR⟩ := hcut
    clear HCL HCC HC HF
    have e3 : wc.cell? ⟨w.heap.size + 1, 3, none⟩ = some ev := (HS4.out.below HR.out.bel).boxC.cell 3
    rw [HEV.out] at e3
    obtain ⟨B, hB⟩ : ∃ B, B = V.heap.size := ⟨_, rfl⟩
    go_wp2_with fail
    clear e3
    go_loopw [43] (fun s wr => ∃ (k : Nat) (v1 : Value), s = .int .i64 k ∧ k ≤ c.edits.length ∧ Hid (ApR V wr g10 v1 v2 (d.revs.length + k) (d.recs.length + c.recs.length) ((d.revs ++ (c.edits.take k).map (madeR (lastOf d.revs) c.num)).flatMap Rev.cells) ((d.recs ++ c.recs).flatMap Rcd.cells))) (fun s _ => c.edits.length - (intOf s).toNat)
    case atStart => exact ⟨0, v1, rfl, Nat.zero_le _, by have := HR.out; rw [List.take_zero, List.map_nil, List.append_nil, Nat.add_zero]; exact this⟩
    case round =>
      obtain ⟨k, v1, rfl, hk, HK⟩ := hrel
      by_cases hlt : k < c.edits.length
      · have hEa := (HS4.out.below HK.out.bel).eds
        rw [HEV.out] at hEa
        obtain ⟨ad, rfl, hab, hld⟩ := Edts.at_ hEa hlt
        have HT := Lib.hid (show c.edits.take (k + 1) = c.edits.take k ++ [c.edits[k]] from List.take_succ_eq_append_getElem hlt)
        have hxm := HD.out.lastNum c.edits[k].path
        generalize c.edits[k] = x at hld HT hxm
        obtain ⟨x0, x1, x2, x3, x4, x5, x6, x7, x8, x9, x10, x11⟩ := hld
        have hX1 := blk_new wr [.string x.path, .int .i64 x.act, .int .i64 x.ty.base, .bool x.ty.k, .bool x.ty.l, .bool x.ty.x, .int .u64 x.sum, .int .i64 x.size, .int .i64 x.base, .string x.frm, .int .i64 x.fnum, .int .i64 x.fence] 48
        have hA1 : Below wr.heap.size wr (wr.alloc (.cells #[.string x.path, .int .i64 x.act, .int .i64 x.ty.base, .bool x.ty.k, .bool x.ty.l, .bool x.ty.x, .int .u64 x.sum, .int .i64 x.size, .int .i64 x.base, .string x.frm, .int .i64 x.fnum, .int .i64 x.fence] 48)) := (Below.refl _ _).alloc (Nat.le_refl _) _
        clear hEa
        go_upto_region 13 with fail
        clear x0 x1 x2 x3 x4 x5 x6 x7 x8 x9 x10 x11
        generalize wr.alloc (.cells #[.string x.path, .int .i64 x.act, .int .i64 x.ty.base, .bool x.ty.k, .bool x.ty.l, .bool x.ty.x, .int .u64 x.sum, .int .i64 x.size, .int .i64 x.base, .string x.frm, .int .i64 x.fnum, .int .i64 x.fence] 48) = V1 at hX1 hA1 ⊢
        have HRV2 := Lib.hid (fun X (hX : Below V1.heap.size V1 X) => revision_any (lastOf d.revs) x g dv dr ev rv c.num c.client c.text b (b + 1) (b + 1 + 1) X ((HS4.out.below (below_next (below_next HK.out.bel hA1) hX)).chk) ((HS4.out.below (below_next (below_next HK.out.bel hA1) hX)).last) hxm.1 (by have := HD.out.len; omega))
        have HAR := Lib.hid (HK.out.under hA1)
        have HX1 := Lib.hid hX1
        have hle1 : V.heap.size ≤ wr.heap.size := HK.out.bel.size
        have HNE : Hid (v1.ownBlock ≠ some wr.heap.size) := Lib.hid fun e => by have := HK.out.one.lt _ e; omega
        have hk2 : d.revs.length + k ≤ 100000 := by have := HD.out.len; have := HW.out.len; omega
        clear hX1
        refine region13 _ (by kernel_rfl) _ g g10 wr.heap.size (d.revs.length + k) (d.recs.length + c.recs.length) x (madeR (lastOf d.revs) c.num x) v1 v2 _ _ V V1 HAR.out HX1.out hle1 HNE.out hk2 HRV2.out _ _ _ _ _ _ _ _ _ _ _ _ _ _ _ _ _ _ _ _ _ _ _ _ _ _ _ _ _ _ _ _ _ _ _ _ _ _ _ _ _ _ _ _ _ _ _ _ _ _ _ _ _ _ _ _ _ ?_
        intro t47 t48 t49 t50 t51 t52 t53 t54 v3 w6 HQ
        go_wp2_with fail
        go_roundw
        case rel =>
          refine ⟨k + 1, v3, by go_num, by omega, ?_⟩
          have := HQ.out
          rw [HT.out, List.map_append, List.map_cons, List.map_nil, ← List.append_assoc, List.flatMap_append, List.flatMap_cons, List.flatMap_nil, List.append_nil]
          exact this
        case measure => simp [intOf]; omega
      · have hkk : k = c.edits.length := by omega
        subst hkk
        have hR2 := HK.out
        rw [List.take_length] at hR2
        obtain ⟨A1, c1, hv1⟩ := own_slice hR2.one
        obtain ⟨A2, c2, hv2⟩ := own_slice hR2.two
        subst hv1 hv2
        obtain ⟨lg, hl1, hl2, hl3⟩ := goods_list (l := d.recs ++ c.recs) (fun r hr => by
          rcases List.mem_append.1 hr with hr | hr
          · exact HD.out.rec_ r hr
          · exact HG.out r hr)
        have HSR := Lib.hid (sortStable_any lg (.slice A2 (d.recs.length + c.recs.length) c2) V.heap.size wr (by rw [hl2, hl3, List.length_append]; exact hR2.two) (by rw [hl2, List.length_append]; have := HD.out.rlen; have := HW.out.rlen; omega))
        rw [hl2, List.length_append] at HSR
        have HL1 := Lib.hid hl1
        have b1' : wr.cell? ⟨g10, 1, none⟩ = some (.slice A2 (d.recs.length + c.recs.length) c2) := hR2.box.cell 1
        have HR2 := Lib.hid hR2
        clear hl1 hl2 hl3 hR2 HK
        go_wp2_with fail
        refine HSR.out.mono ?_
        rintro e w6 ⟨rfl, l', hp, hs, ho, hgr⟩
        have hb6 : Below V.heap.size V w6 := HR2.out.bel.grown hgr HR2.out.bel.size (fun j e => (HR2.out.two.lt j e).1)
        have hbx := HR2.out.box.grown hgr (fun e => HR2.out.ne2 e.symm)
        have hon := own_grown HR2.out.one hgr (fun x e e2 => HR2.out.ne12 x e e2)
        have hre := (HS4.out.below hb6).boxR
        have hbw := (HS4.out.below hb6).bel
        have hler := (HS4.out.below hb6).ler
        have hlt6 : w.heap.size + 1 + 1 < V.heap.size := HS4.out.boxR.lt
        have hg10 := HR2.out.le
        have HP : Hid (l'.Perm lg ∧ l'.Pairwise (fun a b => 0 ≤ OkRcd.cmp b a)) := Lib.hid ⟨hp, hs⟩
        have HON := Lib.hid hon
        have HTW := Lib.hid ho
        have HBW := Lib.hid hbw
        clear b1' hp hs hon ho hbw hgr hb6
        obtain ⟨b0, b1, -, -⟩ := box2 hbx
        obtain ⟨r0, r1, f0, f1⟩ := box2 hre
        go_wp2_with fail
        have hR5 := (hre.set_ 0 (.slice A1 (d.revs.length + c.edits.length) c1)).set_ 1 (.slice A2 (d.recs.length + c.recs.length) c2)
        have hB5 := (HBW.out.setCell (p := ⟨w.heap.size + 1 + 1, 0, none⟩) (by simp; omega) (.slice A1 (d.revs.length + c.edits.length) c1)).setCell (p := ⟨w.heap.size + 1 + 1, 1, none⟩) (by simp; omega) (.slice A2 (d.recs.length + c.recs.length) c2)
        have hO5 := Row.of_own (own_setCell (own_setCell HON.out (p := ⟨w.heap.size + 1 + 1, 0, none⟩) (fun e => by have := HR2.out.one.lt _ e; simp at this; omega) (.slice A1 (d.revs.length + c.edits.length) c1)) (p := ⟨w.heap.size + 1 + 1, 1, none⟩) (fun e => by have := HR2.out.one.lt _ e; simp at this; omega) (.slice A2 (d.recs.length + c.recs.length) c2))
        have hT5 := Row.of_own (own_setCell (own_setCell HTW.out (p := ⟨w.heap.size + 1 + 1, 0, none⟩) (fun e => by have := HR2.out.two.lt _ e; simp at this; omega) (.slice A1 (d.revs.length + c.edits.length) c1)) (p := ⟨w.heap.size + 1 + 1, 1, none⟩) (fun e => by have := HR2.out.two.lt _ e; simp at this; omega) (.slice A2 (d.recs.length + c.recs.length) c2))
        clear b0 b1 r0 r1 f0 f1 hre hbx
        generalize (w6.setCell ⟨w.heap.size + 1 + 1, 0, none⟩ (.slice A1 (d.revs.length + c.edits.length) c1)).setCell ⟨w.heap.size + 1 + 1, 1, none⟩ (.slice A2 (d.recs.length + c.recs.length) c2) = W5 at hR5 hB5 hO5 hT5 ⊢
        obtain ⟨r0, r1, -, -⟩ := box2 hR5
        refine bodyPost_ret (v := .tuple #[.agg #[.slice A1 (d.revs.length + c.edits.length) c1, .slice A2 (d.recs.length + c.recs.length) c2], .int .i64 0]) (by simp [results, Tryd.results10, go_sem, r0, r1]) rfl ?_
        refine ⟨hB5, .inr ⟨HA.out, _, _, l'.map (·.1), rfl, ?_, ?_, ?_, ?_, fun x e => Nat.le_trans HS4.out.bel.size (HR2.out.one.lt x e).1, fun x e => Nat.le_trans HS4.out.bel.size (HR2.out.two.lt x e).1⟩⟩
        · unfold Revs newRevs
          rw [List.length_append, List.length_map]
          exact hO5
        · unfold Rcds
          rw [List.length_map, HP.out.1.length_eq, ← List.length_map (f := fun x : OkRcd => x.1), HL1.out, List.length_append, ← enc_list]
          exact hT5
        · have := HP.out.1.map (fun x : OkRcd => x.1)
          rw [HL1.out] at this
          exact this
        · rw [List.pairwise_map]
          exact HP.out.2
end Go.Proofs.YtmhmnchdhacdbaaDoor
/- Slices of changes; the statements' own Small and play. -/
namespace Go.Proofs.YtmhmnchdhacdbaaDoor
open Go.RowKit
set_option linter.unusedVariables false
set_option linter.unusedSimpArgs false

/-- A change with the slices that it has in memory. -/
abbrev ChV := Chg × Value × Value
def ChV.cells (p : ChV) : List Value := [.int .i64 p.1.num, .string p.1.client, .string p.1.text, p.2.1, p.2.2]
def ChV.ok (w : World) (p : ChV) : Prop := Edts w p.2.1 p.1.edits ∧ Rcds w p.2.2 p.1.recs
def Chgs (w : World) (v : Value) (ps : List ChV) : Prop := Row w 5 v ps.length (ps.flatMap ChV.cells) ∧ ∀ p ∈ ps, p.ok w
theorem ChV.ok_below {w w' : World} {p : ChV} (h : p.ok w) (hb : Below w.heap.size w w') : p.ok w' := ⟨h.1.below hb, h.2.below hb⟩
theorem Chgs.below {w w' : World} {v : Value} {ps : List ChV} (h : Chgs w v ps) (hb : Below w.heap.size w w') : Chgs w' v ps := ⟨Row.below h.1 hb, fun p hp => ChV.ok_below (h.2 p hp) hb⟩
def ChAt (w : World) (a : Addr) (p : ChV) : Prop := w.cell? a = some (.int .i64 p.1.num) ∧ w.cell? ⟨a.block, a.off + 1, none⟩ = some (.string p.1.client) ∧ w.cell? ⟨a.block, a.off + 2, none⟩ = some (.string p.1.text) ∧ w.cell? ⟨a.block, a.off + 3, none⟩ = some p.2.1 ∧ w.cell? ⟨a.block, a.off + 4, none⟩ = some p.2.2
theorem Chgs.at_ {w : World} {A : Option Addr} {c : Nat} {l : List ChV} (h : Chgs w (.slice A l.length c) l) {k : Nat} (hk : k < l.length) :
    ∃ ad, A = some ad ∧ ad.block < w.heap.size ∧ ChAt w (ad.add (k * 5)) l[k] := by
  obtain ⟨ad, e, hb, hc⟩ := row_at (f := ChV.cells) (n := 5) (fun _ => rfl) h.1 hk
  exact ⟨ad, e, hb, hc 0 _ rfl, hc 1 _ rfl, hc 2 _ rfl, hc 3 _ rfl, hc 4 _ rfl⟩

def edtSm (x : Edt) : Prop := x.path.size + x.frm.size ≤ 500
def rcdSm (x : Rcd) : Prop := x.frm.size + x.to.size ≤ 500
def chgSm (c : Chg) : Prop := (∀ x ∈ c.edits, edtSm x) ∧ ∀ x ∈ c.recs, rcdSm x
def chgLen (c : Chg) : Nat := c.edits.length + c.recs.length
def lenSum (l : List Chg) : Nat := (l.map chgLen).sum
def smallL (l : List Chg) : Prop := (∀ c ∈ l, chgSm c) ∧ l.length ≤ 40 ∧ lenSum l ≤ 200
theorem lenSum_snoc (l : List Chg) (c : Chg) : lenSum (l ++ [c]) = lenSum l + chgLen c := by unfold lenSum; simp
theorem lenSum_mem {l : List Chg} {c : Chg} (h : c ∈ l) : chgLen c ≤ lenSum l := by
  induction l with
  | nil => cases h
  | cons x l ih =>
    unfold lenSum at ih ⊢
    simp only [List.map_cons, List.sum_cons]
    rcases List.mem_cons.1 h with rfl | h
    · omega
    · have := ih h; omega

def SmPost (w : World) (l : List Chg) (e : Ending) (w' : World) : Prop := ∃ b, e = .returned (.bool b) ∧ Below w.heap.size w w' ∧ (b = true → smallL l)
set_option maxRecDepth 100000 in
set_option maxHeartbeats 8000000 in
theorem small_any (ps : List ChV) (v : Value) (w : World) (hP : Chgs w v ps) (hl : ps.length ≤ 10000000000000) (hs : ∀ p ∈ ps, chgLen p.1 ≤ 10000000000000) (hz : ∀ p ∈ ps, (∀ x ∈ p.1.edits, x.path.size ≤ 140737488355328 ∧ x.frm.size ≤ 140737488355328) ∧ ∀ x ∈ p.1.recs, x.frm.size ≤ 140737488355328 ∧ x.to.size ≤ 140737488355328) :
    Calls Tryd.prog 6 #[v] w (SmPost w (ps.map (·.1))) := by
  obtain ⟨A, c, rfl, hc, hm, -⟩ := id hP.1
  have HP := Lib.hid hP
  have HS := Lib.hid hs
  have HZ := Lib.hid hz
  unfold maxLen at hm
  clear hP hs hz
  go_enter Tryd.func6, Tryd.ntmps6
  go_wp2_with fail
  go_loopw [3, 12] (fun s t wr => ∃ (k : Nat) (tot : Int), s = .int .i64 tot ∧ t = .int .i64 k ∧ k ≤ ps.length ∧ Hid ((k ≤ 40 → tot = lenSum ((ps.take k).map (·.1)) ∧ 0 ≤ tot ∧ tot ≤ k * 10000000000000) ∧ (∀ p ∈ ps.take k, chgSm p.1) ∧ Below w.heap.size w wr)) (fun _ t _ => ps.length - (intOf t).toNat)
  case atStart => exact ⟨0, 0, rfl, rfl, Nat.zero_le _, fun _ => ⟨rfl, by omega, by omega⟩, fun p hp => by simp at hp, Below.refl _ _⟩
  case round =>
    obtain ⟨k, tot, rfl, rfl, hk, HI⟩ := hrel
    by_cases hlt : k < ps.length
    · have hPr := HP.out.below HI.out.2.2
      obtain ⟨ad, rfl, hab, hld⟩ := Chgs.at_ hPr hlt
      have HT := Lib.hid (show ps.take (k + 1) = ps.take k ++ [ps[k]] from List.take_succ_eq_append_getElem hlt)
      have hpm : ps[k] ∈ ps := List.getElem_mem _
      have hok := hPr.2 ps[k] hpm
      have hcl := HS.out ps[k] hpm
      have HPM := Lib.hid (HZ.out ps[k] hpm)
      generalize ps[k] = p at hld HT hok hcl HPM
      clear hpm hPr
      obtain ⟨ch, ev, rv⟩ := p
      obtain ⟨Ae, ce, he, -⟩ := id hok.1
      obtain ⟨Ac, cc, hc2, -⟩ := id hok.2
      change ev = .slice Ae ch.edits.length ce at he
      change rv = .slice Ac ch.recs.length cc at hc2
      subst he hc2
      obtain ⟨x0, x1, x2, x3, x4⟩ := hld
      change wr.cell? (ad.add (k * 5)) = some (.int .i64 ch.num) at x0
      change wr.cell? ⟨(ad.add (k * 5)).block, (ad.add (k * 5)).off + 1, none⟩ = some (.string ch.client) at x1
      change wr.cell? ⟨(ad.add (k * 5)).block, (ad.add (k * 5)).off + 2, none⟩ = some (.string ch.text) at x2
      change wr.cell? ⟨(ad.add (k * 5)).block, (ad.add (k * 5)).off + 3, none⟩ = some (.slice Ae ch.edits.length ce) at x3
      change wr.cell? ⟨(ad.add (k * 5)).block, (ad.add (k * 5)).off + 4, none⟩ = some (.slice Ac ch.recs.length cc) at x4
      unfold chgLen at hcl
      change ch.edits.length + ch.recs.length ≤ 10000000000000 at hcl
      have HOK : Hid (Edts wr (.slice Ae ch.edits.length ce) ch.edits ∧ Rcds wr (.slice Ac ch.recs.length cc) ch.recs) := Lib.hid hok
      clear hok
      have hX1 := blk_new wr [.int .i64 ch.num, .string ch.client, .string ch.text, .slice Ae ch.edits.length ce, .slice Ac ch.recs.length cc] 26
      have hA1 : Below wr.heap.size wr (wr.alloc (.cells #[.int .i64 ch.num, .string ch.client, .string ch.text, .slice Ae ch.edits.length ce, .slice Ac ch.recs.length cc] 26)) := (Below.refl _ _).alloc (Nat.le_refl _) _
      go_upto_region 5 with fail
      clear x0 x1 x2 x3 x4
      generalize wr.alloc (.cells #[.int .i64 ch.num, .string ch.client, .string ch.text, .slice Ae ch.edits.length ce, .slice Ac ch.recs.length cc] 26) = V1 at hX1 hA1 ⊢
      generalize wr = wq at hX1 hA1 HOK HI hab ⊢
      obtain ⟨-, -, -, y3, y4⟩ := box5 hX1
      go_wp2_with fail
      clear y3 y4
      have HX1 := Lib.hid hX1
      have HA1 := Lib.hid hA1
      clear hX1 hA1
      go_loopw [28] (fun s wy => ∃ j : Nat, s = .int .i64 j ∧ j ≤ ch.edits.length ∧ Hid ((∀ x ∈ ch.edits.take j, edtSm x) ∧ Below V1.heap.size V1 wy)) (fun s _ => ch.edits.length - (intOf s).toNat)
      case atStart => exact ⟨0, rfl, Nat.zero_le _, fun x hx => by simp at hx, Below.refl _ _⟩
      case round =>
        obtain ⟨j, rfl, hj, HJ⟩ := hrel
        by_cases hjl : j < ch.edits.length
        · have hEd := (HOK.out.1.below HA1.out).below HJ.out.2
          obtain ⟨ad2, rfl, hab2, hld2⟩ := Edts.at_ hEd hjl
          have HTJ := Lib.hid (show ch.edits.take (j + 1) = ch.edits.take j ++ [ch.edits[j]] from List.take_succ_eq_append_getElem hjl)
          have hzz := HPM.out.1 ch.edits[j] (List.getElem_mem _)
          generalize ch.edits[j] = x at hld2 HTJ hzz
          obtain ⟨x0, x1, x2, x3, x4, x5, x6, x7, x8, x9, x10, x11⟩ := hld2
          have hX2 := blk_new wr [.string x.path, .int .i64 x.act, .int .i64 x.ty.base, .bool x.ty.k, .bool x.ty.l, .bool x.ty.x, .int .u64 x.sum, .int .i64 x.size, .int .i64 x.base, .string x.frm, .int .i64 x.fnum, .int .i64 x.fence] 48
          have hb2 : Below V1.heap.size V1 (wr.alloc (.cells #[.string x.path, .int .i64 x.act, .int .i64 x.ty.base, .bool x.ty.k, .bool x.ty.l, .bool x.ty.x, .int .u64 x.sum, .int .i64 x.size, .int .i64 x.base, .string x.frm, .int .i64 x.fnum, .int .i64 x.fence] 48)) := HJ.out.2.alloc HJ.out.2.size _
          clear hEd
          go_upto_region 9 with fail
          clear x0 x1 x2 x3 x4 x5 x6 x7 x8 x9 x10 x11
          generalize wr.alloc (.cells #[.string x.path, .int .i64 x.act, .int .i64 x.ty.base, .bool x.ty.k, .bool x.ty.l, .bool x.ty.x, .int .u64 x.sum, .int .i64 x.size, .int .i64 x.base, .string x.frm, .int .i64 x.fnum, .int .i64 x.fence] 48) = V2 at hX2 hb2 ⊢
          obtain ⟨y0, -, -, -, -, -, -, -, -, y9, -, -⟩ := box12 hX2
          have HB2 := Lib.hid hb2
          clear hX2 hb2
          by_cases hq : x.path.size + x.frm.size ≤ 500
          · have q : decide ((500 : Int) < (x.path.size : Int) + (x.frm.size : Int)) = false := by simp; omega
            have HQ : Hid (edtSm x) := Lib.hid hq
            clear hq
            go_wp2_with fail
            go_roundw
            case rel => exact ⟨j + 1, by go_num, by omega, fun y hy => by
              rw [HTJ.out] at hy
              rcases List.mem_append.1 hy with hy | hy
              · exact HJ.out.1 y hy
              · rw [List.mem_singleton] at hy; subst hy; exact HQ.out, HB2.out⟩
            case measure => simp [intOf]; omega
          · have q : decide ((500 : Int) < (x.path.size : Int) + (x.frm.size : Int)) = true := by simp; omega
            clear hq
            go_wp2_with fail
            go_ret
            exact ⟨false, rfl, below_next HI.out.2.2 (below_next HA1.out HB2.out), fun h => by cases h⟩
        · have hje : j = ch.edits.length := by omega
          subst hje
          have HES : Hid (∀ x ∈ ch.edits, edtSm x) := Lib.hid (by have := HJ.out.1; rwa [List.take_length] at this)
          have y4 : wr.cell? ⟨wq.heap.size, 4, none⟩ = some (.slice Ac ch.recs.length cc) := (HX1.out.below HJ.out.2 HX1.out.lt).cell 4
          have HJB := Lib.hid HJ.out.2
          clear HJ
          go_wp2_with fail
          clear y4
          generalize wr = V3 at HJB ⊢
          go_loopw [44] (fun s wy => ∃ j : Nat, s = .int .i64 j ∧ j ≤ ch.recs.length ∧ Hid ((∀ x ∈ ch.recs.take j, rcdSm x) ∧ Below V3.heap.size V3 wy)) (fun s _ => ch.recs.length - (intOf s).toNat)
          case atStart => exact ⟨0, rfl, Nat.zero_le _, fun x hx => by simp at hx, Below.refl _ _⟩
          case round =>
            obtain ⟨j, rfl, hj, HJ⟩ := hrel
            by_cases hjl : j < ch.recs.length
            · have hEd := ((HOK.out.2.below HA1.out).below HJB.out).below HJ.out.2
              obtain ⟨ad2, rfl, hab2, hld2⟩ := Rcds.at_ hEd hjl
              have HTJ := Lib.hid (show ch.recs.take (j + 1) = ch.recs.take j ++ [ch.recs[j]] from List.take_succ_eq_append_getElem hjl)
              have hzz := HPM.out.2 ch.recs[j] (List.getElem_mem _)
              generalize ch.recs[j] = x at hld2 HTJ hzz
              obtain ⟨x0, x1, x2, x3, x4, x5⟩ := hld2
              have hX2 := blk_new wr [.string x.frm, .int .i64 x.first, .int .i64 x.last, .string x.to, .int .i64 x.num, .int .i64 x.how] 50
              have hb2 : Below V3.heap.size V3 (wr.alloc (.cells #[.string x.frm, .int .i64 x.first, .int .i64 x.last, .string x.to, .int .i64 x.num, .int .i64 x.how] 50)) := HJ.out.2.alloc HJ.out.2.size _
              clear hEd
              go_upto_region 15 with fail
              clear x0 x1 x2 x3 x4 x5
              generalize wr.alloc (.cells #[.string x.frm, .int .i64 x.first, .int .i64 x.last, .string x.to, .int .i64 x.num, .int .i64 x.how] 50) = V2 at hX2 hb2 ⊢
              obtain ⟨y0, -, -, y3, -, -⟩ := box6 hX2
              have HB2 := Lib.hid hb2
              clear hX2 hb2
              by_cases hq : x.frm.size + x.to.size ≤ 500
              · have q : decide ((500 : Int) < (x.frm.size : Int) + (x.to.size : Int)) = false := by simp; omega
                have HQ : Hid (rcdSm x) := Lib.hid hq
                clear hq
                go_wp2_with fail
                go_roundw
                case rel => exact ⟨j + 1, by go_num, by omega, fun y hy => by
                  rw [HTJ.out] at hy
                  rcases List.mem_append.1 hy with hy | hy
                  · exact HJ.out.1 y hy
                  · rw [List.mem_singleton] at hy; subst hy; exact HQ.out, HB2.out⟩
                case measure => simp [intOf]; omega
              · have q : decide ((500 : Int) < (x.frm.size : Int) + (x.to.size : Int)) = true := by simp; omega
                clear hq
                go_wp2_with fail
                go_ret
                exact ⟨false, rfl, below_next HI.out.2.2 (below_next HA1.out (below_next HJB.out HB2.out)), fun h => by cases h⟩
            · have hje : j = ch.recs.length := by omega
              subst hje
              have HRS : Hid (∀ x ∈ ch.recs, rcdSm x) := Lib.hid (by have := HJ.out.1; rwa [List.take_length] at this)
              go_wp2_with fail
              go_roundw
              case rel =>
                refine ⟨k + 1, wrap64 (tot + ((ch.edits.length : Int) + (ch.recs.length : Int))), rfl, by go_num, by omega, ?_, ?_, below_next HI.out.2.2 (below_next HA1.out (below_next HJB.out HJ.out.2))⟩
                · intro h40
                  obtain ⟨i1, i2, i3⟩ := HI.out.1 (by omega)
                  have hwr : wrap64 (tot + ((ch.edits.length : Int) + (ch.recs.length : Int))) = tot + ((ch.edits.length : Int) + (ch.recs.length : Int)) := by unfold wrap64; omega
                  rw [hwr, HT.out, List.map_append, List.map_cons, List.map_nil, lenSum_snoc]
                  refine ⟨?_, by omega, by omega⟩
                  rw [i1]; unfold chgLen; dsimp only; omega
                · intro p hp
                  rw [HT.out] at hp
                  rcases List.mem_append.1 hp with hp | hp
                  · exact HI.out.2.1 p hp
                  · rw [List.mem_singleton] at hp; subst hp; exact ⟨HES.out, HRS.out⟩
              case measure => simp [intOf]; omega
    · have hkk : k = ps.length := by omega
      subst hkk
      have HI2 : Hid ((ps.length ≤ 40 → tot = lenSum (ps.map (·.1)) ∧ 0 ≤ tot ∧ tot ≤ ps.length * 10000000000000) ∧ (∀ c ∈ ps.map (·.1), chgSm c)) := Lib.hid (by
        have h1 := HI.out.1
        have h2 := HI.out.2.1
        rw [List.take_length] at h1 h2
        exact ⟨h1, fun c hc => by obtain ⟨p, hp, rfl⟩ := List.mem_map.1 hc; exact h2 p hp⟩)
      by_cases h40 : ps.length ≤ 40
      · have d1 : decide (ps.length ≤ 40) = true := by simp; omega
        by_cases h200 : tot ≤ 200
        · have d1' : decide ((ps.length : Int) ≤ 40) = true := by simp; omega
          have d2' : decide (tot ≤ 200) = true := by simp; omega
          go_wp2_with fail
          go_ret
          exact ⟨true, rfl, HI.out.2.2, fun _ => ⟨HI2.out.2, by rw [List.length_map]; exact h40, by have := (HI2.out.1 h40).1; omega⟩⟩
        · have d1' : decide ((ps.length : Int) ≤ 40) = true := by simp; omega
          have d2' : decide (tot ≤ 200) = false := by simp; omega
          go_wp2_with fail
          go_ret
          exact ⟨false, rfl, HI.out.2.2, fun h => by cases h⟩
      · have d1' : decide ((ps.length : Int) ≤ 40) = false := by simp; omega
        go_wp2_with fail
        go_ret
        exact ⟨false, rfl, HI.out.2.2, fun h => by cases h⟩
end Go.Proofs.YtmhmnchdhacdbaaDoor
/- The statements' own play. -/
namespace Go.Proofs.YtmhmnchdhacdbaaDoor
open Go.RowKit
set_option linter.unusedVariables false
set_option linter.unusedSimpArgs false

/-- The depots that the changes make, one after the other (the order of equal records is left open). -/
inductive Plays : List Chg → Dep → Prop where
  | nil : Plays [] ⟨[], []⟩
  | skip {l : List Chg} {d : Dep} {c : Chg} : Plays l d → appE d c ≠ 0 → Plays (l ++ [c]) d
  | step {l : List Chg} {d : Dep} {c : Chg} {rs : List Rcd} : Plays l d → appE d c = 0 → rs.Perm (d.recs ++ c.recs) → rs.Pairwise (fun a b => 0 ≤ cmpR b a) → Plays (l ++ [c]) ⟨newRevs d c, rs⟩
theorem depW_nil : DepW ⟨[], []⟩ := ⟨by simp, by simp, fun r hr => by simp at hr, fun r hr => by simp at hr, fun r hr => by simp at hr⟩
theorem small_chgW {c : Chg} (h : chgSm c) (hl : chgLen c ≤ 200) (hr : ∀ r ∈ c.recs, r.last ≤ 9223372036854775807) : ChgW c := by
  unfold chgLen at hl
  refine ⟨by omega, by omega, fun x hx => ?_, fun r hx => ⟨⟨?_, ?_⟩, hr r hx⟩⟩
  · have := h.1 x hx; unfold edtSm at this; omega
  · have := h.2 r hx; unfold rcdSm at this; omega
  · have := h.2 r hx; unfold rcdSm at this; omega
/-- A depot in memory, of which everything that the walks ask is known. -/
def DepAt (w : World) (dv dr : Value) (d : Dep) : Prop := Revs w dv d.revs ∧ Rcds w dr d.recs ∧ DepW d
theorem DepAt.below {w w' : World} {dv dr : Value} {d : Dep} (h : DepAt w dv dr d) (hb : Below w.heap.size w w') : DepAt w' dv dr d := ⟨h.1.below hb, h.2.1.below hb, h.2.2⟩
theorem Row.setCell_far {w : World} {size n g i : Nat} {v u : Value} {xs : List Value} (h : Row w size v n xs) (hne : v.ownBlock ≠ some g) : Row (w.setCell ⟨g, i, none⟩ u) size v n xs := by
  obtain ⟨A, c, rfl, hc, hm, hl, h0, hx⟩ := h
  refine ⟨A, c, rfl, hc, hm, hl, h0, fun hn => ?_⟩
  obtain ⟨ad, rfl, hb, hcell⟩ := hx hn
  refine ⟨ad, rfl, by simpa [World.setCell] using hb, fun j u' hu => ?_⟩
  rw [← hcell j u' hu]
  refine World.cell?_of_block (Below.heap_setCell w _ _ _ ?_)
  rw [add_block]
  intro e
  exact hne (congrArg some e)
theorem DepAt.setCell {w : World} {dv dr u : Value} {d : Dep} {g i : Nat} (h : DepAt w dv dr d) (h1 : dv.ownBlock ≠ some g) (h2 : dr.ownBlock ≠ some g) : DepAt (w.setCell ⟨g, i, none⟩ u) dv dr d :=
  ⟨Row.setCell_far h.1 h1, Row.setCell_far h.2.1 h2, h.2.2⟩
/-- What play leaves. -/
def PlayPost (w : World) (l : List Chg) (e : Ending) (w' : World) : Prop := ∃ dv dr d, e = .returned (.agg #[dv, dr]) ∧ Below w.heap.size w w' ∧ DepAt w' dv dr d ∧ Plays l d ∧ Fresh w.heap.size dv ∧ Fresh w.heap.size dr

/-- The state of play's loop. -/
structure PlSt (w wr : World) (l : List Chg) (g2 g3 B : Nat) (dv dr : Value) (d : Dep) : Prop where
  bel : Below w.heap.size w wr
  box2 : Blk wr g2 31 [.slice none 0 0, .slice none 0 0]
  box3 : Blk wr g3 31 [dv, dr]
  dep : DepAt wr dv dr d
  far : Fresh B dv ∧ Fresh B dr
  pl : Plays l d

end Go.Proofs.YtmhmnchdhacdbaaDoor
/- Plain: the revisions of a path are numbered from 1 on (HistoryNumbers). -/
namespace Go.Proofs.YtmhmnchdhacdbaaDoor
open Go.RowKit
set_option linter.unusedVariables false
set_option linter.unusedSimpArgs false

/-- The revisions of a path, as they stand. -/
def logOf (revs : List Rev) (p : ByteArray) : List Rev := revs.filter fun r => decide (r.path = p)
def addA (a : Int) : Bool := (a == 1) || (a == 4)
def altOk : Bool → List Rev → Bool
  | _, [] => true
  | live, v :: l => (addA v.act == !live) && altOk (liveA v.act) l
def lastLive (l : List Rev) : Bool := match l.getLast? with
  | none => false
  | some v => liveA v.act
theorem altOk_snoc (l : List Rev) (v : Rev) (live : Bool) : altOk live (l ++ [v]) = (altOk live l && (addA v.act == !(match l.getLast? with
    | none => live
    | some v => liveA v.act))) := by
  induction l generalizing live with
  | nil => simp [altOk]
  | cons x l ih =>
    rw [List.cons_append, altOk, altOk, ih]
    cases l with
    | nil => simp [Bool.and_assoc]
    | cons y l =>
      obtain ⟨z, hz⟩ : ∃ z, (y :: l).getLast? = some z := ⟨_, List.getLast?_eq_some_getLast (by simp)⟩
      rw [List.getLast?_cons_cons, hz, Bool.and_assoc]
/-- What holds of each path of a depot that was played. -/
structure LogOk (revs : List Rev) (p : ByteArray) : Prop where
  num : ∀ i (h : i < (logOf revs p).length), (logOf revs p)[i].num = (i : Int) + 1
  chg : (logOf revs p).Pairwise (fun a b => a.chg < b.chg)
  pos : ∀ v ∈ logOf revs p, 0 < v.chg
  last : lastOf revs p = (logOf revs p).getLast?
  alt : altOk false (logOf revs p) = true
theorem mem_log {revs : List Rev} {p : ByteArray} {v : Rev} : v ∈ logOf revs p ↔ v ∈ revs ∧ v.path = p := by
  unfold logOf; simp
theorem log_app (a b : List Rev) (p : ByteArray) : logOf (a ++ b) p = logOf a p ++ logOf b p := by unfold logOf; rw [List.filter_append]
theorem log_made (last : ByteArray → Option Rev) (n : Int) (es : List Edt) (hn : (es.map (·.path)).Nodup) (p : ByteArray) :
    (p ∉ es.map (·.path) ∧ logOf (es.map (madeR last n)) p = []) ∨ ∃ e ∈ es, e.path = p ∧ logOf (es.map (madeR last n)) p = [madeR last n e] := by
  induction es with
  | nil => left; simp [logOf]
  | cons x es ih =>
    rw [List.map_cons, List.nodup_cons] at hn
    by_cases hx : x.path = p
    · right
      refine ⟨x, List.mem_cons_self .., hx, ?_⟩
      have h0 : logOf (es.map (madeR last n)) p = [] := by
        unfold logOf
        rw [List.filter_eq_nil_iff]
        intro r hr
        obtain ⟨y, hy, rfl⟩ := List.mem_map.1 hr
        intro e
        exact hn.1 (List.mem_map.2 ⟨y, hy, (show y.path = p from of_decide_eq_true e).trans hx.symm⟩)
      unfold logOf at h0 ⊢
      rw [List.map_cons, List.filter_cons, h0]
      simp [madeR, hx]
    · have hc : logOf ((x :: es).map (madeR last n)) p = logOf (es.map (madeR last n)) p := by
        unfold logOf
        rw [List.map_cons, List.filter_cons]
        simp [madeR, hx]
      rcases ih hn.2 with ⟨h1, h2⟩ | ⟨e, he, h1, h2⟩
      · left
        refine ⟨?_, by rw [hc, h2]⟩
        rw [List.map_cons, List.mem_cons]
        rintro (h | h)
        · exact hx h.symm
        · exact h1 h
      · right
        exact ⟨e, List.mem_cons_of_mem _ he, h1, by rw [hc, h2]⟩
theorem actE_zero {last : ByteArray → Option Rev} {e : Edt} (h : actE last e = 0) : addA e.act = !isLast last e.path := by
  unfold actE at h
  unfold addA
  by_cases h1 : e.act = 1 ∨ e.act = 4
  · rw [if_pos h1] at h
    split at h
    · omega
    · rename_i hl
      have : isLast last e.path = false := by simpa using hl
      rw [this]
      rcases h1 with h1 | h1 <;> rw [h1] <;> rfl
  · rw [if_neg h1] at h
    by_cases h2 : e.act = 2 ∨ e.act = 3 ∨ e.act = 5
    · rw [if_pos h2] at h
      split at h
      · rename_i hl
        rw [hl]
        rcases h2 with h2 | h2 | h2 <;> rw [h2] <;> rfl
      · omega
    · rw [if_neg h2] at h; omega
theorem log_step {d : Dep} {c : Chg} (h : appE d c = 0) (p : ByteArray) (hd : LogOk d.revs p) : LogOk (newRevs d c) p := by
  obtain ⟨h1, h2, -, -, -⟩ := appE_zero h
  obtain ⟨p1, p2⟩ := everyE_paths h2
  obtain ⟨-, -, -, c1, -, hs⟩ := sizeE_zero h1
  have hn := paths_nodup p1
  have hlog : logOf (newRevs d c) p = logOf d.revs p ++ logOf (c.edits.map (madeR (lastOf d.revs) c.num)) p := by unfold newRevs; exact log_app _ _ _
  have hlst : lastOf (newRevs d c) p = (c.edits.map (madeR (lastOf d.revs) c.num)).foldl lastM (lastOf d.revs) p := by unfold newRevs; rw [lastOf_app]
  rcases log_made (lastOf d.revs) c.num c.edits hn p with ⟨k1, k2⟩ | ⟨e, he, k1, k2⟩
  · rw [k2, List.append_nil] at hlog
    rw [lasts_other _ _ (by rw [made_paths]; exact k1)] at hlst
    exact ⟨by rw [hlog]; exact hd.num, by rw [hlog]; exact hd.chg, by rw [hlog]; exact hd.pos, by rw [hlst, hlog]; exact hd.last, by rw [hlog]; exact hd.alt⟩
  · rw [k2] at hlog
    subst k1
    rw [lasts_made _ _ _ hn e he] at hlst
    obtain ⟨o1, o2, o3, o4⟩ := oneE_zero (p2 e he).2.2
    have hnum : (lastR (lastOf d.revs) e.path).num = (logOf d.revs e.path).length := by
      unfold lastR
      rw [hd.last, List.getLast?_eq_getElem?]
      by_cases h0 : (logOf d.revs e.path).length = 0
      · rw [h0, List.getElem?_eq_none (by omega)]; rfl
      · rw [List.getElem?_eq_getElem (by omega)]
        simp only [Option.getD_some]
        rw [hd.num]
        omega
    refine ⟨?_, ?_, ?_, ?_, ?_⟩
    · intro i hi
      simp only [hlog] at hi ⊢
      rw [List.length_append, List.length_singleton] at hi
      by_cases hil : i < (logOf d.revs e.path).length
      · rw [List.getElem_append_left hil]; exact hd.num i hil
      · rw [List.getElem_append_right (by omega)]
        simp only [List.getElem_singleton, madeR]
        omega
    · rw [hlog, List.pairwise_append]
      refine ⟨hd.chg, by simp, fun a ha b hb => ?_⟩
      rw [List.mem_singleton] at hb
      subst hb
      exact hs a (mem_log.1 ha).1
    · rw [hlog]
      intro v hv
      rcases List.mem_append.1 hv with hv | hv
      · exact hd.pos v hv
      · rw [List.mem_singleton] at hv; subst hv; simp only [madeR]; omega
    · rw [hlst, hlog]; simp
    · rw [hlog, altOk_snoc, hd.alt, Bool.true_and]
      have : isLast (lastOf d.revs) e.path = (match (logOf d.revs e.path).getLast? with
        | none => false
        | some v => liveA v.act) := by unfold isLast; rw [hd.last]; cases (logOf d.revs e.path).getLast? <;> rfl
      rw [← this]
      show (addA e.act == !isLast (lastOf d.revs) e.path) = true
      rw [actE_zero o1]; simp
theorem plays_log {l : List Chg} {d : Dep} (h : Plays l d) (p : ByteArray) : LogOk d.revs p := by
  induction h with
  | nil => exact ⟨fun i h => by simp [logOf] at h, by simp [logOf], by simp [logOf], rfl, rfl⟩
  | skip _ _ ih => exact ih
  | step _ h0 _ _ ih => exact log_step h0 p ih
/-- The last one of the first i. -/
def before (l : List Rev) (i : Nat) : Option Rev := (l.take i).getLast?
def liveAt (l : List Rev) (i : Nat) : Bool := lastLive (l.take i)
def chgAt (l : List Rev) (i : Nat) : Int := match (l.take i).getLast? with
  | none => 0
  | some v => v.chg
theorem liveAt_next (l : List Rev) (i : Nat) (h : i < l.length) : liveAt l (i + 1) = liveA l[i].act := by
  unfold liveAt lastLive; rw [List.take_succ_eq_append_getElem h, List.getLast?_concat]
theorem chgAt_next (l : List Rev) (i : Nat) (h : i < l.length) : chgAt l (i + 1) = l[i].chg := by
  unfold chgAt; rw [List.take_succ_eq_append_getElem h, List.getLast?_concat]
theorem altOk_take {l : List Rev} {live : Bool} (h : altOk live l = true) (i : Nat) : altOk live (l.take i) = true := by
  induction l generalizing live i with
  | nil => simpa using h
  | cons x l ih =>
    cases i with
    | zero => rfl
    | succ i =>
      rw [altOk, Bool.and_eq_true] at h
      rw [List.take_succ_cons, altOk, Bool.and_eq_true]
      exact ⟨h.1, ih h.2 i⟩
theorem LogOk.alt_at {revs : List Rev} {p : ByteArray} (h : LogOk revs p) (i : Nat) (hi : i < (logOf revs p).length) : addA (logOf revs p)[i].act = !liveAt (logOf revs p) i := by
  have := altOk_take h.alt (i + 1)
  rw [List.take_succ_eq_append_getElem hi, altOk_snoc, Bool.and_eq_true] at this
  have := this.2
  rw [beq_iff_eq] at this
  exact this
theorem LogOk.chg_at {revs : List Rev} {p : ByteArray} (h : LogOk revs p) (i : Nat) (hi : i < (logOf revs p).length) : chgAt (logOf revs p) i < (logOf revs p)[i].chg := by
  unfold chgAt
  cases hg : ((logOf revs p).take i).getLast? with
  | none => exact h.pos _ (List.getElem_mem _)
  | some v =>
    rw [List.getLast?_eq_getElem?, List.length_take, Nat.min_eq_left (by omega)] at hg
    have h0 : i ≠ 0 := by rintro rfl; simp at hg
    rw [List.getElem?_take_of_lt (by omega), List.getElem?_eq_getElem (by omega)] at hg
    injection hg with hg
    subst hg
    exact List.pairwise_iff_getElem.1 h.chg _ _ _ _ (by omega)
theorem greatest_some {revs : List Rev} {q : ByteArray} {p : Rev → Bool} {v : Rev} (hv : v ∈ revs) (h1 : v.path = q) (h2 : p v = true) : ∃ x, greatest revs q p = some x := by
  suffices H : ∀ (l : List Rev) (o : Option Rev), (o.isSome = true ∨ v ∈ l) → (l.foldl (fun o r => if r.path = q ∧ p r = true then (match o with
    | none => some r
    | some b => if b.num < r.num then some r else some b) else o) o).isSome = true by
    have := H revs none (.inr hv)
    exact Option.isSome_iff_exists.1 this
  intro l
  induction l with
  | nil => intro o h; rcases h with h | h
           · exact h
           · cases h
  | cons x l ih =>
    intro o h
    rw [List.foldl_cons]
    apply ih
    rcases h with h | h
    · left
      cases o with
      | none => cases h
      | some b => dsimp only; split
                  · split <;> rfl
                  · rfl
    · rcases List.mem_cons.1 h with rfl | h
      · left
        rw [if_pos ⟨h1, h2⟩]
        cases o with
        | none => rfl
        | some b => dsimp only; split <;> rfl
      · exact .inr h
theorem LogOk.uniq {revs : List Rev} {p : ByteArray} (h : LogOk revs p) {a b : Rev} (ha : a ∈ revs) (hb : b ∈ revs) (h1 : a.path = p) (h2 : b.path = p) (hn : a.num = b.num) : a = b := by
  obtain ⟨i, hi, rfl⟩ := List.mem_iff_getElem.1 (mem_log.2 ⟨ha, h1⟩)
  obtain ⟨j, hj, rfl⟩ := List.mem_iff_getElem.1 (mem_log.2 ⟨hb, h2⟩)
  rw [h.num i hi, h.num j hj] at hn
  have : i = j := by omega
  subst this; rfl
theorem LogOk.get {revs : List Rev} {p : ByteArray} (h : LogOk revs p) {v : Rev} (hv : v ∈ revs) (hp : v.path = p) : greatest revs p (fun r => decide (r.num = v.num)) = some v := by
  obtain ⟨x, hx⟩ := greatest_some (p := fun r => decide (r.num = v.num)) hv hp (by simp)
  obtain ⟨g1, g2, g3⟩ := greatest_mem hx
  rw [hx, h.uniq g1 hv g2 hp (by simpa using g3)]
theorem LogOk.sorted {revs : List Rev} {p : ByteArray} (h : LogOk revs p) : (logOf revs p).Pairwise (fun a b => a.num < b.num) := by
  rw [List.pairwise_iff_getElem]
  intro i j hi hj hij
  rw [h.num i hi, h.num j hj]; omega
/-- A list in another order, sorted by numbers, is the log itself. -/
theorem LogOk.sort_eq {revs : List Rev} {p : ByteArray} (h : LogOk revs p) {l : List Rev} (hp : l.Perm (logOf revs p)) (hs : l.Pairwise (fun a b => a.num ≤ b.num)) : l = logOf revs p := by
  refine List.Perm.eq_of_pairwise (le := fun a b : Rev => a.num ≤ b.num) ?_ hs (h.sorted.imp fun hab => Int.le_of_lt hab) hp
  intro a b ha hb h1 h2
  obtain ⟨a1, a2⟩ := mem_log.1 (hp.mem_iff.1 ha)
  obtain ⟨b1, b2⟩ := mem_log.1 hb
  exact h.uniq a1 b1 a2 b2 (by omega)
end Go.Proofs.YtmhmnchdhacdbaaDoor
/- Plain: the order of paths by their components is the order by their bytes. -/
namespace Go.Proofs.YtmhmnchdhacdbaaDoor
open Go.RowKit
set_option linter.unusedVariables false
set_option linter.unusedSimpArgs false

/-- Both paths of a record are paths. -/
def Rcd.val_ (r : Rcd) : Prop := validS r.frm = true ∧ validS r.to = true
def cmpC : List (List UInt8) → List (List UInt8) → Int
  | [], [] => 0
  | [], _ :: _ => -1
  | _ :: _, [] => 1
  | a :: l, b :: m => if Lib.compareBytes a b = 0 then cmpC l m else Lib.compareBytes a b
/-- Components, each behind its slash. -/
def tailL : List (List UInt8) → List UInt8
  | [] => []
  | p :: ps => 47 :: p ++ tailL ps
theorem join_tail (p : List UInt8) (ps : List (List UInt8)) : 47 :: Lib.join (p :: ps) [47] = tailL (p :: ps) := by
  induction ps generalizing p with
  | nil => simp [Lib.join_one, tailL]
  | cons q ps ih =>
    rw [join_cons2 p (q :: ps) (by simp), tailL, ← ih q]
    simp
def Starts (l : List UInt8) : Prop := l = [] ∨ ∃ r, l = 47 :: r
theorem tail_starts (ps : List (List UInt8)) : Starts (tailL ps) := by
  cases ps with
  | nil => exact .inl rfl
  | cons p ps => exact .inr ⟨p ++ tailL ps, by simp [tailL]⟩
theorem cmp_app : ∀ (p q X Y : List UInt8), (47 : UInt8) ∉ p → (47 : UInt8) ∉ q → Starts X → Starts Y → cmpL (p ++ X) (q ++ Y) = if Lib.compareBytes p q = 0 then cmpL X Y else Lib.compareBytes p q
  | [], [], X, Y, _, _, _, _ => by simp [Lib.compareBytes]
  | [], b :: q, X, Y, _, hq, hX, _ => by
    have hb : b ≠ 47 := fun e => hq (by rw [e]; exact List.mem_cons_self ..)
    rcases hX with rfl | ⟨r, rfl⟩
    · simp [Lib.compareBytes, cmpL]
    · simp [Lib.compareBytes, cmpL]
      exact fun e => absurd e.symm hb
  | a :: p, [], X, Y, hp, _, _, hY => by
    have ha : a ≠ 47 := fun e => hp (by rw [e]; exact List.mem_cons_self ..)
    rcases hY with rfl | ⟨r, rfl⟩
    · simp [Lib.compareBytes, cmpL]
    · simp [Lib.compareBytes, cmpL, ha]
  | a :: p, b :: q, X, Y, hp, hq, hX, hY => by
    have ha : a ≠ 47 := fun e => hp (by rw [e]; exact List.mem_cons_self ..)
    have hb : b ≠ 47 := fun e => hq (by rw [e]; exact List.mem_cons_self ..)
    have ih := cmp_app p q X Y (fun h => hp (List.mem_cons_of_mem _ h)) (fun h => hq (List.mem_cons_of_mem _ h)) hX hY
    rw [List.cons_append, List.cons_append, cmpL, Lib.compareBytes]
    by_cases e : a = b
    · subst e
      have hlt : ¬ a < a := by rw [UInt8.lt_iff_toNat_lt]; omega
      rw [if_pos rfl, if_neg hlt, if_neg hlt]
      exact ih
    · rw [if_neg e, if_neg ha, if_neg hb]
      by_cases hl : a < b
      · rw [if_pos hl, if_pos hl]; simp
      · have hg : b < a := by
          have : a.toNat ≠ b.toNat := fun h => e (UInt8.toNat_inj.1 h)
          rw [UInt8.lt_iff_toNat_lt] at hl ⊢; omega
        rw [if_neg hl, if_neg hl, if_pos hg]; simp
theorem cmp_tail : ∀ (ps qs : List (List UInt8)), (∀ p ∈ ps, (47 : UInt8) ∉ p) → (∀ q ∈ qs, (47 : UInt8) ∉ q) → cmpL (tailL ps) (tailL qs) = cmpC ps qs
  | [], [], _, _ => rfl
  | [], q :: qs, _, _ => by simp [tailL, cmpL, cmpC]
  | p :: ps, [], _, _ => by simp [tailL, cmpL, cmpC]
  | p :: ps, q :: qs, hp, hq => by
    have ih := cmp_tail ps qs (fun x hx => hp x (List.mem_cons_of_mem _ hx)) (fun x hx => hq x (List.mem_cons_of_mem _ hx))
    rw [tailL, tailL, List.cons_append, List.cons_append, cmpL, if_pos rfl, cmp_app p q _ _ (hp p (List.mem_cons_self ..)) (hq q (List.mem_cons_self ..)) (tail_starts _) (tail_starts _), cmpC, ih]
theorem dir_tail {l : List UInt8} {least : Nat} {ps : List (List UInt8)} (h : dirL l least = some ps) : l = 47 :: tailL ps ∧ ∀ p ∈ ps, (47 : UInt8) ∉ p := by
  unfold dirL at h
  split at h
  · rename_i hc
    injection h with h
    subst h
    have hp := hc.1
    have hl : l = 47 :: 47 :: l.drop 2 := by
      match l, hp with
      | [], hp => simp [Lib.hasPrefix] at hp
      | [a], hp => simp [Lib.hasPrefix] at hp
      | a :: b :: r, hp =>
        simp [Lib.hasPrefix] at hp
        obtain ⟨rfl, rfl⟩ := hp
        rfl
    have hj := join_splitL (l.drop 2)
    refine ⟨?_, fun p hp => (splitL_mem hp).1⟩
    cases hs : splitL (l.drop 2) with
    | nil => exact absurd hs (splitL_ne _)
    | cons p ps =>
      rw [← join_tail, ← hs, hj]
      exact hl
  · cases h
/-- The order of two paths by their components. -/
theorem cmpP_comps {a b : ByteArray} {ps qs : List (List UInt8)} (ha : dirL a.data.toList 2 = some ps) (hb : dirL b.data.toList 2 = some qs) : cmpP a b = cmpC ps qs := by
  have va : validS a = true := by unfold validS validB; rw [ha]; rfl
  have vb : validS b = true := by unfold validS validB; rw [hb]; rfl
  obtain ⟨a1, a2⟩ := dir_tail ha
  obtain ⟨b1, b2⟩ := dir_tail hb
  rw [cmpP_valid va vb, a1, b1, cmpL, if_pos rfl, cmp_tail ps qs a2 b2]
end Go.Proofs.YtmhmnchdhacdbaaDoor
/- Plain: what history.Valid does with any depot, and that a depot that was played is valid. -/
namespace Go.Proofs.YtmhmnchdhacdbaaDoor
open Go.RowKit
set_option linter.unusedVariables false
set_option linter.unusedSimpArgs false

/-- The edit that made a revision, with the machine's own subtraction. -/
def edtW (r : Rev) : Edt := ⟨r.path, r.act, r.ty, r.sum, r.size, IntKind.i64.wrap (r.num - 1), r.frm, r.fnum, 0⟩
def chgOf (revs : List Rev) : Fil → Option Int := revs.foldl (fun f r => upd f (r.path, r.num) r.chg) fun _ => none
def recsAt (D : Dep) (n : Int) : List Rcd := D.recs.filter (fun r => decide (chgOf D.revs (r.to, r.num) = some n))
def runAt (revs : List Rev) (k : Nat) (n : Int) : List Rev := (revs.drop k).takeWhile (fun r => decide (r.chg = n))
def chgV (D : Dep) (k : Nat) (n : Int) : Chg := ⟨n, emptyS, emptyS, (runAt D.revs k n).map edtW, recsAt D n⟩
/-- The depots that Valid makes anew: of the first k revisions, d. -/
inductive Repl (D : Dep) : Nat → Dep → Prop where
  | start : Repl D 0 ⟨[], []⟩
  | step {k : Nat} {d : Dep} {rs : List Rcd} (h : k < D.revs.length) : Repl D k d → appE d (chgV D k (D.revs[k]).chg) = 0 → rs.Perm (d.recs ++ (chgV D k (D.revs[k]).chg).recs) → rs.Pairwise (fun a b => 0 ≤ cmpR b a) → Repl D (k + (runAt D.revs k (D.revs[k]).chg).length) ⟨newRevs d (chgV D k (D.revs[k]).chg), rs⟩
/-- Why Valid says no. -/
inductive Bad (D : Dep) : Prop where
  | revs : 512 < D.revs.length → Bad D
  | recs : 512 < D.recs.length → Bad D
  | lost (r : Rcd) : r ∈ D.recs → chgOf D.revs (r.to, r.num) = none → Bad D
  | stuck (k : Nat) (d : Dep) (h : k < D.revs.length) : Repl D k d → appE d (chgV D k (D.revs[k]).chg) ≠ 0 → Bad D
  | other (d : Dep) : Repl D D.revs.length d → ¬ (d.revs = D.revs ∧ d.recs = D.recs) → Bad D
/-- Why it says yes. -/
structure Good (D : Dep) : Prop where
  len : D.revs.length ≤ 512 ∧ D.recs.length ≤ 512
  found : ∀ r ∈ D.recs, ∃ n, chgOf D.revs (r.to, r.num) = some n
  repl : Repl D D.revs.length D

/-! What holds of the records of a depot that was played. -/
theorem cmpR_anti (a b : Rcd) : cmpR b a = - cmpR a b := by
  have hI : ∀ x y : Int, cmpI y x = - cmpI x y := fun x y => by unfold cmpI; split <;> split <;> omega
  unfold cmpR
  rw [cmpP_anti a.to b.to, hI a.num b.num, cmpP_anti a.frm b.frm, hI a.first b.first]
  unfold orI
  split <;> split <;> (try split) <;> (try split) <;> (try split) <;> (try split) <;> omega
abbrev VRcd := { r : Rcd // validS r.frm = true ∧ validS r.to = true }
theorem vRcd_tot : TotC (fun a b : VRcd => cmpR a.1 b.1) := TotC.or (totP (f := fun r : VRcd => r.1.to) fun r => r.2.2) (TotC.or (totI (f := fun r : VRcd => r.1.num)) (TotC.or (totP (f := fun r : VRcd => r.1.frm) fun r => r.2.1) (totI (f := fun r : VRcd => r.1.first))))
theorem cmpR_trans {a b c : Rcd} (ha : a.val_) (hb : b.val_) (hc : c.val_) (h1 : cmpR a b < 0) (h2 : cmpR b c < 0) : cmpR a c < 0 := vRcd_tot.trans ⟨a, ha⟩ ⟨b, hb⟩ ⟨c, hc⟩ h1 h2
theorem cmpR_key {a b : Rcd} (ha : a.val_) (hb : b.val_) (h : cmpR a b = 0) : a.to = b.to ∧ a.num = b.num := by
  unfold cmpR orI at h
  split at h
  · rename_i h1
    refine ⟨cmpP_eq ha.2 hb.2 h1, ?_⟩
    split at h
    · rename_i h2; unfold cmpI at h2; split at h2 <;> (try split at h2) <;> omega
    · rename_i h2; exact absurd h h2
  · rename_i h1; exact absurd h h1
structure RecOk (d : Dep) : Prop where
  path : ∀ r ∈ d.revs, validS r.path = true
  val_ : ∀ r ∈ d.recs, r.val_
  strict : d.recs.Pairwise (fun a b => cmpR a b < 0)
  inn : ∀ r ∈ d.recs, ∃ v ∈ d.revs, v.path = r.to ∧ v.num = r.num
theorem recsF_pair {revs : List Rev} {c : Chg} {ed : ByteArray → Option Edt} : ∀ (rs : List Rcd) (b : Option Rcd), (∀ r ∈ rs, r.val_) → (∀ x, b = some x → x.val_) → recsF revs c ed b rs = true → (∀ x, b = some x → ∀ r ∈ rs, cmpR x r < 0) ∧ rs.Pairwise (fun a b => cmpR a b < 0)
  | [], b, _, _, h => ⟨fun x _ r hr => (by cases hr), List.Pairwise.nil⟩
  | r :: rs, b, hv, hb, h => by
    unfold recsF at h
    simp only [Bool.and_eq_true] at h
    have hr := hv r (List.mem_cons_self ..)
    obtain ⟨i1, i2⟩ := recsF_pair rs (some r) (fun y hy => hv y (List.mem_cons_of_mem _ hy)) (fun x hx => by injection hx with hx; exact hx ▸ hr) h.2
    refine ⟨fun x hx y hy => ?_, List.pairwise_cons.2 ⟨i1 r rfl, i2⟩⟩
    subst hx
    have h1 : cmpR x r < 0 := by simpa using h.1.1
    rcases List.mem_cons.1 hy with rfl | hy
    · exact h1
    · exact cmpR_trans (hb x rfl) hr (hv y (List.mem_cons_of_mem _ hy)) h1 (i1 r rfl y hy)
/-- What is known of the records of a change that is accepted. -/
theorem app_recs {d : Dep} {c : Chg} (hp : ∀ r ∈ d.revs, validS r.path = true) (h : appE d c = 0) : ∀ r ∈ c.recs, r.val_ ∧ ∃ e ∈ c.edits, e.path = r.to ∧ (lastR (lastOf d.revs) e.path).num + 1 = r.num := by
  obtain ⟨-, h2, -, h4, -⟩ := appE_zero h
  obtain ⟨p1, p2⟩ := everyE_paths h2
  intro r hr
  have h1 := recsF_all _ _ (recsE_zero h4) r hr
  unfold recOk at h1
  rw [Bool.and_eq_true] at h1
  obtain ⟨⟨e, he, -, hn⟩, v, hv⟩ := isRec_parts h1.1
  obtain ⟨g1, g2, -⟩ := greatest_mem hv
  obtain ⟨k1, k2⟩ := editsOf_mem _ _ _ he
  obtain ⟨v1, -, v3⟩ := p2 e k1
  refine ⟨⟨?_, ?_⟩, e, k1, k2, ?_⟩
  · rw [← g2]; exact hp v g1
  · rw [← k2]; exact v1
  · have := (oneE_zero v3).2.1; omega
theorem app_strict {d : Dep} {c : Chg} (hp : ∀ r ∈ d.revs, validS r.path = true) (h : appE d c = 0) : c.recs.Pairwise (fun a b => cmpR a b < 0) :=
  (recsF_pair _ none (fun r hr => (app_recs hp h r hr).1) (fun x hx => by cases hx) (recsE_zero (appE_zero h).2.2.2.1)).2
theorem last_bound {revs : List Rev} (hl : ∀ p, LogOk revs p) {v : Rev} (hv : v ∈ revs) : v.num ≤ (lastR (lastOf revs) v.path).num := by
  have h := hl v.path
  obtain ⟨i, hi, he⟩ := List.mem_iff_getElem.1 (mem_log.2 ⟨hv, rfl⟩)
  have h2 := h.num i hi
  rw [he] at h2
  unfold lastR
  rw [h.last, List.getLast?_eq_getElem?, List.getElem?_eq_getElem (by omega)]
  simp only [Option.getD_some]
  rw [h.num, h2]
  omega
/-- Records of the depot and of the change that is accepted are never equal in their order. -/
theorem app_apart {d : Dep} {c : Chg} (hl : ∀ p, LogOk d.revs p) (hd : RecOk d) (h : appE d c = 0) {a b : Rcd} (ha : a ∈ d.recs) (hb : b ∈ c.recs) : cmpR a b ≠ 0 := by
  intro e
  obtain ⟨b1, x, hx, x1, x2⟩ := app_recs hd.path h b hb
  obtain ⟨k1, k2⟩ := cmpR_key (hd.val_ a ha) b1 e
  obtain ⟨v, hv, v1, v2⟩ := hd.inn a ha
  have := last_bound hl hv
  rw [v1, k1, ← x1] at this
  omega
theorem app_recOk {d : Dep} {c : Chg} {rs : List Rcd} (hl : ∀ p, LogOk d.revs p) (hd : RecOk d) (h : appE d c = 0) (hp : rs.Perm (d.recs ++ c.recs)) (hs : rs.Pairwise (fun a b => 0 ≤ cmpR b a)) : RecOk ⟨newRevs d c, rs⟩ := by
  obtain ⟨-, h2, -, -, -⟩ := appE_zero h
  refine ⟨fun r hr => ?_, fun r hr => ?_, ?_, fun r hr => ?_⟩
  · rcases List.mem_append.1 hr with hr | hr
    · exact hd.path r hr
    · obtain ⟨e, he, rfl⟩ := List.mem_map.1 hr
      exact ((everyE_paths h2).2 e he).1
  · rcases List.mem_append.1 (hp.mem_iff.1 hr) with hr | hr
    · exact hd.val_ r hr
    · exact (app_recs hd.path h r hr).1
  · have hne : (d.recs ++ c.recs).Pairwise (fun a b => cmpR a b ≠ 0) := by
      rw [List.pairwise_append]
      exact ⟨hd.strict.imp fun h => by omega, (app_strict hd.path h).imp fun h => by omega, fun a ha b hb => app_apart hl hd h ha hb⟩
    have hne2 := hne.perm hp.symm (fun {x y} hxy => by rw [cmpR_anti]; omega)
    refine (hs.and hne2).imp ?_
    rintro a b ⟨h1, h2⟩
    rw [cmpR_anti] at h1
    omega
  · show ∃ v ∈ newRevs d c, _
    unfold newRevs
    rcases List.mem_append.1 (hp.mem_iff.1 hr) with hr | hr
    · obtain ⟨v, h1, h2⟩ := hd.inn r hr
      exact ⟨v, List.mem_append_left _ h1, h2⟩
    · obtain ⟨-, e, he, e1, e2⟩ := app_recs hd.path h r hr
      exact ⟨_, List.mem_append_right _ (List.mem_map_of_mem he), e1, e2⟩
theorem plays_recOk {l : List Chg} {d : Dep} (h : Plays l d) : RecOk d := by
  induction h with
  | nil => exact ⟨fun r hr => (by cases hr), fun r hr => (by cases hr), List.Pairwise.nil, fun r hr => (by cases hr)⟩
  | skip _ _ ih => exact ih
  | step hp h0 h1 h2 ih => exact app_recOk (fun p => plays_log hp p) ih h0 h1 h2
theorem strict_uniq {l m : List Rcd} (h1 : l.Pairwise (fun a b => cmpR a b < 0)) (h2 : m.Pairwise (fun a b => cmpR a b < 0)) (hp : l.Perm m) : l = m := by
  refine List.Perm.eq_of_pairwise (le := fun a b => cmpR a b < 0) ?_ h1 h2 hp
  intro a b _ _ h1 h2
  rw [cmpR_anti] at h2
  omega
theorem strict_nodup {l : List Rcd} (h : l.Pairwise (fun a b => cmpR a b < 0)) : l.Nodup := by
  refine h.imp ?_
  rintro a b h rfl
  have := cmpR_anti a a
  omega

/-! A depot that was played, and the depots on the way to it. -/
inductive Chain : Dep → Dep → Prop where
  | refl (d : Dep) : Chain d d
  | step {d D : Dep} {c : Chg} {rs : List Rcd} : appE d c = 0 → rs.Perm (d.recs ++ c.recs) → rs.Pairwise (fun a b => 0 ≤ cmpR b a) → Chain ⟨newRevs d c, rs⟩ D → Chain d D
theorem Chain.snoc {d E : Dep} {c : Chg} {rs : List Rcd} (h : Chain d E) (h0 : appE E c = 0) (h1 : rs.Perm (E.recs ++ c.recs)) (h2 : rs.Pairwise (fun a b => 0 ≤ cmpR b a)) : Chain d ⟨newRevs E c, rs⟩ := by
  induction h with
  | refl d => exact .step h0 h1 h2 (.refl _)
  | step a b e _ ih => exact .step a b e (ih h0 h1)
theorem plays_chain {l : List Chg} {D : Dep} (h : Plays l D) : Chain ⟨[], []⟩ D := by
  induction h with
  | nil => exact .refl _
  | skip _ _ ih => exact ih
  | step _ h0 h1 h2 ih => exact ih.snoc h0 h1 h2
structure OnWay (d D : Dep) : Prop where
  tail : ∃ t, D.revs = d.revs ++ t ∧ (∀ v ∈ t, ∀ u ∈ d.revs, u.chg < v.chg) ∧ ∀ r ∈ D.recs, r ∈ d.recs ∨ ∃ v ∈ t, v.path = r.to ∧ v.num = r.num
  recs : ∀ r ∈ d.recs, r ∈ D.recs
theorem chain_way {d D : Dep} (h : Chain d D) (hd : RecOk d) (hl : ∀ p, LogOk d.revs p) : OnWay d D := by
  induction h with
  | refl d => exact ⟨⟨[], (by simp), fun v hv => (by cases hv), fun r hr => .inl hr⟩, fun r hr => hr⟩
  | @step d D c rs h0 h1 h2 _ ih =>
    obtain ⟨⟨t, t1, t2, t3⟩, i2⟩ := ih (app_recOk hl hd h0 h1 h2) (fun p => log_step h0 p (hl p))
    have hs := (sizeE_zero (appE_zero h0).1).2.2.2.2.2
    refine ⟨⟨c.edits.map (madeR (lastOf d.revs) c.num) ++ t, ?_, ?_, ?_⟩, fun r hr => i2 r (h1.mem_iff.2 (List.mem_append_left _ hr))⟩
    · rw [t1]; unfold newRevs; simp
    · intro v hv u hu
      rcases List.mem_append.1 hv with hv | hv
      · obtain ⟨e, -, rfl⟩ := List.mem_map.1 hv
        exact hs u hu
      · exact t2 v hv u (List.mem_append_left _ hu)
    · intro r hr
      rcases t3 r hr with h3 | ⟨v, v1, v2⟩
      · rcases List.mem_append.1 (h1.mem_iff.1 h3) with h3 | h3
        · exact .inl h3
        · obtain ⟨-, e, he, e1, e2⟩ := app_recs hd.path h0 r h3
          exact .inr ⟨_, List.mem_append_left _ (List.mem_map_of_mem he), e1, e2⟩
      · exact .inr ⟨v, List.mem_append_right _ v1, v2⟩
theorem chain_log {d D : Dep} (h : Chain d D) (hl : ∀ p, LogOk d.revs p) : ∀ p, LogOk D.revs p := by
  induction h with
  | refl d => exact hl
  | step h0 _ _ _ ih => exact ih fun p => log_step h0 p (hl p)
theorem chain_rec {d D : Dep} (h : Chain d D) (hl : ∀ p, LogOk d.revs p) (hd : RecOk d) : RecOk D := by
  induction h with
  | refl d => exact hd
  | step h0 h1 h2 _ ih => exact ih (fun p => log_step h0 p (hl p)) (app_recOk hl hd h0 h1 h2)
/-- The number of the change of a revision. -/
theorem chgOf_some {revs : List Rev} (hl : ∀ p, LogOk revs p) {v : Rev} (hv : v ∈ revs) : chgOf revs (v.path, v.num) = some v.chg := by
  suffices H : ∀ (l : List Rev) (f : Fil → Option Int), (∀ r ∈ l, r ∈ revs) → (v ∈ l ∨ f (v.path, v.num) = some v.chg) → l.foldl (fun f r => upd f (r.path, r.num) r.chg) f (v.path, v.num) = some v.chg by
    exact H revs _ (fun r h => h) (.inl hv)
  intro l
  induction l with
  | nil => intro f _ h; rcases h with h | h
           · cases h
           · exact h
  | cons x l ih =>
    intro f hm h
    rw [List.foldl_cons]
    refine ih _ (fun r hr => hm r (List.mem_cons_of_mem _ hr)) ?_
    by_cases he : (v.path, v.num) = (x.path, x.num)
    · right
      injection he with e1 e2
      have hx := hm x (List.mem_cons_self ..)
      have : x = v := (hl v.path).uniq hx hv e1.symm rfl e2.symm
      subst this
      unfold upd; simp
    · rcases h with h | h
      · rcases List.mem_cons.1 h with rfl | h
        · exact absurd rfl he
        · exact .inl h
      · right
        unfold upd; rw [if_neg he]; exact h
theorem edtW_made {d : Dep} {c : Chg} {e : Edt} (h2 : everyE (lastOf d.revs) emptyS c.edits = 0) (hb : ∀ p, LogOk d.revs p) (hlen : d.revs.length ≤ 1000000) (he : e ∈ c.edits) : edtW (madeR (lastOf d.revs) c.num e) = { e with fence := 0 } := by
  obtain ⟨-, hB, -, -⟩ := oneE_zero ((everyE_paths h2).2 e he).2.2
  have hr : 0 ≤ (lastR (lastOf d.revs) e.path).num ∧ (lastR (lastOf d.revs) e.path).num ≤ 1000000 := by
    have h := hb e.path
    unfold lastR
    rw [h.last, List.getLast?_eq_getElem?]
    by_cases h0 : (logOf d.revs e.path).length = 0
    · rw [h0, List.getElem?_eq_none (by omega)]; simp [zeroRev]
    · rw [List.getElem?_eq_getElem (by omega)]
      simp only [Option.getD_some]
      rw [h.num]
      have : (logOf d.revs e.path).length ≤ d.revs.length := List.length_filter_le ..
      omega
  have hw : IntKind.i64.wrap ((lastR (lastOf d.revs) e.path).num + 1 - 1) = e.base := by
    rw [hB, show (lastR (lastOf d.revs) e.path).num + 1 - 1 = (lastR (lastOf d.revs) e.path).num by omega]
    exact IntWalk.i64_in _ (by omega)
  obtain ⟨e1, e2, e3, e4, e5, e6, e7, e8, e9⟩ := e
  unfold edtW madeR
  simp only [Edt.mk.injEq, true_and, and_true]
  exact hw
/-! Fences, client and text do not count. -/
def noFence (e : Edt) : Edt := { e with fence := 0 }
theorem everyE_fence (last : ByteArray → Option Rev) (b : ByteArray) (es : List Edt) : everyE last b (es.map noFence) = everyE last b es := by
  induction es generalizing b with
  | nil => rfl
  | cons e es ih =>
    rw [List.map_cons, everyE, everyE]
    have h1 : editE last b (noFence e) = editE last b e := rfl
    have h2 : (noFence e).path = e.path := rfl
    rw [h1, h2, ih]
theorem editsOf_fence (es : List Edt) (p : ByteArray) : editsOf (es.map noFence) p = (editsOf es p).map noFence := by
  suffices H : ∀ (l : List Edt) (f g : ByteArray → Option Edt), (∀ p, g p = (f p).map noFence) → (l.map noFence).foldl (fun f e => upd f e.path e) g p = (l.foldl (fun f e => upd f e.path e) f p).map noFence from H es _ _ (fun _ => rfl)
  intro l
  induction l with
  | nil => intro f g h; exact h p
  | cons x l ih =>
    intro f g h
    rw [List.map_cons, List.foldl_cons, List.foldl_cons]
    refine ih _ _ fun q => ?_
    have : (noFence x).path = x.path := rfl
    unfold upd
    rw [this]
    split
    · rfl
    · exact h q
theorem arrivals_fence (es : List Edt) (p : ByteArray) : arrivals (es.map noFence) p = arrivals es p := by
  unfold arrivals; rw [List.countP_map]; rfl
theorem movesE_fence (es : List Edt) : movesE (es.map noFence) = movesE es := by
  unfold movesE
  have : (es.map noFence).all (moveOk (es.map noFence) (editsOf (es.map noFence))) = es.all (moveOk es (editsOf es)) := by
    rw [List.all_map]
    congr 1
    funext e
    show moveOk (es.map noFence) (editsOf (es.map noFence)) (noFence e) = moveOk es (editsOf es) e
    have hg : ((editsOf (es.map noFence) e.frm).getD zeroEdt).act = ((editsOf es e.frm).getD zeroEdt).act := by
      rw [editsOf_fence]
      cases editsOf es e.frm <;> rfl
    unfold moveOk
    show (if e.act = 5 then decide (arrivals (es.map noFence) e.path = 1) else if e.act = 4 then decide (((editsOf (es.map noFence) e.frm).getD zeroEdt).act = 5) else true) = _
    rw [arrivals_fence, hg]
  rw [this]
theorem recOk_fence (revs : List Rev) (num : Int) (c1 c2 t1 t2 : ByteArray) (es : List Edt) (rs : List Rcd) (r : Rcd) :
    recOk revs ⟨num, c1, t1, es.map noFence, rs⟩ (editsOf (es.map noFence)) r = recOk revs ⟨num, c2, t2, es, rs⟩ (editsOf es) r := by
  unfold recOk isRec
  dsimp only
  rw [editsOf_fence]
  cases editsOf es r.to <;> rfl
theorem recsF_fence (revs : List Rev) (num : Int) (c1 c2 t1 t2 : ByteArray) (es : List Edt) (rs : List Rcd) : ∀ (l : List Rcd) (b : Option Rcd),
    recsF revs ⟨num, c1, t1, es.map noFence, rs⟩ (editsOf (es.map noFence)) b l = recsF revs ⟨num, c2, t2, es, rs⟩ (editsOf es) b l
  | [], b => by unfold recsF; rfl
  | r :: l, b => by
    unfold recsF
    rw [recOk_fence revs num c1 c2 t1 t2, recsF_fence revs num c1 c2 t1 t2]
theorem appE_fence (d : Dep) (c : Chg) : appE d ⟨c.num, emptyS, emptyS, c.edits.map noFence, c.recs⟩ = appE d c := by
  obtain ⟨num, c1, t1, es, rs⟩ := c
  unfold appE
  have h1 : sizeE d.revs ⟨num, emptyS, emptyS, es.map noFence, rs⟩ = sizeE d.revs ⟨num, c1, t1, es, rs⟩ := by unfold sizeE; dsimp only; rw [List.length_map]
  have h2 : everyE (lastOf d.revs) emptyS (es.map noFence) = everyE (lastOf d.revs) emptyS es := everyE_fence _ _ _
  have h3 : movesE (es.map noFence) = movesE es := movesE_fence _
  have h4 : recsE d.revs ⟨num, emptyS, emptyS, es.map noFence, rs⟩ = recsE d.revs ⟨num, c1, t1, es, rs⟩ := by unfold recsE; dsimp only; rw [recsF_fence d.revs num emptyS c1 emptyS t1]
  have h5 : roomE d ⟨num, emptyS, emptyS, es.map noFence, rs⟩ = roomE d ⟨num, c1, t1, es, rs⟩ := by unfold roomE; dsimp only; rw [List.length_map]
  rw [h1, h4, h5]
  dsimp only
  rw [h2, h3]
theorem newRevs_fence (d : Dep) (c : Chg) : newRevs d ⟨c.num, emptyS, emptyS, c.edits.map noFence, c.recs⟩ = newRevs d c := by
  unfold newRevs; dsimp only; rw [List.map_map]; rfl
theorem takeWhile_app {α : Type} (p : α → Bool) (a b : List α) (ha : ∀ x ∈ a, p x = true) (hb : ∀ x ∈ b, p x = false) : (a ++ b).takeWhile p = a := by
  rw [List.takeWhile_append_of_pos ha]
  cases b with
  | nil => simp
  | cons x b => rw [List.takeWhile_cons_of_neg (by rw [hb x (List.mem_cons_self ..)]; simp)]; simp
/-- One step on the way: the change that Valid makes anew is the one that was accepted. -/
theorem way_step {d D : Dep} {c : Chg} {rs : List Rcd} (hl : ∀ p, LogOk d.revs p) (hd : RecOk d) (h0 : appE d c = 0) (h1 : rs.Perm (d.recs ++ c.recs)) (h2 : rs.Pairwise (fun a b => 0 ≤ cmpR b a)) (hC : Chain ⟨newRevs d c, rs⟩ D) :
    ∃ h : d.revs.length < D.revs.length, (D.revs[d.revs.length]).chg = c.num ∧ runAt D.revs d.revs.length c.num = c.edits.map (madeR (lastOf d.revs) c.num) ∧ chgV D d.revs.length c.num = ⟨c.num, emptyS, emptyS, c.edits.map noFence, c.recs⟩ := by
  obtain ⟨a1, a2, a3, a4, a5⟩ := appE_zero h0
  obtain ⟨s1, -, -, -, -, s6⟩ := sizeE_zero a1
  obtain ⟨r1, -⟩ := roomE_zero a5
  have hl2 := fun p => log_step h0 p (hl p)
  have hd2 := app_recOk hl hd h0 h1 h2
  obtain ⟨⟨t, t1, t2, t3⟩, t4⟩ := chain_way hC hd2 hl2
  have hlD := chain_log hC hl2
  have hdD := chain_rec hC hl2 hd2
  have ht : D.revs = d.revs ++ (c.edits.map (madeR (lastOf d.revs) c.num) ++ t) := by rw [t1]; unfold newRevs; simp
  have hgt : ∀ v ∈ t, c.num < v.chg := by
    intro v hv
    obtain ⟨e, he⟩ := List.exists_mem_of_length_pos (l := c.edits) (by omega)
    exact t2 v hv (madeR (lastOf d.revs) c.num e) (List.mem_append_right _ (List.mem_map_of_mem he))
  have hlt : d.revs.length < D.revs.length := by rw [ht]; simp; omega
  have hk : (D.revs[d.revs.length]).chg = c.num := by
    have h : D.revs[d.revs.length]? = (c.edits.map (madeR (lastOf d.revs) c.num))[0]? := by
      rw [ht, List.getElem?_append_right (Nat.le_refl _), Nat.sub_self, List.getElem?_append_left (by simp; omega)]
    rw [List.getElem?_eq_getElem hlt, List.getElem?_eq_getElem (by simp; omega)] at h
    injection h with h
    rw [h]; simp [madeR]
  have hrun : runAt D.revs d.revs.length c.num = c.edits.map (madeR (lastOf d.revs) c.num) := by
    unfold runAt
    rw [ht, List.drop_left]
    refine takeWhile_app _ _ _ (fun x hx => ?_) (fun x hx => ?_)
    · obtain ⟨e, -, rfl⟩ := List.mem_map.1 hx; exact decide_eq_true rfl
    · have := hgt x hx; exact decide_eq_false (by omega)
  have hrec : recsAt D c.num = c.recs := by
    refine strict_uniq (hdD.strict.sublist List.filter_sublist) (app_strict hd.path h0) ?_
    unfold recsAt
    rw [List.perm_ext_iff_of_nodup ((strict_nodup hdD.strict).sublist List.filter_sublist) (strict_nodup (app_strict hd.path h0))]
    intro r
    rw [List.mem_filter, decide_eq_true_eq]
    constructor
    · rintro ⟨r1, r2⟩
      rcases t3 r r1 with h | ⟨v, v1, v2, v3⟩
      · rcases List.mem_append.1 (h1.mem_iff.1 h) with h | h
        · obtain ⟨v, v1, v2, v3⟩ := hd.inn r h
          have hv := chgOf_some hlD (v := v) (by rw [ht]; exact List.mem_append_left _ v1)
          rw [v2, v3, r2] at hv
          injection hv with hv
          have := s6 v v1
          omega
        · exact h
      · have hv := chgOf_some hlD (v := v) (by rw [t1]; exact List.mem_append_right _ v1)
        rw [v2, v3, r2] at hv
        injection hv with hv
        have := hgt v v1
        omega
    · intro hr
      refine ⟨t4 r (h1.mem_iff.2 (List.mem_append_right _ hr)), ?_⟩
      obtain ⟨-, e, he, e1, e2⟩ := app_recs hd.path h0 r hr
      have hv := chgOf_some hlD (v := madeR (lastOf d.revs) c.num e) (by rw [ht]; exact List.mem_append_right _ (List.mem_append_left _ (List.mem_map_of_mem he)))
      rw [← e1, ← e2]
      exact hv
  refine ⟨hlt, hk, hrun, ?_⟩
  unfold chgV
  rw [hrun, hrec, List.map_map]
  congr 1
  refine List.map_congr_left fun e he => ?_
  exact edtW_made a2 hl (by omega) he
/-- Every depot that Valid makes anew is on the way. -/
theorem repl_way {D : Dep} (hD : Chain ⟨[], []⟩ D) {k : Nat} {d : Dep} (h : Repl D k d) : k = d.revs.length ∧ Chain d D ∧ RecOk d ∧ ∀ p, LogOk d.revs p := by
  induction h with
  | start => exact ⟨rfl, hD, plays_recOk Plays.nil, fun p => plays_log Plays.nil p⟩
  | @step k d rs hk hr h0 h1 h2 ih =>
    obtain ⟨rfl, hC, hR, hL⟩ := ih
    cases hC with
    | refl => exact absurd hk (Nat.lt_irrefl _)
    | @step _ _ c rs' a0 a1 a2 hC' =>
      obtain ⟨b1, b2, b3, b4⟩ := way_step hL hR a0 a1 a2 hC'
      rw [b2, b4] at h0 h1
      rw [b2, b3, b4]
      dsimp only at h1
      rw [newRevs_fence]
      have hrs : rs = rs' := strict_uniq (app_recOk hL hR a0 h1 h2).strict (app_recOk hL hR a0 a1 a2).strict (h1.trans a1.symm)
      subst hrs
      exact ⟨by unfold newRevs; simp, hC', app_recOk hL hR a0 a1 a2, fun p => log_step a0 p (hL p)⟩
theorem chain_len {d D : Dep} (h : Chain d D) : d.revs.length ≤ D.revs.length ∧ (d.revs.length = D.revs.length → d = D) := by
  induction h with
  | refl d => exact ⟨Nat.le_refl _, fun _ => rfl⟩
  | @step d D c rs h0 h1 h2 _ ih =>
    obtain ⟨s1, -⟩ := sizeE_zero (appE_zero h0).1
    have hn : (newRevs d c).length = d.revs.length + c.edits.length := by unfold newRevs; simp
    have := ih.1
    dsimp only at this
    exact ⟨by omega, fun e => by omega⟩
theorem plays_notBad {l : List Chg} {D : Dep} (h : Plays l D) (h1 : D.revs.length ≤ 512) (h2 : D.recs.length ≤ 512) : ¬ Bad D := by
  have hD := plays_chain h
  intro hb
  cases hb with
  | revs h => omega
  | recs h => omega
  | lost r hr hn =>
    obtain ⟨v, v1, v2, v3⟩ := (plays_recOk h).inn r hr
    have := chgOf_some (fun p => plays_log h p) v1
    rw [v2, v3, hn] at this
    cases this
  | stuck k d hk hr hn =>
    obtain ⟨rfl, hC, hR, hL⟩ := repl_way hD hr
    cases hC with
    | refl => exact absurd hk (Nat.lt_irrefl _)
    | @step _ _ c rs' a0 a1 a2 hC' =>
      obtain ⟨b1, b2, b3, b4⟩ := way_step hL hR a0 a1 a2 hC'
      rw [b2, b4, appE_fence] at hn
      exact hn a0
  | other d hr hn =>
    obtain ⟨e, hC, -, -⟩ := repl_way hD hr
    have := (chain_len hC).2 e.symm
    subst this
    exact hn ⟨rfl, rfl⟩
end Go.Proofs.YtmhmnchdhacdbaaDoor
/- Plain: the reference's words for a depot's revisions, and that they say what the program's maps hold. -/
namespace Go.Proofs.YtmhmnchdhacdbaaDoor
open Go.RowKit
set_option linter.unusedVariables false
set_option linter.unusedSimpArgs false

def rGet (D : List Rev) (p : ByteArray) (n : Int) : Option Rev := (logOf D p).find? fun v => decide (v.num = n)
def rLast (D : List Rev) (p : ByteArray) : Option Rev := (logOf D p).getLast?
def rPrev (D : List Rev) (v : Rev) : Option Rev := if v.act = 1 then none else if v.act = 4 then rGet D v.frm v.fnum else rGet D v.path (v.num - 1)
theorem rGet_mem {D : List Rev} {p : ByteArray} {n : Int} {v : Rev} (h : rGet D p n = some v) : v ∈ D ∧ v.path = p ∧ v.num = n := by
  have h1 := List.mem_of_find?_eq_some h
  have h2 := List.find?_some h
  obtain ⟨a, b⟩ := mem_log.1 h1
  exact ⟨a, b, by simpa using h2⟩
theorem rPrev_mem {D : List Rev} {u v : Rev} (h : rPrev D v = some u) : u ∈ D := by
  unfold rPrev at h
  split at h
  · cases h
  · split at h
    · exact (rGet_mem h).1
    · exact (rGet_mem h).1
theorem chg_count {D : List Rev} {u v : Rev} (hu : u ∈ D) (h : u.chg < v.chg) : D.countP (fun x => decide (x.chg < u.chg)) < D.countP (fun x => decide (x.chg < v.chg)) := by
  have h1 : D.countP (fun x => decide (x.chg < v.chg)) = D.countP (fun x => decide (x.chg < u.chg)) + D.countP (fun x => decide (u.chg ≤ x.chg) && decide (x.chg < v.chg)) := by
    clear hu
    induction D with
    | nil => rfl
    | cons x D ih =>
      rw [List.countP_cons, List.countP_cons, List.countP_cons, ih]
      by_cases a : x.chg < u.chg
      · have b : x.chg < v.chg := by omega
        have c : ¬ u.chg ≤ x.chg := by omega
        simp [a, b, c]; omega
      · by_cases b : x.chg < v.chg
        · have c : u.chg ≤ x.chg := by omega
          simp [a, b, c]; omega
        · simp [a, b]
  have h2 : 0 < D.countP (fun x => decide (u.chg ≤ x.chg) && decide (x.chg < v.chg)) := List.countP_pos_iff.2 ⟨u, hu, by simp [h]⟩
  omega
/-- The first member of the line of a revision. -/
def rFirst (D : List Rev) (v : Rev) : Fil :=
  match h : rPrev D v with
  | none => (v.path, v.num)
  | some u => if hc : u.chg < v.chg then rFirst D u else (v.path, v.num)
termination_by D.countP fun x => decide (x.chg < v.chg)
decreasing_by exact chg_count (rPrev_mem h) hc
theorem rFirst_none {D : List Rev} {v : Rev} (h : rPrev D v = none) : rFirst D v = (v.path, v.num) := by
  rw [rFirst]; split
  · rfl
  · rename_i u hu; rw [h] at hu; cases hu
theorem rFirst_some {D : List Rev} {u v : Rev} (h : rPrev D v = some u) (hc : u.chg < v.chg) : rFirst D v = rFirst D u := by
  conv => lhs; rw [rFirst]
  split
  · rename_i hu; rw [h] at hu; cases hu
  · rename_i w hu
    rw [h] at hu
    injection hu with hu
    subst hu
    rw [dif_pos hc]
theorem rFirst_stop {D : List Rev} {u v : Rev} (h : rPrev D v = some u) (hc : ¬ u.chg < v.chg) : rFirst D v = (v.path, v.num) := by
  rw [rFirst]
  split
  · rfl
  · rename_i w hu
    rw [h] at hu
    injection hu with hu
    subst hu
    rw [dif_neg hc]
theorem LogOk.rlast {D : List Rev} {p : ByteArray} (h : LogOk D p) : rLast D p = lastOf D p := h.last.symm
theorem LogOk.rget {D : List Rev} {p : ByteArray} (h : LogOk D p) {v : Rev} (hv : v ∈ D) (hp : v.path = p) : rGet D p v.num = some v := by
  cases hg : rGet D p v.num with
  | none =>
    exfalso
    have := List.find?_eq_none.1 hg v (mem_log.2 ⟨hv, hp⟩)
    simp at this
  | some u =>
    obtain ⟨a, b, c⟩ := rGet_mem hg
    rw [h.uniq a hv b hp c]
theorem LogOk.rget_eq {D : List Rev} {p : ByteArray} (h : LogOk D p) (n : Int) : rGet D p n = greatest D p (fun r => decide (r.num = n)) := by
  cases hg : rGet D p n with
  | some u =>
    obtain ⟨a, b, c⟩ := rGet_mem hg
    subst c
    exact (h.get a b).symm
  | none =>
    cases hq : greatest D p (fun r => decide (r.num = n)) with
    | none => rfl
    | some u =>
      obtain ⟨a, b, c⟩ := greatest_mem hq
      have := List.find?_eq_none.1 hg u (mem_log.2 ⟨a, b⟩)
      simp at this c
      exact absurd c this
theorem LogOk.rget_in {D : List Rev} {p : ByteArray} (h : LogOk D p) (n : Int) : (∃ v, rGet D p n = some v) ↔ 1 ≤ n ∧ n ≤ (logOf D p).length := by
  constructor
  · rintro ⟨v, hv⟩
    obtain ⟨a, b, c⟩ := rGet_mem hv
    obtain ⟨i, hi, e⟩ := List.mem_iff_getElem.1 (mem_log.2 ⟨a, b⟩)
    have := h.num i hi
    rw [e] at this
    omega
  · rintro ⟨h1, h2⟩
    have hi : n.toNat - 1 < (logOf D p).length := by omega
    have hn := h.num (n.toNat - 1) hi
    obtain ⟨a, b⟩ := mem_log.1 (List.getElem_mem hi)
    refine ⟨(logOf D p)[n.toNat - 1], ?_⟩
    have := h.rget a b
    rw [hn, show ((n.toNat - 1 : Nat) : Int) + 1 = n by omega] at this
    exact this
/-- Each revision follows one of an earlier change that is live, or begins a line. -/
structure PrevOk (D : List Rev) : Prop where
  act : ∀ v ∈ D, 1 ≤ v.act ∧ v.act ≤ 5
  num : ∀ v ∈ D, 1 ≤ v.num
  prev : ∀ v ∈ D, v.act = 1 ∨ ∃ u, rPrev D v = some u ∧ u.chg < v.chg ∧ liveA u.act = true
theorem rGet_app {D E : List Rev} {p : ByteArray} {n : Int} {u : Rev} (h : rGet D p n = some u) : rGet (D ++ E) p n = some u := by
  unfold rGet at h ⊢
  rw [log_app, List.find?_append, h]; rfl
theorem rPrev_app {D E : List Rev} {v u : Rev} (h : rPrev D v = some u) : rPrev (D ++ E) v = some u := by
  unfold rPrev at h ⊢
  split
  · rename_i h1; rw [if_pos h1] at h; cases h
  · rename_i h1
    rw [if_neg h1] at h
    split
    · rename_i h2; rw [if_pos h2] at h; exact rGet_app h
    · rename_i h2; rw [if_neg h2] at h; exact rGet_app h
theorem rFirst_app {D E : List Rev} (hD : PrevOk D) {v : Rev} (hv : v ∈ D) : rFirst (D ++ E) v = rFirst D v := by
  suffices H : ∀ (n : Nat) (v : Rev), v ∈ D → D.countP (fun x => decide (x.chg < v.chg)) ≤ n → rFirst (D ++ E) v = rFirst D v from H _ v hv (Nat.le_refl _)
  intro n
  induction n with
  | zero =>
    intro v hv hn
    rcases hD.prev v hv with h | ⟨u, hu, hc, -⟩
    · rw [rFirst_none (by unfold rPrev; rw [if_pos h]), rFirst_none (by unfold rPrev; rw [if_pos h])]
    · have := chg_count (rPrev_mem hu) hc; omega
  | succ n ih =>
    intro v hv hn
    rcases hD.prev v hv with h | ⟨u, hu, hc, -⟩
    · rw [rFirst_none (by unfold rPrev; rw [if_pos h]), rFirst_none (by unfold rPrev; rw [if_pos h])]
    · rw [rFirst_some hu hc, rFirst_some (rPrev_app hu) hc]
      have := chg_count (rPrev_mem hu) hc
      exact ih u (rPrev_mem hu) (by omega)
theorem rFirst_in {D : List Rev} (hD : PrevOk D) {v : Rev} (hv : v ∈ D) : ∃ u ∈ D, rFirst D v = (u.path, u.num) := by
  suffices H : ∀ (n : Nat) (v : Rev), v ∈ D → D.countP (fun x => decide (x.chg < v.chg)) ≤ n → ∃ u ∈ D, rFirst D v = (u.path, u.num) from H _ v hv (Nat.le_refl _)
  intro n
  induction n with
  | zero =>
    intro v hv hn
    rcases hD.prev v hv with h | ⟨u, hu, hc, -⟩
    · exact ⟨v, hv, rFirst_none (by unfold rPrev; rw [if_pos h])⟩
    · have := chg_count (rPrev_mem hu) hc; omega
  | succ n ih =>
    intro v hv hn
    rcases hD.prev v hv with h | ⟨u, hu, hc, -⟩
    · exact ⟨v, hv, rFirst_none (by unfold rPrev; rw [if_pos h])⟩
    · have := chg_count (rPrev_mem hu) hc
      obtain ⟨x, hx, e⟩ := ih u (rPrev_mem hu) (by omega)
      exact ⟨x, hx, by rw [rFirst_some hu hc]; exact e⟩
theorem last_in {D : List Rev} {p : ByteArray} (h : LogOk D p) {v : Rev} (hl : lastOf D p = some v) : v ∈ D ∧ v.path = p ∧ rGet D p v.num = some v := by
  obtain ⟨a, b⟩ := lastOf_mem _ _ _ hl
  exact ⟨a, b, h.rget a b⟩
/-- The revision that the one that an edit makes follows. -/
theorem made_prev2 {d : Dep} {c : Chg} (hl : ∀ p, LogOk d.revs p) (hs : ∀ r ∈ d.revs, r.chg < c.num) (h2 : everyE (lastOf d.revs) emptyS c.edits = 0) {e : Edt} (he : e ∈ c.edits) : e.act = 1 ∨ ∃ u, rPrev d.revs (madeR (lastOf d.revs) c.num e) = some u ∧ u.chg < c.num ∧ liveA u.act = true ∧ (if e.act = 4 then (u.path, u.num) = (e.frm, e.fnum) else (u.path, u.num) = (e.path, (lastR (lastOf d.revs) e.path).num)) := by
  obtain ⟨o1, o2, o3, -⟩ := oneE_zero ((everyE_paths h2).2 e he).2.2
  by_cases a1 : e.act = 1
  · exact .inl a1
  right
  by_cases a4 : e.act = 4
  · unfold fromE at o3
    rw [if_pos a4] at o3
    simp only [Bool.and_eq_true, decide_eq_true_eq] at o3
    obtain ⟨⟨f1, -⟩, f3⟩ := o3
    unfold isLast at f1
    unfold lastR at f3
    cases hx : lastOf d.revs e.frm with
    | none => rw [hx] at f1; cases f1
    | some u =>
      rw [hx] at f1 f3
      simp only [Option.getD_some] at f3
      obtain ⟨b1, b2, b3⟩ := last_in (hl _) hx
      refine ⟨u, ?_, hs u b1, f1, ?_⟩
      · unfold rPrev
        rw [if_neg (show ¬ (madeR (lastOf d.revs) c.num e).act = 1 from a1), if_pos (show (madeR (lastOf d.revs) c.num e).act = 4 from a4)]
        show rGet d.revs e.frm e.fnum = some u
        rw [f3]; exact b3
      · rw [if_pos a4, b2, f3]
  · have hadd := actE_zero o1
    have hna : addA e.act = false := by unfold addA; simp [a1, a4]
    rw [hna] at hadd
    have hlv : isLast (lastOf d.revs) e.path = true := by simpa using hadd.symm
    unfold isLast at hlv
    cases hx : lastOf d.revs e.path with
    | none => rw [hx] at hlv; cases hlv
    | some u =>
      rw [hx] at hlv
      obtain ⟨b1, b2, b3⟩ := last_in (hl _) hx
      have hR : lastR (lastOf d.revs) e.path = u := by unfold lastR; rw [hx]; rfl
      refine ⟨u, ?_, hs u b1, hlv, ?_⟩
      · unfold rPrev
        rw [if_neg (show ¬ (madeR (lastOf d.revs) c.num e).act = 1 from a1), if_neg (show ¬ (madeR (lastOf d.revs) c.num e).act = 4 from a4)]
        show rGet d.revs e.path ((lastR (lastOf d.revs) e.path).num + 1 - 1) = some u
        rw [hR, show u.num + 1 - 1 = u.num by omega]
        exact b3
      · rw [if_neg a4, hR, b2]
theorem made_prev {d : Dep} {c : Chg} (hl : ∀ p, LogOk d.revs p) (h : appE d c = 0) {e : Edt} (he : e ∈ c.edits) : e.act = 1 ∨ ∃ u, rPrev d.revs (madeR (lastOf d.revs) c.num e) = some u ∧ u.chg < c.num ∧ liveA u.act = true ∧ (if e.act = 4 then (u.path, u.num) = (e.frm, e.fnum) else (u.path, u.num) = (e.path, (lastR (lastOf d.revs) e.path).num)) :=
  made_prev2 hl (sizeE_zero (appE_zero h).1).2.2.2.2.2 (appE_zero h).2.1 he
theorem acts_ok {last : ByteArray → Option Rev} {e : Edt} (h : actE last e = 0) : 1 ≤ e.act ∧ e.act ≤ 5 := by
  unfold actE at h
  split at h
  · omega
  · split at h
    · omega
    · omega
theorem app_prevOk {d : Dep} {c : Chg} (hl : ∀ p, LogOk d.revs p) (hP : PrevOk d.revs) (h : appE d c = 0) : PrevOk (newRevs d c) := by
  obtain ⟨h1, h2, -, -, -⟩ := appE_zero h
  refine ⟨fun v hv => ?_, fun v hv => ?_, fun v hv => ?_⟩
  · rcases List.mem_append.1 hv with hv | hv
    · exact hP.act v hv
    · obtain ⟨e, he, rfl⟩ := List.mem_map.1 hv
      exact acts_ok (oneE_zero ((everyE_paths h2).2 e he).2.2).1
  · rcases List.mem_append.1 hv with hv | hv
    · exact hP.num v hv
    · obtain ⟨e, he, rfl⟩ := List.mem_map.1 hv
      show 1 ≤ (lastR (lastOf d.revs) e.path).num + 1
      unfold lastR
      cases hx : lastOf d.revs e.path with
      | none => simp [zeroRev]
      | some u => have := hP.num u (lastOf_mem _ _ _ hx).1; simp; omega
  · rcases List.mem_append.1 hv with hv | hv
    · rcases hP.prev v hv with h | ⟨u, a, b⟩
      · exact .inl h
      · exact .inr ⟨u, rPrev_app a, b⟩
    · obtain ⟨e, he, rfl⟩ := List.mem_map.1 hv
      rcases made_prev hl h he with h | ⟨u, a, b, c', -⟩
      · exact .inl h
      · exact .inr ⟨u, rPrev_app a, b, c'⟩
/-- The map of the lines holds the first members, and none of a file that moved away. -/
structure LineOk (D : List Rev) : Prop where
  live : ∀ v ∈ D, v.act ≠ 5 → linesOf D (v.path, v.num) = some (rFirst D v)
  none_ : ∀ f, (∀ v ∈ D, v.act ≠ 5 → (v.path, v.num) ≠ f) → linesOf D f = none
theorem lines_news (last : ByteArray → Option Rev) (n : Int) (g : Edt → Fil) : ∀ (es : List Edt) (f : Fil → Option Fil), (es.map (·.path)).Nodup → (∀ e ∈ es, e.act ≠ 5 → ∀ h : Fil → Option Fil, (∀ k, (∀ x ∈ es, k ≠ (x.path, (lastR last x.path).num + 1)) → h k = f k) → lineV h (madeR last n e) = g e) →
    ∀ k, ((es.map (madeR last n)).foldl lineM f) k = (match es.find? (fun e => decide (e.act ≠ 5) && decide ((e.path, (lastR last e.path).num + 1) = k)) with
      | some e => some (g e)
      | none => f k) := by
  intro es
  induction es with
  | nil => intro f _ _ k; rfl
  | cons e es ih =>
    intro f hn hg k
    rw [List.map_cons, List.nodup_cons] at hn
    rw [List.map_cons, List.foldl_cons]
    have hkey : ∀ x ∈ es, (e.path, (lastR last e.path).num + 1) ≠ (x.path, (lastR last x.path).num + 1) := by
      intro x hx h
      injection h with h _
      exact hn.1 (List.mem_map.2 ⟨x, hx, h.symm⟩)
    by_cases h5 : e.act = 5
    · have hl : lineM f (madeR last n e) = f := by unfold lineM; rw [if_pos (show (madeR last n e).act = 5 from h5)]
      rw [hl, List.find?_cons_of_neg (by simp [h5])]
      refine ih f hn.2 (fun x hx hx5 h hh => hg x (List.mem_cons_of_mem _ hx) hx5 h fun k hk => hh k fun y hy => hk y (List.mem_cons_of_mem _ hy)) k
    · have hv : lineV f (madeR last n e) = g e := hg e (List.mem_cons_self ..) h5 f fun _ _ => rfl
      have hl : lineM f (madeR last n e) = upd f (e.path, (lastR last e.path).num + 1) (g e) := by
        unfold lineM
        rw [if_neg (show ¬ (madeR last n e).act = 5 from h5), hv]
        rfl
      rw [hl]
      rw [ih (upd f (e.path, (lastR last e.path).num + 1) (g e)) hn.2 (fun x hx hx5 h hh => hg x (List.mem_cons_of_mem _ hx) hx5 h fun k hk => by
        rw [hh k fun y hy => hk y (List.mem_cons_of_mem _ hy)]
        unfold upd
        rw [if_neg (hk e (List.mem_cons_self ..))]) k]
      by_cases hk : (e.path, (lastR last e.path).num + 1) = k
      · rw [List.find?_cons_of_pos (by simp [h5, hk])]
        have hf : es.find? (fun e => decide (e.act ≠ 5) && decide ((e.path, (lastR last e.path).num + 1) = k)) = none := by
          rw [List.find?_eq_none]
          intro x hx hh
          rw [Bool.and_eq_true] at hh
          exact hkey x hx (hk.trans (of_decide_eq_true hh.2).symm)
        rw [hf]
        dsimp only
        unfold upd
        rw [if_pos hk.symm]
      · rw [List.find?_cons_of_neg (by simp [hk])]
        cases es.find? (fun e => decide (e.act ≠ 5) && decide ((e.path, (lastR last e.path).num + 1) = k)) with
        | some x => rfl
        | none =>
          dsimp only
          unfold upd
          rw [if_neg (fun h => hk h.symm)]
theorem find_edit {es : List Edt} (hn : (es.map (·.path)).Nodup) (last : ByteArray → Option Rev) {e : Edt} (he : e ∈ es) (h5 : e.act ≠ 5) : es.find? (fun x => decide (x.act ≠ 5) && decide ((x.path, (lastR last x.path).num + 1) = (e.path, (lastR last e.path).num + 1))) = some e := by
  induction es with
  | nil => cases he
  | cons x es ih =>
    rw [List.map_cons, List.nodup_cons] at hn
    rcases List.mem_cons.1 he with rfl | he
    · rw [List.find?_cons_of_pos (by simp [h5])]
    · have hne : x.path ≠ e.path := fun h => hn.1 (List.mem_map.2 ⟨e, he, h.symm⟩)
      rw [List.find?_cons_of_neg (by simp [hne])]
      exact ih hn.2 he
theorem app_lineOk {d : Dep} {c : Chg} (hl : ∀ p, LogOk d.revs p) (hP : PrevOk d.revs) (hL : LineOk d.revs) (h : appE d c = 0) : LineOk (newRevs d c) := by
  obtain ⟨h1, h2, -, -, -⟩ := appE_zero h
  obtain ⟨p1, p2⟩ := everyE_paths h2
  have hn := paths_nodup p1
  -- what the map holds of a revision that an edit follows
  have hold : ∀ u : Rev, u ∈ d.revs → liveA u.act = true → linesOf d.revs (u.path, u.num) = some (rFirst d.revs u) := fun u hu hl => hL.live u hu (fun h5 => by rw [h5] at hl; cases hl)
  have hkey : ∀ u ∈ d.revs, ∀ x ∈ c.edits, (u.path, u.num) ≠ (x.path, (lastR (lastOf d.revs) x.path).num + 1) := by
    intro u hu x hx e
    injection e with e1 e2
    have := last_bound hl hu
    rw [e1] at this
    omega
  have hlin : ∀ k, linesOf (newRevs d c) k = (match c.edits.find? (fun e => decide (e.act ≠ 5) && decide ((e.path, (lastR (lastOf d.revs) e.path).num + 1) = k)) with
      | some e => some (rFirst (newRevs d c) (madeR (lastOf d.revs) c.num e))
      | none => linesOf d.revs k) := by
    intro k
    have hf : linesOf (newRevs d c) = (c.edits.map (madeR (lastOf d.revs) c.num)).foldl lineM (linesOf d.revs) := by unfold newRevs linesOf; rw [List.foldl_append]
    rw [hf]
    refine lines_news (lastOf d.revs) c.num (fun e => rFirst (newRevs d c) (madeR (lastOf d.revs) c.num e)) c.edits (linesOf d.revs) hn ?_ k
    intro e he h5 g hg
    rcases made_prev hl h he with a1 | ⟨u, u1, u2, u3, u4⟩
    · rw [rFirst_none (by unfold rPrev; rw [if_pos (show (madeR (lastOf d.revs) c.num e).act = 1 from a1)])]
      unfold lineV
      rw [if_pos (show (madeR (lastOf d.revs) c.num e).act = 1 from a1)]
    · have hu := rPrev_mem u1
      have ha1 : e.act ≠ 1 := by
        intro a1
        unfold rPrev at u1
        rw [if_pos (show (madeR (lastOf d.revs) c.num e).act = 1 from a1)] at u1
        cases u1
      have hr : rFirst (newRevs d c) (madeR (lastOf d.revs) c.num e) = rFirst d.revs u := by
        show rFirst (d.revs ++ c.edits.map (madeR (lastOf d.revs) c.num)) (madeR (lastOf d.revs) c.num e) = _
        rw [rFirst_some (rPrev_app (E := c.edits.map (madeR (lastOf d.revs) c.num)) u1) u2]
        exact rFirst_app hP hu
      rw [hr]
      have hgu : g (u.path, u.num) = some (rFirst d.revs u) := by
        rw [hg _ (hkey u hu)]
        exact hold u hu u3
      unfold lineV
      rw [if_neg (show ¬ (madeR (lastOf d.revs) c.num e).act = 1 from ha1)]
      by_cases a4 : e.act = 4
      · rw [if_pos (show (madeR (lastOf d.revs) c.num e).act = 4 from a4)]
        rw [if_pos a4] at u4
        show (g (e.frm, e.fnum)).getD zeroFil = _
        rw [← u4, hgu]; rfl
      · rw [if_neg (show ¬ (madeR (lastOf d.revs) c.num e).act = 4 from a4)]
        rw [if_neg a4] at u4
        show (g (e.path, (lastR (lastOf d.revs) e.path).num + 1 - 1)).getD zeroFil = _
        rw [show (lastR (lastOf d.revs) e.path).num + 1 - 1 = (lastR (lastOf d.revs) e.path).num by omega, ← u4, hgu]; rfl
  refine ⟨fun v hv h5 => ?_, fun f hf => ?_⟩
  · rw [hlin]
    rcases List.mem_append.1 hv with hv | hv
    · have hnf : c.edits.find? (fun e => decide (e.act ≠ 5) && decide ((e.path, (lastR (lastOf d.revs) e.path).num + 1) = (v.path, v.num))) = none := by
        rw [List.find?_eq_none]
        intro x hx hh
        rw [Bool.and_eq_true] at hh
        exact hkey v hv x hx (of_decide_eq_true hh.2).symm
      rw [hnf]
      dsimp only
      rw [hL.live v hv h5]
      exact congrArg some (rFirst_app hP hv).symm
    · obtain ⟨e, he, rfl⟩ := List.mem_map.1 hv
      have := find_edit hn (lastOf d.revs) he h5
      rw [show ((madeR (lastOf d.revs) c.num e).path, (madeR (lastOf d.revs) c.num e).num) = (e.path, (lastR (lastOf d.revs) e.path).num + 1) from rfl, this]
  · rw [hlin]
    have hnf : c.edits.find? (fun e => decide (e.act ≠ 5) && decide ((e.path, (lastR (lastOf d.revs) e.path).num + 1) = f)) = none := by
      rw [List.find?_eq_none]
      intro x hx hh
      rw [Bool.and_eq_true] at hh
      exact hf (madeR (lastOf d.revs) c.num x) (List.mem_append_right _ (List.mem_map_of_mem hx)) (of_decide_eq_true hh.1) (of_decide_eq_true hh.2)
    rw [hnf]
    exact hL.none_ f fun v hv => hf v (List.mem_append_left _ hv)
/-- All that is known of a depot that was played. -/
structure DepOk (d : Dep) : Prop where
  log : ∀ p, LogOk d.revs p
  rec_ : RecOk d
  prev : PrevOk d.revs
  line : LineOk d.revs
theorem depOk_nil : DepOk ⟨[], []⟩ := ⟨fun p => plays_log Plays.nil p, plays_recOk Plays.nil, ⟨fun v hv => (by cases hv), fun v hv => (by cases hv), fun v hv => (by cases hv)⟩, ⟨fun v hv => (by cases hv), fun f _ => rfl⟩⟩
theorem DepOk.step {d : Dep} {c : Chg} {rs : List Rcd} (h : DepOk d) (h0 : appE d c = 0) (h1 : rs.Perm (d.recs ++ c.recs)) (h2 : rs.Pairwise (fun a b => 0 ≤ cmpR b a)) : DepOk ⟨newRevs d c, rs⟩ :=
  ⟨fun p => log_step h0 p (h.log p), app_recOk h.log h.rec_ h0 h1 h2, app_prevOk h.log h.prev h0, app_lineOk h.log h.prev h.line h0⟩
theorem plays_depOk {l : List Chg} {d : Dep} (h : Plays l d) : DepOk d := by
  induction h with
  | nil => exact depOk_nil
  | skip _ _ ih => exact ih
  | step _ h0 h1 h2 ih => exact ih.step h0 h1 h2
end Go.Proofs.YtmhmnchdhacdbaaDoor
/- Plain: the reference's examination of a record answers as the program's. -/
namespace Go.Proofs.YtmhmnchdhacdbaaDoor
open Go.RowKit
set_option linter.unusedVariables false
set_option linter.unusedSimpArgs false

theorem editsOf_has {es : List Edt} (hn : (es.map (·.path)).Nodup) {e : Edt} (he : e ∈ es) : editsOf es e.path = some e := by
  have hfar : ∀ (l : List Edt) (f : ByteArray → Option Edt) (p : ByteArray), p ∉ l.map (·.path) → l.foldl (fun f e => upd f e.path e) f p = f p := by
    intro l
    induction l with
    | nil => intro f p _; rfl
    | cons x l ih =>
      intro f p hp
      rw [List.map_cons, List.mem_cons, not_or] at hp
      rw [List.foldl_cons, ih _ _ hp.2]
      unfold upd; rw [if_neg hp.1]
  have key : ∀ (l : List Edt) (f : ByteArray → Option Edt), (l.map (·.path)).Nodup → e ∈ l → l.foldl (fun f e => upd f e.path e) f e.path = some e := by
    intro l
    induction l with
    | nil => intro f _ h; cases h
    | cons x l ih =>
      intro f hn he
      rw [List.map_cons, List.nodup_cons] at hn
      rw [List.foldl_cons]
      rcases List.mem_cons.1 he with rfl | he
      · rw [hfar _ _ _ hn.1]; unfold upd; rw [if_pos rfl]
      · exact ih _ hn.2 he
  exact key es _ hn he
/-- The edit into which a record leads, by the reference. -/
def tgtM (x : Rcd) (o : Option Edt) (y : Edt) : Option Edt := if y.path = x.to ∧ y.base + 1 = x.num ∧ y.act ≠ 5 then some y else o
def tgt (es : List Edt) (x : Rcd) : Option Edt := es.foldl (tgtM x) none
theorem tgt_mem {es : List Edt} {x : Rcd} {t : Edt} (h : tgt es x = some t) : t ∈ es ∧ t.path = x.to ∧ t.base + 1 = x.num ∧ t.act ≠ 5 := by
  suffices H : ∀ (l : List Edt) (o : Option Edt) (S : Edt → Prop), (∀ y, o = some y → S y ∧ y.path = x.to ∧ y.base + 1 = x.num ∧ y.act ≠ 5) → (∀ y ∈ l, S y) → l.foldl (tgtM x) o = some t → S t ∧ t.path = x.to ∧ t.base + 1 = x.num ∧ t.act ≠ 5 by
    exact H es none (fun y => y ∈ es) (fun y hy => by cases hy) (fun y hy => hy) h
  intro l
  induction l with
  | nil => intro o S ho _ h; exact ho t h
  | cons z l ih =>
    intro o S ho hl h
    refine ih (tgtM x o z) S (fun y hy => ?_) (fun y hy => hl y (List.mem_cons_of_mem _ hy)) h
    unfold tgtM at hy
    split at hy
    · rename_i hc
      injection hy with hy
      subst hy
      exact ⟨hl _ (List.mem_cons_self ..), hc⟩
    · exact ho y hy
theorem tgt_has {es : List Edt} (hn : (es.map (·.path)).Nodup) {x : Rcd} {t : Edt} (ht : t ∈ es) (h1 : t.path = x.to) (h2 : t.base + 1 = x.num) (h3 : t.act ≠ 5) : tgt es x = some t := by
  have hsome : ∀ (l : List Edt) (o : Option Edt), (o.isSome = true ∨ t ∈ l) → (l.foldl (tgtM x) o).isSome = true := by
    intro l
    induction l with
    | nil => intro o h; rcases h with h | h
             · exact h
             · cases h
    | cons z l ih =>
      intro o h
      rw [List.foldl_cons]
      apply ih
      rcases h with h | h
      · left; unfold tgtM; split
        · rfl
        · exact h
      · rcases List.mem_cons.1 h with rfl | h
        · left; unfold tgtM; rw [if_pos ⟨h1, h2, h3⟩]; rfl
        · exact .inr h
  obtain ⟨u, hu⟩ := Option.isSome_iff_exists.1 (hsome es none (.inr ht))
  have hu' : tgt es x = some u := hu
  obtain ⟨a, b, -⟩ := tgt_mem hu'
  have e1 := editsOf_has hn a
  have e2 := editsOf_has hn ht
  rw [b] at e1
  rw [h1, e1] at e2
  injection e2 with e2
  rw [hu', e2]
def ignB (rs : List Rcd) (x : Rcd) : Bool := rs.all fun y => decide (y.to ≠ x.to ∨ y.num ≠ x.num ∨ y.how = 3)
def atR (D : List Rev) (p : ByteArray) (n : Int) : Rev := (rGet D p n).getD zeroRev
def refLine (D : List Rev) (x : Rcd) : Fil := rFirst D (atR D x.frm x.last)
def refSteps (D : List Rev) (x : Rcd) : Bool := (List.range (x.last - x.first + 1).toNat).all fun (i : Nat) => decide ((atR D x.frm (x.first + i)).act ≠ 5) && decide (rFirst D (atR D x.frm (x.first + i)) = refLine D x)
def refCopy (D : List Rev) (t : Edt) (x : Rcd) : Bool := if x.how = 1 then (decide ((atR D x.frm x.last).act = 3) == decide (t.act = 3)) && (decide ((atR D x.frm x.last).act = 3) || (decide ((atR D x.frm x.last).ty = t.ty) && decide ((atR D x.frm x.last).sum = t.sum) && decide ((atR D x.frm x.last).size = t.size))) else true
def refIgn (D : List Rev) (rs : List Rcd) (t : Edt) (x : Rcd) : Bool := if ignB rs x then decide (t.act = 2) && decide (t.ty = (atR D x.to t.base).ty) && decide (t.sum = (atR D x.to t.base).sum) && decide (t.size = (atR D x.to t.base).size) else true
/-- A record's examination by the reference, its place among the others aside. -/
def refRec (D : List Rev) (c : Chg) (x : Rcd) : Bool :=
  decide (1 ≤ x.how ∧ x.how ≤ 4) && match tgt c.edits x with
    | none => false
    | some t => decide (1 ≤ x.first ∧ x.first ≤ x.last ∧ x.last ≤ (logOf D x.frm).length) && refSteps D x && (decide (t.act = 1) || !decide (rFirst D ((rPrev D (madeR (lastOf D) c.num t)).getD zeroRev) = refLine D x)) && refCopy D t x && refIgn D c.recs t x

theorem LineOk.some_ {D : List Rev} (hL : LineOk D) {f l : Fil} (h : linesOf D f = some l) : ∃ v ∈ D, v.act ≠ 5 ∧ (v.path, v.num) = f ∧ l = rFirst D v := by
  apply Classical.byContradiction
  intro hn
  have := hL.none_ f fun v hv h5 e => hn ⟨v, hv, h5, e, by
    have h2 := hL.live v hv h5
    rw [e, h] at h2
    injection h2⟩
  rw [this] at h
  cases h
theorem DepOk.line_at {d : Dep} (h : DepOk d) {p : ByteArray} {n : Int} {l : Fil} (hl : linesOf d.revs (p, n) = some l) : ∃ v, rGet d.revs p n = some v ∧ v.act ≠ 5 ∧ l = rFirst d.revs v := by
  obtain ⟨v, hv, h5, e, hr⟩ := h.line.some_ hl
  injection e with e1 e2
  subst e1 e2
  exact ⟨v, (h.log _).rget hv rfl, h5, hr⟩
theorem DepOk.at_line {d : Dep} (h : DepOk d) {p : ByteArray} {n : Int} {v : Rev} (hv : rGet d.revs p n = some v) (h5 : v.act ≠ 5) : linesOf d.revs (p, n) = some (rFirst d.revs v) := by
  obtain ⟨a, b, c⟩ := rGet_mem hv
  have := h.line.live v a h5
  rwa [b, c] at this
/-- The line that a revision that an edit makes would be of. -/
theorem target_line {d : Dep} {c : Chg} (h : DepOk d) (hs : ∀ r ∈ d.revs, r.chg < c.num) (h2 : everyE (lastOf d.revs) emptyS c.edits = 0) {e : Edt} (he : e ∈ c.edits) (h5 : e.act ≠ 5) {l : Fil} {v : Rev} (hv : v ∈ d.revs) (hl : l = rFirst d.revs v) :
    (l = lineV (linesOf d.revs) (madeR (lastOf d.revs) c.num e)) ↔ (e.act ≠ 1 ∧ rFirst d.revs ((rPrev d.revs (madeR (lastOf d.revs) c.num e)).getD zeroRev) = l) := by
  rcases made_prev2 h.log hs h2 he with a1 | ⟨u, u1, u2, u3, u4⟩
  · unfold lineV
    rw [if_pos (show (madeR (lastOf d.revs) c.num e).act = 1 from a1)]
    constructor
    · intro hh
      exfalso
      obtain ⟨x, hx, e1⟩ := rFirst_in h.prev hv
      rw [hl, e1] at hh
      injection hh with k1 k2
      have := last_bound h.log hx
      rw [k1] at this
      have k2' : x.num = (lastR (lastOf d.revs) e.path).num + 1 := k2
      have k3 : (lastR (lastOf d.revs) (madeR (lastOf d.revs) c.num e).path).num = (lastR (lastOf d.revs) e.path).num := rfl
      omega
    · rintro ⟨hh, -⟩; exact absurd a1 hh
  · have hu := rPrev_mem u1
    have ha1 : e.act ≠ 1 := by
      intro a1
      unfold rPrev at u1
      rw [if_pos (show (madeR (lastOf d.revs) c.num e).act = 1 from a1)] at u1
      cases u1
    rw [u1]
    have hgu : linesOf d.revs (u.path, u.num) = some (rFirst d.revs u) := h.line.live u hu (fun k => by rw [k] at u3; cases u3)
    have hL : lineV (linesOf d.revs) (madeR (lastOf d.revs) c.num e) = rFirst d.revs u := by
      unfold lineV
      rw [if_neg (show ¬ (madeR (lastOf d.revs) c.num e).act = 1 from ha1)]
      by_cases a4 : e.act = 4
      · rw [if_pos (show (madeR (lastOf d.revs) c.num e).act = 4 from a4)]
        rw [if_pos a4] at u4
        show (linesOf d.revs (e.frm, e.fnum)).getD zeroFil = _
        rw [← u4, hgu]; rfl
      · rw [if_neg (show ¬ (madeR (lastOf d.revs) c.num e).act = 4 from a4)]
        rw [if_neg a4] at u4
        show (linesOf d.revs (e.path, (lastR (lastOf d.revs) e.path).num + 1 - 1)).getD zeroFil = _
        rw [show (lastR (lastOf d.revs) e.path).num + 1 - 1 = (lastR (lastOf d.revs) e.path).num by omega, ← u4, hgu]; rfl
    rw [hL]
    exact ⟨fun hh => ⟨ha1, hh.symm⟩, fun hh => hh.2.symm⟩
theorem DepOk.num_in {d : Dep} (h : DepOk d) {p : ByteArray} {n : Int} {v : Rev} (hv : rGet d.revs p n = some v) : 1 ≤ n ∧ n ≤ (logOf d.revs p).length := ((h.log p).rget_in n).1 ⟨v, hv⟩
/-- What sourceR finds, in the reference's words. -/
theorem source_iff {d : Dep} (h : DepOk d) (r : Rcd) (target : Fil) (v : Rev) : sourceR d.revs r target = some v ↔ (rGet d.revs r.frm r.last = some v ∧ 1 ≤ r.first ∧ r.first ≤ r.last ∧ r.last ≤ (logOf d.revs r.frm).length ∧ refSteps d.revs r = true ∧ refLine d.revs r ≠ target) := by
  have hg := (h.log r.frm).rget_eq r.last
  constructor
  · intro hS
    unfold sourceR at hS
    rw [← hg] at hS
    cases hv : rGet d.revs r.frm r.last with
    | none => rw [hv] at hS; cases hS
    | some u =>
      rw [hv] at hS
      simp only at hS
      split at hS
      · cases hS
      · rename_i hb
        cases hl : linesOf d.revs (r.frm, r.last) with
        | none => rw [hl] at hS; cases hS
        | some line =>
          rw [hl] at hS
          simp only at hS
          split at hS
          · cases hS
          · rename_i hne
            split at hS
            · rename_i hall
              injection hS with hS
              subst hS
              obtain ⟨w, w1, w2, w3⟩ := h.line_at hl
              rw [hv] at w1
              injection w1 with w1
              subst w1
              have hline : refLine d.revs r = line := by unfold refLine atR; rw [hv]; exact w3.symm
              have hin := h.num_in hv
              refine ⟨rfl, by omega, by omega, hin.2, ?_, by rw [hline]; exact hne⟩
              unfold refSteps
              rw [List.all_eq_true]
              intro i hi
              rw [List.mem_range] at hi
              rw [hline]
              by_cases hlast : r.first + (i : Int) = r.last
              · rw [hlast]
                unfold atR
                rw [hv]
                simp [w2, w3]
              · have hlt : i < (r.last - r.first).toNat := by omega
                have hx := List.all_eq_true.1 hall i (List.mem_range.2 hlt)
                have hx' : linesOf d.revs (r.frm, r.first + (i : Int)) = some line := of_decide_eq_true hx
                obtain ⟨y, y1, y2, y3⟩ := h.line_at hx'
                unfold atR
                rw [y1]
                simp [y2, y3]
            · cases hS
  · rintro ⟨hv, h1, h2, h3, h4, h5⟩
    have hstep : ∀ i : Nat, i < (r.last - r.first + 1).toNat → linesOf d.revs (r.frm, r.first + (i : Int)) = some (refLine d.revs r) := by
      intro i hi
      unfold refSteps at h4
      have := List.all_eq_true.1 h4 i (List.mem_range.2 hi)
      rw [Bool.and_eq_true, decide_eq_true_eq, decide_eq_true_eq] at this
      obtain ⟨w, hw⟩ := ((h.log r.frm).rget_in (r.first + (i : Int))).2 ⟨by omega, by omega⟩
      unfold atR at this
      rw [hw] at this
      simp only [Option.getD_some] at this
      rw [← this.2]
      exact h.at_line hw this.1
    have hll := hstep (r.last - r.first).toNat (by omega)
    rw [show r.first + ((r.last - r.first).toNat : Int) = r.last by omega] at hll
    have hlen : (logOf d.revs r.frm).length ≤ d.revs.length := List.length_filter_le ..
    unfold sourceR
    rw [← hg, hv]
    simp only
    rw [if_neg (by omega), hll]
    simp only
    rw [if_neg h5, if_pos]
    rw [List.all_eq_true]
    intro i hi
    rw [List.mem_range] at hi
    exact decide_eq_true (hstep i (by omega))
end Go.Proofs.YtmhmnchdhacdbaaDoor
