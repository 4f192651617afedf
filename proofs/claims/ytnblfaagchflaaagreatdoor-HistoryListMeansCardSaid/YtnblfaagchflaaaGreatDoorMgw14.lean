/- Plain: what HistoryMoves counts; what HistoryWhole finds. -/
import Derived.Test.YtnblfaagchflaaaGreatDoorMgw11
import Derived.Test.YtnblfaagchflaaaGreatDoorMgw13
namespace Go.Proofs.YtnblfaagchflaaaGreatDoor
open Go.RowKit
set_option linter.unusedVariables false
set_option linter.unusedSimpArgs false

def mv1 (v w : Rev) : Bool := decide (w.chg = v.chg) && decide (w.act = 4) && decide (v.act = 5) && decide (w.frm = v.path) && decide (w.fnum = v.num - 1)
def mv2 (v w : Rev) : Bool := decide (w.chg = v.chg) && decide (v.act = 4) && decide (w.act = 5) && decide (v.frm = w.path) && decide (v.fnum = w.num - 1)
theorem mv1_iff (v w : Rev) : mv1 v w = true ↔ w.chg = v.chg ∧ w.act = 4 ∧ v.act = 5 ∧ w.frm = v.path ∧ w.fnum = v.num - 1 := by unfold mv1; simp [and_assoc]
theorem mv2_iff (v w : Rev) : mv2 v w = true ↔ w.chg = v.chg ∧ v.act = 4 ∧ w.act = 5 ∧ v.frm = w.path ∧ v.fnum = w.num - 1 := by unfold mv2; simp [and_assoc]
def mvN (revs : List Rev) (v : Rev) : Nat := revs.countP (mv1 v) + revs.countP (mv2 v)
theorem mvN_app (a b : List Rev) (v : Rev) : mvN (a ++ b) v = mvN a v + mvN b v := by unfold mvN; simp only [List.countP_append]; omega
theorem mvN_far {l : List Rev} {v : Rev} (h : ∀ w ∈ l, w.chg ≠ v.chg) : mvN l v = 0 := by
  unfold mvN
  rw [List.countP_eq_zero.2 (fun w hw e => h w hw ((mv1_iff _ _).1 e).1), List.countP_eq_zero.2 (fun w hw e => h w hw ((mv2_iff _ _).1 e).1)]
theorem countP_path {es : List Edt} (hn : (es.map (·.path)).Nodup) {y : Edt} (hy : y ∈ es) (p : Edt → Bool) (hp : p y = true) : es.countP (fun x => p x && decide (x.path = y.path)) = 1 := by
  induction es with
  | nil => cases hy
  | cons a es ih =>
    rw [List.map_cons, List.nodup_cons] at hn
    rw [List.countP_cons]
    rcases List.mem_cons.1 hy with rfl | hy
    · have : es.countP (fun x => p x && decide (x.path = y.path)) = 0 := by
        rw [List.countP_eq_zero]
        intro x hx hh
        rw [Bool.and_eq_true] at hh
        exact hn.1 (List.mem_map.2 ⟨x, hx, of_decide_eq_true hh.2⟩)
      rw [this]; simp [hp]
    · have hne : a.path ≠ y.path := fun e => hn.1 (List.mem_map.2 ⟨y, hy, e.symm⟩)
      rw [ih hn.2 hy]; simp [hne]
theorem movesE_zero {es : List Edt} (h : movesE es = 0) : ∀ e ∈ es, moveOk es (editsOf es) e = true := by
  unfold movesE at h
  split at h
  · rename_i h1; exact fun e he => List.all_eq_true.1 h1 e he
  · cases h
theorem mv_new {d : Dep} {c : Chg} (h : appE d c = 0) {e : Edt} (he : e ∈ c.edits) :
    mvN (c.edits.map (madeR (lastOf d.revs) c.num)) (madeR (lastOf d.revs) c.num e) = if e.act = 4 ∨ e.act = 5 then 1 else 0 := by
  obtain ⟨h1, h2, h3, -, -⟩ := appE_zero h
  obtain ⟨p1, p2⟩ := everyE_paths h2
  have hm := movesE_zero h3 e he
  have hfr : ∀ x ∈ c.edits, x.act = 4 → x.fnum = (lastR (lastOf d.revs) x.frm).num := by
    intro x hx ha
    have := (oneE_zero (p2 x hx).2.2).2.2.1
    unfold fromE at this
    rw [if_pos ha] at this
    simp at this
    exact this.2
  unfold mvN
  rw [List.countP_map, List.countP_map]
  by_cases h5 : e.act = 5
  · have e1 : c.edits.countP (mv1 (madeR (lastOf d.revs) c.num e) ∘ madeR (lastOf d.revs) c.num) = arrivals c.edits e.path := by
      unfold arrivals
      refine List.countP_congr fun x hx => ?_
      rw [Function.comp_apply, mv1_iff, Bool.and_eq_true, decide_eq_true_eq, decide_eq_true_eq]
      constructor
      · rintro ⟨-, a, -, b, -⟩; exact ⟨a, b⟩
      · rintro ⟨a, b⟩
        refine ⟨rfl, a, h5, b, ?_⟩
        show x.fnum = (lastR (lastOf d.revs) e.path).num + 1 - 1
        rw [hfr x hx a, b]; omega
    have e2 : c.edits.countP (mv2 (madeR (lastOf d.revs) c.num e) ∘ madeR (lastOf d.revs) c.num) = 0 := by
      refine List.countP_eq_zero.2 fun x hx hh => ?_
      have h4 : e.act = 4 := ((mv2_iff _ _).1 hh).2.1
      omega
    rw [e1, e2]
    unfold moveOk at hm
    rw [if_pos h5] at hm
    simp at hm
    rw [hm, if_pos (.inr h5)]
  · have e1 : c.edits.countP (mv1 (madeR (lastOf d.revs) c.num e) ∘ madeR (lastOf d.revs) c.num) = 0 := by
      refine List.countP_eq_zero.2 fun x hx hh => ?_
      have h4 : e.act = 5 := ((mv1_iff _ _).1 hh).2.2.1
      omega
    by_cases h4 : e.act = 4
    · unfold moveOk at hm
      rw [if_neg h5, if_pos h4] at hm
      simp at hm
      cases hy : editsOf c.edits e.frm with
      | none => rw [hy] at hm; simp [zeroEdt] at hm
      | some y =>
        rw [hy] at hm
        simp at hm
        obtain ⟨y1, y2⟩ := editsOf_mem _ _ _ hy
        have e2 : c.edits.countP (mv2 (madeR (lastOf d.revs) c.num e) ∘ madeR (lastOf d.revs) c.num) = c.edits.countP (fun x => decide (x.act = 5) && decide (x.path = y.path)) := by
          refine List.countP_congr fun x hx => ?_
          rw [Function.comp_apply, mv2_iff, Bool.and_eq_true, decide_eq_true_eq, decide_eq_true_eq]
          constructor
          · rintro ⟨-, -, a, b, -⟩; exact ⟨a, y2 ▸ b.symm⟩
          · rintro ⟨a, b⟩
            refine ⟨rfl, h4, a, ?_, ?_⟩
            · show e.frm = x.path
              rw [b, y2]
            · show e.fnum = (lastR (lastOf d.revs) x.path).num + 1 - 1
              rw [hfr e he h4, b, y2]; omega
        rw [e1, e2, countP_path (paths_nodup p1) y1 (fun x => decide (x.act = 5)) (by simpa using hm), if_pos (.inl h4)]
    · have e2 : c.edits.countP (mv2 (madeR (lastOf d.revs) c.num e) ∘ madeR (lastOf d.revs) c.num) = 0 := by
        refine List.countP_eq_zero.2 fun x hx hh => ?_
        have : e.act = 4 := ((mv2_iff _ _).1 hh).2.1
        omega
      rw [e1, e2, if_neg (by omega)]
theorem mv_step {d : Dep} {c : Chg} (h : appE d c = 0) (hd : ∀ v ∈ d.revs, mvN d.revs v = if v.act = 4 ∨ v.act = 5 then 1 else 0) : ∀ v ∈ newRevs d c, mvN (newRevs d c) v = if v.act = 4 ∨ v.act = 5 then 1 else 0 := by
  have hs := (sizeE_zero (appE_zero h).1).2.2.2.2.2
  intro v hv
  unfold newRevs at hv ⊢
  rw [mvN_app]
  rcases List.mem_append.1 hv with hv | hv
  · rw [hd v hv, mvN_far (fun w hw => ?_)]
    · omega
    · obtain ⟨x, hx, rfl⟩ := List.mem_map.1 hw
      have := hs v hv
      simp only [madeR]; omega
  · obtain ⟨e, he, rfl⟩ := List.mem_map.1 hv
    rw [mv_new h he, mvN_far (fun w hw => ?_)]
    · rw [Nat.zero_add]; rfl
    · have := hs w hw
      simp only [madeR]; omega
theorem plays_moves {l : List Chg} {d : Dep} (h : Plays l d) : ∀ v ∈ d.revs, mvN d.revs v = if v.act = 4 ∨ v.act = 5 then 1 else 0 := by
  induction h with
  | nil => intro v hv; cases hv
  | skip _ _ ih => exact ih
  | step _ h0 _ _ ih => exact mv_step h0 ih

theorem lastM_at (f : ByteArray → Option Rev) (r : Rev) (q : ByteArray) : lastM f r q = if r.path = q then (match f q with
    | none => some r
    | some b => if b.num < r.num then some r else some b) else f q := by
  by_cases h : r.path = q
  · subst h
    rw [if_pos rfl]
    unfold lastM
    cases hf : f r.path with
    | none => simp [upd]
    | some b => by_cases hb : b.num < r.num <;> simp [hb, upd, hf]
  · rw [if_neg h]; exact lastM_other f r (fun e => h e.symm)
theorem greatest_lastOf {revs : List Rev} (q : ByteArray) (p : Rev → Bool) (hp : ∀ r ∈ revs, p r = true) : greatest revs q p = lastOf revs q := by
  suffices H : ∀ (l : List Rev) (o : Option Rev) (f : ByteArray → Option Rev), (∀ r ∈ l, p r = true) → o = f q → l.foldl (fun o r => if r.path = q ∧ p r = true then (match o with
    | none => some r
    | some b => if b.num < r.num then some r else some b) else o) o = l.foldl lastM f q by
    exact H revs none (fun _ => none) hp rfl
  intro l
  induction l with
  | nil => intro o f _ h; exact h
  | cons x l ih =>
    intro o f hp h
    rw [List.foldl_cons, List.foldl_cons]
    refine ih _ _ (fun r hr => hp r (List.mem_cons_of_mem _ hr)) ?_
    rw [lastM_at, hp x (List.mem_cons_self ..), h]
    by_cases hx : x.path = q
    · simp [hx]
    · simp [hx]
theorem greatest_app {a b : List Rev} (q : ByteArray) (p : Rev → Bool) (hb : ∀ r ∈ b, p r = false) : greatest (a ++ b) q p = greatest a q p := by
  unfold greatest
  rw [List.foldl_append]
  generalize a.foldl _ none = o
  induction b generalizing o with
  | nil => rfl
  | cons x b ih =>
    rw [List.foldl_cons, if_neg (by rw [hb x (List.mem_cons_self ..)]; simp)]
    exact ih (fun r hr => hb r (List.mem_cons_of_mem _ hr)) o
theorem whole_at {d : Dep} {c : Chg} (h : appE d c = 0) {e : Edt} (he : e ∈ c.edits) : greatest (newRevs d c) e.path (fun v : Rev => decide (v.chg ≤ c.num)) = some (madeR (lastOf d.revs) c.num e) ∧ (lastR (lastOf d.revs) e.path).num = e.base := by
  obtain ⟨h1, h2, -, -, -⟩ := appE_zero h
  obtain ⟨p1, p2⟩ := everyE_paths h2
  have hs := (sizeE_zero h1).2.2.2.2.2
  refine ⟨?_, (oneE_zero (p2 e he).2.2).2.1.symm⟩
  rw [greatest_lastOf _ _ (fun r hr => ?_)]
  · unfold newRevs
    rw [lastOf_app]
    exact lasts_made _ _ _ (paths_nodup p1) e he
  · unfold newRevs at hr
    rcases List.mem_append.1 hr with hr | hr
    · have := hs r hr; simp; omega
    · obtain ⟨x, -, rfl⟩ := List.mem_map.1 hr
      simp [madeR]
theorem whole_old {d : Dep} {c : Chg} (q : ByteArray) {m : Int} (hm : m < c.num) : greatest (newRevs d c) q (fun v : Rev => decide (v.chg ≤ m)) = greatest d.revs q (fun v : Rev => decide (v.chg ≤ m)) := by
  unfold newRevs
  refine greatest_app _ _ fun r hr => ?_
  obtain ⟨x, -, rfl⟩ := List.mem_map.1 hr
  exact decide_eq_false (show ¬ c.num ≤ m by omega)
end Go.Proofs.YtnblfaagchflaaaGreatDoor
/- Region 24 of history.Valid: one more edit of the change that is made anew. -/
namespace Go.Proofs.YtnblfaagchflaaaGreatDoor
open Go.RowKit
set_option linter.unusedVariables false
set_option linter.unusedSimpArgs false

theorem edtElem : ElemOk Tryz.prog 51 55 12 96 := elemOk_of Tryz.underlying51 (z := zeroEdt.val) (by kernel_rfl) rfl (by decide)
/-- The change that Valid makes anew, in block gC, its edits a row of its own. -/
structure VE (V wx : World) (gC : Nat) (num : Int) (v1 : Value) (n : Nat) (xs : List Value) : Prop where
  bel : Below V.heap.size V wx
  le : V.heap.size ≤ gC
  box : Blk wx gC 53 [.int .i64 num, .string ⟨#[]⟩, .string ⟨#[]⟩, v1, .slice none 0 0]
  one : wx.ownsRow V.heap.size 55 12 v1 n xs
  ne1 : v1.ownBlock ≠ some gC
theorem VE.under {V wr X : World} {gC : Nat} {num : Int} {v1 : Value} {n : Nat} {xs : List Value} (h : VE V wr gC num v1 n xs) (hX : Below wr.heap.size wr X) : VE V X gC num v1 n xs :=
  ⟨below_next h.bel hX, h.le, h.box.below hX h.box.lt, own_below h.one hX, h.ne1⟩
theorem VE.push {V wr X w5 : World} {gC : Nat} {num : Int} {v1 v3 : Value} {n n' : Nat} {xs xs' : List Value} (h : VE V wr gC num v1 n xs) (hX : Below wr.heap.size wr X) (ho : w5.ownsRow V.heap.size 55 12 v3 n' xs') (hg : X.grownBy w5 v1.ownBlock) (hw : v3.ownBlock = v1.ownBlock ∨ v3.ownBlock = some X.heap.size) :
    VE V (w5.setCell ⟨gC, 3, none⟩ v3) gC num v3 n' xs' := by
  have l1 := h.one.lt
  have lb := h.box.lt
  have hs := hX.size
  have n3 : v3.ownBlock ≠ some gC := fun e => by
    rcases hw with hw | hw
    · exact h.ne1 (hw ▸ e)
    · rw [hw] at e; injection e with e; omega
  have b5 : Below V.heap.size V w5 := (below_next h.bel hX).grown hg (by have := h.bel.size; omega) (fun k e => (l1 k e).1)
  exact ⟨b5.setCell (p := ⟨gC, 3, none⟩) h.le _, h.le, ((h.box.below hX lb).grown hg (fun e => h.ne1 e.symm)).set_ 3 v3, own_setCell ho (p := ⟨gC, 3, none⟩) n3 _, n3⟩
theorem box5f {w : World} {g : Nat} {e : TypeId} {a b c d x : Value} (h : Blk w g e [a, b, c, d, x]) : w.cell? ⟨g, 3, none⟩ = some d ∧ w.frozen? ⟨g, 3, none⟩ = false := ⟨h.cell 3, h.frozen 3⟩

set_option maxRecDepth 100000 in
set_option maxHeartbeats 8000000 in
theorem region24 (ops : Array Oper) (hops : Tryz.f17.body.bind (regAt 24) = some ops) (Q : Exit → Act → World → Prop) (gD gC n k : Nat) (num : Int) (x : Edt) (v1 dv dr : Value) (xs : List Value) (V V1 : World)
    (hR : VE V V1 gC num v1 n xs) (hB : Blk V1 gD 31 [dv, dr]) (hsl : (∃ A m c, dv = .slice A m c) ∧ ∃ A m c, dr = .slice A m c) (hn : n ≤ 100000)
    (hrev : ∀ X, Below V1.heap.size V1 X → Calls Tryz.prog 45 #[.agg #[dv, dr], .int .i64 k] X fun e w' => e = .returned (.agg #[.string x.path, .int .i64 x.act, .int .i64 x.ty.base, .bool x.ty.k, .bool x.ty.l, .bool x.ty.x, .int .u64 x.sum, .int .i64 x.size, .int .i64 x.base, .string x.frm, .int .i64 x.fnum, .int .i64 x.fence]) ∧ Below X.heap.size X w')
    (u0 u2 u3 u4 u5 u6 u7 u8 u9 u10 u11 u14 u15 u16 u17 u18 u19 u20 u21 u22 u23 u24 u25 u26 u27 u28 u29 u30 u31 u32 u33 u34 u35 u36 u37 u38 u39 u40 u41 u42 u43 u44 u45 u46 u47 u48 u49 u50 u51 u52 u53 u54 u55 u56 u57 u58 u59 u60 u61 u62 u63 u64 u65 u66 u67 u68 u69 u70 u71 u72 u73 u74 u75 u76 u77 u78 u79 u80 u81 u82 u83 u84 u85 u86 u87 u88 u89 u90 u91 u92 u93 u94 u95 u96 u97 u98 u99 u100 u101 u102 u103 u104 u105 u106 u107 u108 u109 u110 u111 u112 u113 u114 u115 u116 u117 u118 u119 u120 u121 u122 u123 u124 u125 u126 u127 u128 u129 u130 u131 u132 u133 u134 u135 : Value)
    (hQ : ∀ (t102 t103 t104 t105 t106 t107 t108 t109 : Value) (v3 : Value) (w' : World), Hid (VE V w' gC num v3 (n + 1) (xs ++ [.string x.path, .int .i64 x.act, .int .i64 x.ty.base, .bool x.ty.k, .bool x.ty.l, .bool x.ty.x, .int .u64 x.sum, .int .i64 x.size, .int .i64 x.base, .string x.frm, .int .i64 x.fnum, .int .i64 x.fence])) → Q .normal ⟨#[u0, .pointer (some ⟨gD, 0, none⟩), u2, u3, u4, u5, u6, u7, u8, u9, u10, u11, .int .i64 k, .pointer (some ⟨gC, 0, none⟩), u14, u15, u16, u17, u18, u19, u20, u21, u22, u23, u24, u25, u26, u27, u28, u29, u30, u31, u32, u33, u34, u35, u36, u37, u38, u39, u40, u41, u42, u43, u44, u45, u46, u47, u48, u49, u50, u51, u52, u53, u54, u55, u56, u57, u58, u59, u60, u61, u62, u63, u64, u65, u66, u67, u68, u69, u70, u71, u72, u73, u74, u75, u76, u77, u78, u79, u80, u81, u82, u83, u84, u85, u86, u87, u88, u89, u90, u91, u92, u93, u94, u95, u96, u97, u98, u99, u100, u101, t102, t103, t104, t105, t106, t107, t108, t109, u110, u111, u112, u113, u114, u115, u116, u117, u118, u119, u120, u121, u122, u123, u124, u125, u126, u127, u128, u129, u130, u131, u132, u133, u134, u135], []⟩ w') :
    (Code.region 24 ops true).wp Tryz.prog Q ⟨#[u0, .pointer (some ⟨gD, 0, none⟩), u2, u3, u4, u5, u6, u7, u8, u9, u10, u11, .int .i64 k, .pointer (some ⟨gC, 0, none⟩), u14, u15, u16, u17, u18, u19, u20, u21, u22, u23, u24, u25, u26, u27, u28, u29, u30, u31, u32, u33, u34, u35, u36, u37, u38, u39, u40, u41, u42, u43, u44, u45, u46, u47, u48, u49, u50, u51, u52, u53, u54, u55, u56, u57, u58, u59, u60, u61, u62, u63, u64, u65, u66, u67, u68, u69, u70, u71, u72, u73, u74, u75, u76, u77, u78, u79, u80, u81, u82, u83, u84, u85, u86, u87, u88, u89, u90, u91, u92, u93, u94, u95, u96, u97, u98, u99, u100, u101, u102, u103, u104, u105, u106, u107, u108, u109, u110, u111, u112, u113, u114, u115, u116, u117, u118, u119, u120, u121, u122, u123, u124, u125, u126, u127, u128, u129, u130, u131, u132, u133, u134, u135], []⟩ V1 := by
  obtain ⟨⟨Av, mv, cv, rfl⟩, Ar, mr, cr, rfl⟩ := hsl
  simp only [Tryz.f17, Option.bind_some, regAt] at hops
  simp at hops
  subst hops
  obtain ⟨A1, c1, hv1⟩ := own_slice hR.one
  subst hv1
  have HQ := Lib.hid hQ
  have HR := Lib.hid hR
  have HB := Lib.hid hB
  have HRV2 := Lib.hid hrev
  clear hQ hR hB hrev
  have hf : ∀ w', Below V1.heap.size V1 w' → w'.cell? ⟨gC, 3, none⟩ = some (.slice A1 n c1) ∧ w'.cell? ⟨gD, 0, none⟩ = some (.slice Av mv cv) ∧ w'.cell? ⟨gD, 1, none⟩ = some (.slice Ar mr cr) := fun w' hb => ⟨(HR.out.box.below hb HR.out.box.lt).cell 3, (HB.out.below hb HB.out.lt).cell 0, (HB.out.below hb HB.out.lt).cell 1⟩
  have HF := Lib.hid hf
  clear hf
  obtain ⟨f0, f1, f2⟩ := HF.out V1 (Below.refl _ _)
  refine wp_region_noPanic ?_
  go_region_law (first
    | (refine step_app rfl rfl edtElem (own_below (own_below HR.out.one hS5) ((Below.refl _ _).alloc (Nat.le_refl _) _)) (by simp [Act.eval, Act.put]) (row_new w5 [.string x.path, .int .i64 x.act, .int .i64 x.ty.base, .bool x.ty.k, .bool x.ty.l, .bool x.ty.x, .int .u64 x.sum, .int .i64 x.size, .int .i64 x.base, .string x.frm, .int .i64 x.fnum, .int .i64 x.fence] _ 12 1 rfl (by decide) _ rfl) (by simp [Act.eval, Act.put]) (by simp [Value.oneCell']) (by omega) (by unfold maxLen; omega) (by have := hS5.size; have := HR.out.bel.size; simp; omega) ?_; intro A6 c6' w6 hO6 hG6 hw6; have hbx := (HR.out.box.below (below_next hS5 ((Below.refl _ _).alloc (Nat.le_refl _) _)) HR.out.box.lt).grown hG6 (fun e => HR.out.ne1 e.symm); obtain ⟨b0, g0⟩ := box5f hbx)
    | (go_simp; go_at_call 45; refine (HRV2.out _ (Below.refl _ _).drew).mono ?_; rintro e w5 ⟨rfl, hX5⟩; have hS5 : Below V1.heap.size V1 w5 := (Below.refl _ _).drew.trans hX5; obtain ⟨f5, f6, f7⟩ := HF.out w5 hS5; obtain ⟨f8, f9, f10⟩ := HF.out (w5.alloc (.cells #[.string x.path, .int .i64 x.act, .int .i64 x.ty.base, .bool x.ty.k, .bool x.ty.l, .bool x.ty.x, .int .u64 x.sum, .int .i64 x.size, .int .i64 x.base, .string x.frm, .int .i64 x.fnum, .int .i64 x.fence] 55)) (hS5.alloc hS5.size _)))
  all_goals exact NoPanic.normal (HQ.out _ _ _ _ _ _ _ _ _ _ (HR.out.push (below_next hS5 ((Below.refl _ _).alloc (Nat.le_refl _) _)) hO6 hG6 hw6))
end Go.Proofs.YtnblfaagchflaaaGreatDoor
