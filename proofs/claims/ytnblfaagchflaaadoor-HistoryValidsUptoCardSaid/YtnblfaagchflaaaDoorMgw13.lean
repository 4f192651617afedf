/- A list of changes in memory whose edits and records are rows of their own: what the reference's Changes makes. -/
import Derived.Test.YtnblfaagchflaaaDoorMgw12
import Derived.Test.YtnblfaagchflaaaDoorMgw11
namespace Go.Proofs.YtnblfaagchflaaaDoor
open Go.RowKit
set_option linter.unusedVariables false
set_option linter.unusedSimpArgs false

theorem own_put {w : World} {base : Nat} {e : TypeId} {size n c g j : Nat} {xs : List Value} (h : w.ownsRow base e size (.slice (some ⟨g, 0, none⟩) n c) n xs) (u : Value) : (w.setCell ⟨g, j, none⟩ u).ownsRow base e size (.slice (some ⟨g, 0, none⟩) n c) n (xs.set j u) := by
  obtain ⟨h1, h2 | ⟨g', cap, cur, e1, h3, h4, h5, h6, h7, h8⟩⟩ := h
  · cases h2.1
  · injection e1 with e1 _ e3
    injection e1 with e1
    injection e1 with e1
    subst e1 e3
    refine ⟨by rw [List.length_set]; exact h1, .inr ⟨g, c, cur.setIfInBounds j u, rfl, h3, ?_, h5, h6, by simp [h7], ?_⟩⟩
    · simp [World.setCell, Array.getElem?_modify, h4]
    · rw [Array.toList_setIfInBounds, List.take_set, h8]
/-- The changes Q and one more, p, the rows of p still growing. -/
structure ChO (w : World) (base : Nat) (v : Value) (Q : List ChV) (p : ChV) : Prop where
  own : w.ownsRow base 42 5 v (Q.length + 1) ((Q ++ [p]).flatMap ChV.cells)
  rows : ∀ q ∈ Q ++ [p], w.ownsRow base 39 12 q.2.1 q.1.edits.length (q.1.edits.flatMap Edt.cells) ∧ w.ownsRow base 50 6 q.2.2 q.1.recs.length (q.1.recs.flatMap Rcd.cells)
  apv : ∀ q ∈ Q ++ [p], ∀ x, v.ownBlock = some x → q.2.1.ownBlock ≠ some x ∧ q.2.2.ownBlock ≠ some x
  ape : ∀ q ∈ Q, ∀ x, p.2.1.ownBlock = some x → q.2.1.ownBlock ≠ some x ∧ q.2.2.ownBlock ≠ some x
  apr : ∀ q ∈ Q, ∀ x, p.2.2.ownBlock = some x → q.2.1.ownBlock ≠ some x ∧ q.2.2.ownBlock ≠ some x
  aper : ∀ x, p.2.1.ownBlock = some x → p.2.2.ownBlock ≠ some x
theorem ChO.below {w X : World} {base : Nat} {v : Value} {Q : List ChV} {p : ChV} (h : ChO w base v Q p) (hX : Below w.heap.size w X) : ChO X base v Q p :=
  ⟨own_below h.own hX, fun q hq => ⟨own_below (h.rows q hq).1 hX, own_below (h.rows q hq).2 hX⟩, h.apv, h.ape, h.apr, h.aper⟩
theorem cells_set {Q : List ChV} {c : Chg} {ev rv u : Value} : (((Q ++ [(c, ev, rv)]).flatMap ChV.cells).set (Q.length * 5 + 3) u = (Q ++ [(c, u, rv)]).flatMap ChV.cells) ∧ (((Q ++ [(c, ev, rv)]).flatMap ChV.cells).set (Q.length * 5 + 4) u = (Q ++ [(c, ev, u)]).flatMap ChV.cells) := by
  have hl : (Q.flatMap ChV.cells).length = Q.length * 5 := by
    induction Q with
    | nil => rfl
    | cons q Q ih => rw [List.flatMap_cons, List.length_append, ih, List.length_cons]; simp only [ChV.cells, List.length_cons, List.length_nil]; omega
  rw [List.flatMap_append, List.flatMap_append, List.flatMap_append]
  constructor
  · rw [List.set_append_right _ _ (by omega), hl, Nat.add_sub_cancel_left]; rfl
  · rw [List.set_append_right _ _ (by omega), hl, Nat.add_sub_cancel_left]; rfl
/-- One more edit of the last change. -/
theorem ChO.edit {w X w5 : World} {base g c : Nat} {Q : List ChV} {ch : Chg} {ev rv ev' : Value} {x : Edt} (h : ChO w base (.slice (some ⟨g, 0, none⟩) (Q.length + 1) c) Q (ch, ev, rv)) (hX : Below w.heap.size w X)
    (ho : w5.ownsRow base 39 12 ev' (ch.edits.length + 1) (ch.edits.flatMap Edt.cells ++ x.cells)) (hg : X.grownBy w5 ev.ownBlock) (hw : ev'.ownBlock = ev.ownBlock ∨ ev'.ownBlock = some X.heap.size) :
    ChO (w5.setCell ⟨g, Q.length * 5 + 3, none⟩ ev') base (.slice (some ⟨g, 0, none⟩) (Q.length + 1) c) Q ({ ch with edits := ch.edits ++ [x] }, ev', rv) := by
  have hX' := h.below hX
  have hlast : (ch, ev, rv) ∈ Q ++ [(ch, ev, rv)] := List.mem_append_right _ (List.mem_cons_self ..)
  have lv := hX'.own.lt g rfl
  have hv := hX'.apv _ hlast g rfl
  have hin : ∀ q ∈ Q, q ∈ Q ++ [(ch, ev, rv)] := fun q hq => List.mem_append_left _ hq
  have nv : ev'.ownBlock ≠ some g := by
    rcases hw with hw | hw
    · rw [hw]; exact hv.1
    · rw [hw]; intro e; injection e with e; omega
  have f1 : ∀ y, ev'.ownBlock = some y → ∀ q ∈ Q, q.2.1.ownBlock ≠ some y ∧ q.2.2.ownBlock ≠ some y := by
    intro y hy q hq
    rcases hw with hw | hw
    · exact hX'.ape q hq y (hw ▸ hy)
    · rw [hw] at hy; injection hy with hy
      have r := hX'.rows q (hin q hq)
      exact ⟨fun e => by have := (r.1.lt y e).2; omega, fun e => by have := (r.2.lt y e).2; omega⟩
  have f2 : ∀ y, ev'.ownBlock = some y → rv.ownBlock ≠ some y := by
    intro y hy
    rcases hw with hw | hw
    · exact hX'.aper y (hw ▸ hy)
    · rw [hw] at hy; injection hy with hy
      have r := (hX'.rows _ hlast).2
      exact fun e => by have := (r.lt y e).2; omega
  refine ⟨?_, ?_, ?_, fun q hq y hy => f1 y hy q hq, h.apr, f2⟩
  · have := own_put (j := Q.length * 5 + 3) (own_grown hX'.own hg (fun y e e2 => by injection e with e; subst e; exact hv.1 e2)) ev'
    rw [cells_set.1] at this
    rw [List.flatMap_append] at this ⊢
    exact this
  · intro q hq
    rcases List.mem_append.1 hq with hq | hq
    · have r := hX'.rows q (hin q hq)
      have a := hX'.apv q (hin q hq) g rfl
      refine ⟨own_setCell (own_grown r.1 hg fun y e e2 => (hX'.ape q hq y e2).1 e) (p := ⟨g, _, none⟩) a.1 _, own_setCell (own_grown r.2 hg fun y e e2 => (hX'.ape q hq y e2).2 e) (p := ⟨g, _, none⟩) a.2 _⟩
    · rw [List.mem_singleton] at hq
      subst hq
      have r := (hX'.rows _ hlast).2
      refine ⟨?_, own_setCell (own_grown r hg fun y e e2 => hX'.aper y e2 e) (p := ⟨g, _, none⟩) hv.2 _⟩
      have := own_setCell ho (p := ⟨g, Q.length * 5 + 3, none⟩) nv ev'
      rw [List.length_append, List.flatMap_append, List.flatMap_cons, List.flatMap_nil, List.append_nil]
      exact this
  · intro q hq y hy
    injection hy with hy
    subst hy
    rcases List.mem_append.1 hq with hq | hq
    · exact h.apv q (hin q hq) g rfl
    · rw [List.mem_singleton] at hq
      subst hq
      exact ⟨nv, hv.2⟩
/-- One more record of the last change. -/
theorem ChO.record {w X w5 : World} {base g c : Nat} {Q : List ChV} {ch : Chg} {ev rv rv' : Value} {x : Rcd} (h : ChO w base (.slice (some ⟨g, 0, none⟩) (Q.length + 1) c) Q (ch, ev, rv)) (hX : Below w.heap.size w X)
    (ho : w5.ownsRow base 50 6 rv' (ch.recs.length + 1) (ch.recs.flatMap Rcd.cells ++ x.cells)) (hg : X.grownBy w5 rv.ownBlock) (hw : rv'.ownBlock = rv.ownBlock ∨ rv'.ownBlock = some X.heap.size) :
    ChO (w5.setCell ⟨g, Q.length * 5 + 4, none⟩ rv') base (.slice (some ⟨g, 0, none⟩) (Q.length + 1) c) Q ({ ch with recs := ch.recs ++ [x] }, ev, rv') := by
  have hX' := h.below hX
  have hlast : (ch, ev, rv) ∈ Q ++ [(ch, ev, rv)] := List.mem_append_right _ (List.mem_cons_self ..)
  have lv := hX'.own.lt g rfl
  have hv := hX'.apv _ hlast g rfl
  have hin : ∀ q ∈ Q, q ∈ Q ++ [(ch, ev, rv)] := fun q hq => List.mem_append_left _ hq
  have nv : rv'.ownBlock ≠ some g := by
    rcases hw with hw | hw
    · rw [hw]; exact hv.2
    · rw [hw]; intro e; injection e with e; omega
  have f1 : ∀ y, rv'.ownBlock = some y → ∀ q ∈ Q, q.2.1.ownBlock ≠ some y ∧ q.2.2.ownBlock ≠ some y := by
    intro y hy q hq
    rcases hw with hw | hw
    · exact hX'.apr q hq y (hw ▸ hy)
    · rw [hw] at hy; injection hy with hy
      have r := hX'.rows q (hin q hq)
      exact ⟨fun e => by have := (r.1.lt y e).2; omega, fun e => by have := (r.2.lt y e).2; omega⟩
  have f2 : ∀ y, ev.ownBlock = some y → rv'.ownBlock ≠ some y := by
    intro y hy
    rcases hw with hw | hw
    · rw [hw]; exact hX'.aper y hy
    · rw [hw]; intro e; injection e with e
      have r := (hX'.rows _ hlast).1
      have := (r.lt y hy).2; omega
  refine ⟨?_, ?_, ?_, h.ape, fun q hq y hy => f1 y hy q hq, f2⟩
  · have := own_put (j := Q.length * 5 + 4) (own_grown hX'.own hg (fun y e e2 => by injection e with e; subst e; exact hv.2 e2)) rv'
    rw [cells_set.2] at this
    rw [List.flatMap_append] at this ⊢
    exact this
  · intro q hq
    rcases List.mem_append.1 hq with hq | hq
    · have r := hX'.rows q (hin q hq)
      have a := hX'.apv q (hin q hq) g rfl
      refine ⟨own_setCell (own_grown r.1 hg fun y e e2 => (hX'.apr q hq y e2).1 e) (p := ⟨g, _, none⟩) a.1 _, own_setCell (own_grown r.2 hg fun y e e2 => (hX'.apr q hq y e2).2 e) (p := ⟨g, _, none⟩) a.2 _⟩
    · rw [List.mem_singleton] at hq
      subst hq
      have r := (hX'.rows _ hlast).1
      refine ⟨own_setCell (own_grown r hg fun y e e2 => hX'.aper y e e2) (p := ⟨g, _, none⟩) hv.1 _, ?_⟩
      have := own_setCell ho (p := ⟨g, Q.length * 5 + 4, none⟩) nv rv'
      rw [List.length_append, List.flatMap_append, List.flatMap_cons, List.flatMap_nil, List.append_nil]
      exact this
  · intro q hq y hy
    injection hy with hy
    subst hy
    rcases List.mem_append.1 hq with hq | hq
    · exact h.apv q (hin q hq) g rfl
    · rw [List.mem_singleton] at hq
      subst hq
      exact ⟨hv.1, nv⟩
/-- One more change, its rows empty. -/
theorem ChO.next {w X w5 : World} {base : Nat} {v v' : Value} {Q : List ChV} {p : ChV} {ch : Chg} (h : ChO w base v Q p) (hX : Below w.heap.size w X) (hc : ch.edits = [] ∧ ch.recs = [])
    (ho : w5.ownsRow base 42 5 v' (Q.length + 1 + 1) ((Q ++ [p]).flatMap ChV.cells ++ ChV.cells (ch, .slice none 0 0, .slice none 0 0))) (hg : X.grownBy w5 v.ownBlock) (hw : v'.ownBlock = v.ownBlock ∨ v'.ownBlock = some X.heap.size) :
    ChO w5 base v' (Q ++ [p]) (ch, .slice none 0 0, .slice none 0 0) := by
  have hX' := h.below hX
  refine ⟨?_, ?_, ?_, fun q hq y hy => (by cases hy), fun q hq y hy => (by cases hy), fun y hy => (by cases hy)⟩
  · rw [List.length_append, List.length_singleton, List.flatMap_append, List.flatMap_cons, List.flatMap_nil, List.append_nil]
    exact ho
  · intro q hq
    rcases List.mem_append.1 hq with hq | hq
    · have r := hX'.rows q hq
      exact ⟨own_grown r.1 hg fun y e e2 => (hX'.apv q hq y e2).1 e, own_grown r.2 hg fun y e e2 => (hX'.apv q hq y e2).2 e⟩
    · rw [List.mem_singleton] at hq
      subst hq
      dsimp only
      rw [hc.1, hc.2]
      exact ⟨World.ownsRow_nil _ _ _ _, World.ownsRow_nil _ _ _ _⟩
  · intro q hq y hy
    rcases List.mem_append.1 hq with hq | hq
    · rcases hw with hw | hw
      · exact hX'.apv q hq y (hw ▸ hy)
      · rw [hw] at hy; injection hy with hy
        have r := hX'.rows q hq
        exact ⟨fun e => by have := (r.1.lt y e).2; omega, fun e => by have := (r.2.lt y e).2; omega⟩
    · rw [List.mem_singleton] at hq
      subst hq
      exact ⟨fun e => (by cases e), fun e => by cases e⟩
/-- The first change. -/
theorem ChO.first {w5 : World} {base : Nat} {v' : Value} {ch : Chg} (hc : ch.edits = [] ∧ ch.recs = []) (ho : w5.ownsRow base 42 5 v' 1 (ChV.cells (ch, .slice none 0 0, .slice none 0 0))) : ChO w5 base v' [] (ch, .slice none 0 0, .slice none 0 0) := by
  refine ⟨ho, ?_, ?_, fun q hq => (by cases hq), fun q hq => (by cases hq), fun y hy => (by cases hy)⟩
  · intro q hq
    rw [List.nil_append, List.mem_singleton] at hq
    subst hq
    dsimp only
    rw [hc.1, hc.2]
    exact ⟨World.ownsRow_nil _ _ _ _, World.ownsRow_nil _ _ _ _⟩
  · intro q hq y hy
    rw [List.nil_append, List.mem_singleton] at hq
    subst hq
    exact ⟨fun e => (by cases e), fun e => by cases e⟩
/-- Read as a list of changes. -/
theorem ChO.chgs {w : World} {base : Nat} {v : Value} {Q : List ChV} {p : ChV} (h : ChO w base v Q p) : Chgs w v (Q ++ [p]) :=
  ⟨by have := Row.of_own h.own; rw [List.length_append, List.length_singleton]; exact this, fun q hq => ⟨Row.of_own (h.rows q hq).1, Row.of_own (h.rows q hq).2⟩⟩
end Go.Proofs.YtnblfaagchflaaaDoor
/- Plain: what HistoryMoves counts; what HistoryWhole finds. -/
namespace Go.Proofs.YtnblfaagchflaaaDoor
open Go.RowKit
set_option linter.unusedVariables false
set_option linter.unusedSimpArgs false

def mv1 (v w : Rev) : Bool := decide (w.chg = v.chg) && decide (w.act = 4) && decide (v.act = 5) && decide (w.frm = v.path) && decide (w.fnum = v.num - 1)
def mv2 (v w : Rev) : Bool := decide (w.chg = v.chg) && decide (v.act = 4) && decide (w.act = 5) && decide (v.frm = w.path) && decide (v.fnum = w.num - 1)
theorem mv1_iff (v w : Rev) : mv1 v w = true ↔ w.chg = v.chg ∧ w.act = 4 ∧ v.act = 5 ∧ w.frm = v.path ∧ w.fnum = v.num - 1 := by unfold mv1; simp [and_assoc]
theorem mv2_iff (v w : Rev) : mv2 v w = true ↔ w.chg = v.chg ∧ v.act = 4 ∧ w.act = 5 ∧ v.frm = w.path ∧ v.fnum = w.num - 1 := by unfold mv2; simp [and_assoc]
def mvN (revs : List Rev) (v : Rev) : Nat := revs.countP (mv1 v) + revs.countP (mv2 v)
theorem mvN_app (a b : List Rev) (v : Rev) : mvN (a ++ b) v = mvN a v + mvN b v := by unfold mvN; simp only [List.countP_append]; omega
theorem mvN_far {l : List Rev} {v : Rev} (h : ∀ w ∈ l, w.chg ≠ v.chg) : mvN l v = 0 := by
  unfold mvN
  rw [List.countP_eq_zero.2 (fun w hw e => h w hw ((mv1_iff _ _).1 e).1), List.countP_eq_zero.2 (fun w hw e => h w hw ((mv2_iff _ _).1 e).1)]
theorem countP_path {es : List Edt} (hn : (es.map (·.path)).Nodup) {y : Edt} (hy : y ∈ es) (p : Edt → Bool) (hp : p y = true) : es.countP (fun x => p x && decide (x.path = y.path)) = 1 := by
  induction es with
  | nil => cases hy
  | cons a es ih =>
    rw [List.map_cons, List.nodup_cons] at hn
    rw [List.countP_cons]
    rcases List.mem_cons.1 hy with rfl | hy
    · have : es.countP (fun x => p x && decide (x.path = y.path)) = 0 := by
        rw [List.countP_eq_zero]
        intro x hx hh
        rw [Bool.and_eq_true] at hh
        exact hn.1 (List.mem_map.2 ⟨x, hx, of_decide_eq_true hh.2⟩)
      rw [this]; simp [hp]
    · have hne : a.path ≠ y.path := fun e => hn.1 (List.mem_map.2 ⟨y, hy, e.symm⟩)
      rw [ih hn.2 hy]; simp [hne]
theorem movesE_zero {es : List Edt} (h : movesE es = 0) : ∀ e ∈ es, moveOk es (editsOf es) e = true := by
  unfold movesE at h
  split at h
  · rename_i h1; exact fun e he => List.all_eq_true.1 h1 e he
  · cases h
theorem mv_new {d : Dep} {c : Chg} (h : appE d c = 0) {e : Edt} (he : e ∈ c.edits) :
    mvN (c.edits.map (madeR (lastOf d.revs) c.num)) (madeR (lastOf d.revs) c.num e) = if e.act = 4 ∨ e.act = 5 then 1 else 0 := by
  obtain ⟨h1, h2, h3, -, -⟩ := appE_zero h
  obtain ⟨p1, p2⟩ := everyE_paths h2
  have hm := movesE_zero h3 e he
  have hfr : ∀ x ∈ c.edits, x.act = 4 → x.fnum = (lastR (lastOf d.revs) x.frm).num := by
    intro x hx ha
    have := (oneE_zero (p2 x hx).2.2).2.2.1
    unfold fromE at this
    rw [if_pos ha] at this
    simp at this
    exact this.2
  unfold mvN
  rw [List.countP_map, List.countP_map]
  by_cases h5 : e.act = 5
  · have e1 : c.edits.countP (mv1 (madeR (lastOf d.revs) c.num e) ∘ madeR (lastOf d.revs) c.num) = arrivals c.edits e.path := by
      unfold arrivals
      refine List.countP_congr fun x hx => ?_
      rw [Function.comp_apply, mv1_iff, Bool.and_eq_true, decide_eq_true_eq, decide_eq_true_eq]
      constructor
      · rintro ⟨-, a, -, b, -⟩; exact ⟨a, b⟩
      · rintro ⟨a, b⟩
        refine ⟨rfl, a, h5, b, ?_⟩
        show x.fnum = (lastR (lastOf d.revs) e.path).num + 1 - 1
        rw [hfr x hx a, b]; omega
    have e2 : c.edits.countP (mv2 (madeR (lastOf d.revs) c.num e) ∘ madeR (lastOf d.revs) c.num) = 0 := by
      refine List.countP_eq_zero.2 fun x hx hh => ?_
      have h4 : e.act = 4 := ((mv2_iff _ _).1 hh).2.1
      omega
    rw [e1, e2]
    unfold moveOk at hm
    rw [if_pos h5] at hm
    simp at hm
    rw [hm, if_pos (.inr h5)]
  · have e1 : c.edits.countP (mv1 (madeR (lastOf d.revs) c.num e) ∘ madeR (lastOf d.revs) c.num) = 0 := by
      refine List.countP_eq_zero.2 fun x hx hh => ?_
      have h4 : e.act = 5 := ((mv1_iff _ _).1 hh).2.2.1
      omega
    by_cases h4 : e.act = 4
    · unfold moveOk at hm
      rw [if_neg h5, if_pos h4] at hm
      simp at hm
      cases hy : editsOf c.edits e.frm with
      | none => rw [hy] at hm; simp [zeroEdt] at hm
      | some y =>
        rw [hy] at hm
        simp at hm
        obtain ⟨y1, y2⟩ := editsOf_mem _ _ _ hy
        have e2 : c.edits.countP (mv2 (madeR (lastOf d.revs) c.num e) ∘ madeR (lastOf d.revs) c.num) = c.edits.countP (fun x => decide (x.act = 5) && decide (x.path = y.path)) := by
          refine List.countP_congr fun x hx => ?_
          rw [Function.comp_apply, mv2_iff, Bool.and_eq_true, decide_eq_true_eq, decide_eq_true_eq]
          constructor
          · rintro ⟨-, -, a, b, -⟩; exact ⟨a, y2 ▸ b.symm⟩
          · rintro ⟨a, b⟩
            refine ⟨rfl, h4, a, ?_, ?_⟩
            · show e.frm = x.path
              rw [b, y2]
            · show e.fnum = (lastR (lastOf d.revs) x.path).num + 1 - 1
              rw [hfr e he h4, b, y2]; omega
        rw [e1, e2, countP_path (paths_nodup p1) y1 (fun x => decide (x.act = 5)) (by simpa using hm), if_pos (.inl h4)]
    · have e2 : c.edits.countP (mv2 (madeR (lastOf d.revs) c.num e) ∘ madeR (lastOf d.revs) c.num) = 0 := by
        refine List.countP_eq_zero.2 fun x hx hh => ?_
        have : e.act = 4 := ((mv2_iff _ _).1 hh).2.1
        omega
      rw [e1, e2, if_neg (by omega)]
theorem mv_step {d : Dep} {c : Chg} (h : appE d c = 0) (hd : ∀ v ∈ d.revs, mvN d.revs v = if v.act = 4 ∨ v.act = 5 then 1 else 0) : ∀ v ∈ newRevs d c, mvN (newRevs d c) v = if v.act = 4 ∨ v.act = 5 then 1 else 0 := by
  have hs := (sizeE_zero (appE_zero h).1).2.2.2.2.2
  intro v hv
  unfold newRevs at hv ⊢
  rw [mvN_app]
  rcases List.mem_append.1 hv with hv | hv
  · rw [hd v hv, mvN_far (fun w hw => ?_)]
    · omega
    · obtain ⟨x, hx, rfl⟩ := List.mem_map.1 hw
      have := hs v hv
      simp only [madeR]; omega
  · obtain ⟨e, he, rfl⟩ := List.mem_map.1 hv
    rw [mv_new h he, mvN_far (fun w hw => ?_)]
    · rw [Nat.zero_add]; rfl
    · have := hs w hw
      simp only [madeR]; omega
theorem plays_moves {l : List Chg} {d : Dep} (h : Plays l d) : ∀ v ∈ d.revs, mvN d.revs v = if v.act = 4 ∨ v.act = 5 then 1 else 0 := by
  induction h with
  | nil => intro v hv; cases hv
  | skip _ _ ih => exact ih
  | step _ h0 _ _ ih => exact mv_step h0 ih

theorem lastM_at (f : ByteArray → Option Rev) (r : Rev) (q : ByteArray) : lastM f r q = if r.path = q then (match f q with
    | none => some r
    | some b => if b.num < r.num then some r else some b) else f q := by
  by_cases h : r.path = q
  · subst h
    rw [if_pos rfl]
    unfold lastM
    cases hf : f r.path with
    | none => simp [upd]
    | some b => by_cases hb : b.num < r.num <;> simp [hb, upd, hf]
  · rw [if_neg h]; exact lastM_other f r (fun e => h e.symm)
theorem greatest_lastOf {revs : List Rev} (q : ByteArray) (p : Rev → Bool) (hp : ∀ r ∈ revs, p r = true) : greatest revs q p = lastOf revs q := by
  suffices H : ∀ (l : List Rev) (o : Option Rev) (f : ByteArray → Option Rev), (∀ r ∈ l, p r = true) → o = f q → l.foldl (fun o r => if r.path = q ∧ p r = true then (match o with
    | none => some r
    | some b => if b.num < r.num then some r else some b) else o) o = l.foldl lastM f q by
    exact H revs none (fun _ => none) hp rfl
  intro l
  induction l with
  | nil => intro o f _ h; exact h
  | cons x l ih =>
    intro o f hp h
    rw [List.foldl_cons, List.foldl_cons]
    refine ih _ _ (fun r hr => hp r (List.mem_cons_of_mem _ hr)) ?_
    rw [lastM_at, hp x (List.mem_cons_self ..), h]
    by_cases hx : x.path = q
    · simp [hx]
    · simp [hx]
theorem greatest_app {a b : List Rev} (q : ByteArray) (p : Rev → Bool) (hb : ∀ r ∈ b, p r = false) : greatest (a ++ b) q p = greatest a q p := by
  unfold greatest
  rw [List.foldl_append]
  generalize a.foldl _ none = o
  induction b generalizing o with
  | nil => rfl
  | cons x b ih =>
    rw [List.foldl_cons, if_neg (by rw [hb x (List.mem_cons_self ..)]; simp)]
    exact ih (fun r hr => hb r (List.mem_cons_of_mem _ hr)) o
theorem whole_at {d : Dep} {c : Chg} (h : appE d c = 0) {e : Edt} (he : e ∈ c.edits) : greatest (newRevs d c) e.path (fun v : Rev => decide (v.chg ≤ c.num)) = some (madeR (lastOf d.revs) c.num e) ∧ (lastR (lastOf d.revs) e.path).num = e.base := by
  obtain ⟨h1, h2, -, -, -⟩ := appE_zero h
  obtain ⟨p1, p2⟩ := everyE_paths h2
  have hs := (sizeE_zero h1).2.2.2.2.2
  refine ⟨?_, (oneE_zero (p2 e he).2.2).2.1.symm⟩
  rw [greatest_lastOf _ _ (fun r hr => ?_)]
  · unfold newRevs
    rw [lastOf_app]
    exact lasts_made _ _ _ (paths_nodup p1) e he
  · unfold newRevs at hr
    rcases List.mem_append.1 hr with hr | hr
    · have := hs r hr; simp; omega
    · obtain ⟨x, -, rfl⟩ := List.mem_map.1 hr
      simp [madeR]
theorem whole_old {d : Dep} {c : Chg} (q : ByteArray) {m : Int} (hm : m < c.num) : greatest (newRevs d c) q (fun v : Rev => decide (v.chg ≤ m)) = greatest d.revs q (fun v : Rev => decide (v.chg ≤ m)) := by
  unfold newRevs
  refine greatest_app _ _ fun r hr => ?_
  obtain ⟨x, -, rfl⟩ := List.mem_map.1 hr
  exact decide_eq_false (show ¬ c.num ≤ m by omega)
end Go.Proofs.YtnblfaagchflaaaDoor
