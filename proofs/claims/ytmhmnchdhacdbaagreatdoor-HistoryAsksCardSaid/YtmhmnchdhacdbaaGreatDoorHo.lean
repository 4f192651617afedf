/- Plain: a change that was accepted is refused again (HistoryOnce). -/
import Derived.Test.YtmhmnchdhacdbaaGreatDoorHq
namespace Go.Proofs.YtmhmnchdhacdbaaGreatDoor
open Go.RowKit
set_option linter.unusedVariables false
set_option linter.unusedSimpArgs false

theorem everyE_cons {last : ByteArray → Option Rev} {b : ByteArray} {e : Edt} {es : List Edt} (h : everyE last b (e :: es) = 0) : editE last b e = 0 ∧ everyE last e.path es = 0 := by
  unfold everyE at h
  split at h
  · exact absurd h (by assumption)
  · rename_i hn; exact ⟨Decidable.not_not.1 hn, h⟩
theorem editE_zero {last : ByteArray → Option Rev} {b : ByteArray} {e : Edt} (h : editE last b e = 0) : validS e.path = true ∧ e.path.size ≤ 200 ∧ (b ≠ emptyS → cmpP b e.path < 0) ∧ oneE last e = 0 := by
  unfold editE at h
  split at h
  · omega
  · rename_i h1
    split at h
    · omega
    · rename_i h2
      rw [not_or] at h1
      refine ⟨by simpa using h1.1, by omega, fun hb => ?_, h⟩
      have : ¬ 0 ≤ cmpP b e.path := fun hh => h2 ⟨hb, hh⟩
      omega
theorem valid_ne {p : ByteArray} (h : validS p = true) : p ≠ emptyS := by
  intro e; subst e; revert h; decide
theorem cmpP_valid {a b : ByteArray} (ha : validS a = true) (hb : validS b = true) : cmpP a b = cmpL a.data.toList b.data.toList := by
  unfold cmpP; rw [ha, hb]; rfl
theorem cmpP_self (a : ByteArray) : cmpP a a = 0 := by
  unfold cmpP; split
  · exact cmpL_self _
  · rfl
theorem cmpP_trans {a b c : ByteArray} (ha : validS a = true) (hb : validS b = true) (hc : validS c = true) (h1 : cmpP a b < 0) (h2 : cmpP b c < 0) : cmpP a c < 0 := by
  rw [cmpP_valid ha hb] at h1; rw [cmpP_valid hb hc] at h2; rw [cmpP_valid ha hc]; exact cmpL_trans h1 h2
/-- Each edit comes behind the one ahead. -/
theorem everyE_after {last : ByteArray → Option Rev} {b : ByteArray} {es : List Edt} (hb : validS b = true) (h : everyE last b es = 0) : ∀ e ∈ es, validS e.path = true ∧ cmpP b e.path < 0 := by
  induction es generalizing b with
  | nil => intro e he; simp at he
  | cons x es ih =>
    obtain ⟨h1, h2⟩ := everyE_cons h
    obtain ⟨v, -, hc, -⟩ := editE_zero h1
    have hx := hc (valid_ne hb)
    intro e he
    rcases List.mem_cons.1 he with rfl | he
    · exact ⟨v, hx⟩
    · obtain ⟨v2, h3⟩ := ih v h2 e he
      exact ⟨v2, cmpP_trans hb v v2 hx h3⟩
theorem everyE_paths {last : ByteArray → Option Rev} {b : ByteArray} {es : List Edt} (h : everyE last b es = 0) : es.Pairwise (fun x y => cmpP x.path y.path < 0) ∧ ∀ e ∈ es, validS e.path = true ∧ e.path.size ≤ 200 ∧ oneE last e = 0 := by
  induction es generalizing b with
  | nil => simp
  | cons x es ih =>
    obtain ⟨h1, h2⟩ := everyE_cons h
    obtain ⟨v, hz, hc, ho⟩ := editE_zero h1
    obtain ⟨i1, i2⟩ := ih h2
    refine ⟨List.pairwise_cons.2 ⟨fun e he => (everyE_after v h2 e he).2, i1⟩, fun e he => ?_⟩
    rcases List.mem_cons.1 he with rfl | he
    · exact ⟨v, hz, ho⟩
    · exact i2 e he
theorem path_ne {a b : Edt} (h : cmpP a.path b.path < 0) : a.path ≠ b.path := by
  intro e; rw [e, cmpP_self] at h; omega
theorem paths_nodup {es : List Edt} (h : es.Pairwise (fun x y => cmpP x.path y.path < 0)) : (es.map (·.path)).Nodup := by
  rw [List.Nodup, List.pairwise_map]
  exact h.imp path_ne

theorem lastM_other (f : ByteArray → Option Rev) (r : Rev) {p : ByteArray} (h : p ≠ r.path) : lastM f r p = f p := by
  unfold lastM
  cases f r.path with
  | none => simp [upd, h]
  | some b => by_cases hb : b.num < r.num <;> simp [hb, upd, h]
theorem lastM_self (f : ByteArray → Option Rev) (r : Rev) (h : ∀ b, f r.path = some b → b.num < r.num) : lastM f r r.path = some r := by
  unfold lastM
  cases hf : f r.path with
  | none => simp [upd]
  | some b => simp [h b hf, upd]
theorem lasts_other (news : List Rev) (f : ByteArray → Option Rev) {p : ByteArray} (h : p ∉ news.map (·.path)) : news.foldl lastM f p = f p := by
  induction news generalizing f with
  | nil => rfl
  | cons r news ih =>
    rw [List.map_cons, List.mem_cons, not_or] at h
    rw [List.foldl_cons, ih _ h.2, lastM_other f r h.1]
theorem lastOf_app (a b : List Rev) : lastOf (a ++ b) = b.foldl lastM (lastOf a) := by unfold lastOf; rw [List.foldl_append]
theorem made_paths (last : ByteArray → Option Rev) (n : Int) (es : List Edt) : ((es.map (madeR last n)).map (·.path)) = es.map (·.path) := by
  rw [List.map_map]; rfl
/-- The last revision of a path behind the change: the edit's, or the old one. -/
theorem lasts_made (last : ByteArray → Option Rev) (n : Int) (es : List Edt) (hn : (es.map (·.path)).Nodup) (e : Edt) (he : e ∈ es) :
    (es.map (madeR last n)).foldl lastM last e.path = some (madeR last n e) := by
  have key : ∀ (es : List Edt) (f : ByteArray → Option Rev), (es.map (·.path)).Nodup → (∀ x ∈ es, f x.path = last x.path) → e ∈ es → (es.map (madeR last n)).foldl lastM f e.path = some (madeR last n e) := by
    intro es
    induction es with
    | nil => intro f _ _ he; simp at he
    | cons x es ih =>
      intro f hn hf he
      rw [List.map_cons, List.nodup_cons] at hn
      rw [List.map_cons, List.foldl_cons]
      rcases List.mem_cons.1 he with rfl | he
      · rw [lasts_other _ _ (by rw [made_paths]; exact hn.1)]
        refine lastM_self f (madeR last n e) fun b hb => ?_
        have : last e.path = some b := by rw [← hf e (List.mem_cons_self ..)]; exact hb
        show b.num < (lastR last e.path).num + 1
        unfold lastR
        rw [this]
        simp
        omega
      · refine ih _ hn.2 (fun y hy => ?_) he
        have hne : y.path ≠ x.path := fun h => hn.1 (by rw [← h]; exact List.mem_map.2 ⟨y, hy, rfl⟩)
        rw [lastM_other f (madeR last n x) hne]
        exact hf y (List.mem_cons_of_mem _ hy)
  exact key es last hn (fun _ _ => rfl) he

theorem firstE_zero {a : Int} {l : List Int} (h : firstE (a :: l) = 0) : a = 0 ∧ firstE l = 0 := by
  unfold firstE at h
  split at h
  · exact absurd h (by assumption)
  · rename_i hn; exact ⟨Decidable.not_not.1 hn, h⟩
theorem appE_zero {d : Dep} {c : Chg} (h : appE d c = 0) : sizeE d.revs c = 0 ∧ everyE (lastOf d.revs) emptyS c.edits = 0 ∧ movesE c.edits = 0 ∧ recsE d.revs c = 0 ∧ roomE d c = 0 := by
  unfold appE at h
  obtain ⟨h1, h⟩ := firstE_zero h
  obtain ⟨h2, h⟩ := firstE_zero h
  obtain ⟨h3, h⟩ := firstE_zero h
  obtain ⟨h4, h⟩ := firstE_zero h
  obtain ⟨h5, h⟩ := firstE_zero h
  exact ⟨h1, h2, h3, h4, h5⟩
theorem sizeE_zero {revs : List Rev} {c : Chg} (h : sizeE revs c = 0) : 1 ≤ c.edits.length ∧ c.edits.length ≤ 64 ∧ c.recs.length ≤ 64 ∧ 1 ≤ c.num ∧ c.num ≤ 1073741824 ∧ ∀ r ∈ revs, r.chg < c.num := by
  unfold sizeE at h
  split at h
  · omega
  · rename_i h1
    split at h
    · omega
    · rename_i h2
      split at h
      · omega
      · rename_i h3
        refine ⟨by omega, by omega, by omega, by omega, by omega, fun r hr => ?_⟩
        have h3' : (revs.any fun r => decide (c.num ≤ r.chg)) = false := by simpa using h3
        have := List.any_eq_false.1 h3' r hr
        simp at this
        omega
theorem oneE_zero {last : ByteArray → Option Rev} {e : Edt} (h : oneE last e = 0) : actE last e = 0 ∧ e.base = (lastR last e.path).num ∧ fromE last e = true ∧ typeE last e = true := by
  unfold oneE at h
  split at h
  · exact absurd h (by assumption)
  · rename_i h1
    split at h
    · omega
    · rename_i h2
      split at h
      · omega
      · rename_i h3
        split at h
        · omega
        · rename_i h4
          exact ⟨Decidable.not_not.1 h1, Decidable.not_not.1 h2, by simpa using h3, by simpa using h4⟩
theorem firstE_ne {a : Int} {l : List Int} (h : a ≠ 0) : firstE (a :: l) = a := by unfold firstE; rw [if_pos h]
theorem firstE_skip {l : List Int} : firstE (0 :: l) = firstE l := by rw [firstE]; simp

theorem once_plain (d : Dep) (c : Chg) (n : Int) (rs : List Rcd) (h : appE d c = 0) :
    appE ⟨newRevs d c, rs⟩ { c with num := n } = 112 ∨ appE ⟨newRevs d c, rs⟩ { c with num := n } = 113 ∨ appE ⟨newRevs d c, rs⟩ { c with num := n } = 114 := by
  obtain ⟨h1, h2, -, -, -⟩ := appE_zero h
  obtain ⟨a1, a2, a3, -⟩ := sizeE_zero h1
  have hs : sizeE (newRevs d c) { c with num := n } = 112 ∨ sizeE (newRevs d c) { c with num := n } = 0 := by
    unfold sizeE
    rw [if_neg (by show ¬ (c.edits.length = 0 ∨ 64 < c.edits.length ∨ 64 < c.recs.length); omega)]
    split
    · exact .inl rfl
    · split
      · exact .inl rfl
      · exact .inr rfl
  unfold appE
  rcases hs with hs | hs
  · rw [hs]; exact .inl (firstE_ne (by decide))
  · rw [hs, firstE_skip]
    obtain ⟨num, client, text, edits, recs⟩ := c
    cases edits with
    | nil => simp at a1
    | cons e es =>
      obtain ⟨p1, p2⟩ := everyE_paths h2
      obtain ⟨v, hz, ho⟩ := p2 e (List.mem_cons_self ..)
      obtain ⟨o1, o2, o3, o4⟩ := oneE_zero ho
      have hl : lastOf (newRevs d ⟨num, client, text, e :: es, recs⟩) e.path = some (madeR (lastOf d.revs) num e) := by
        unfold newRevs
        rw [lastOf_app]
        exact lasts_made _ _ _ (paths_nodup p1) e (List.mem_cons_self ..)
      generalize newRevs d ⟨num, client, text, e :: es, recs⟩ = revs' at hl hs
      have hE : ∀ x, oneE (lastOf revs') e = x → x ≠ 0 → everyE (lastOf revs') emptyS (e :: es) = x := by
        intro x hx hx0
        have : editE (lastOf revs') emptyS e = x := by
          unfold editE
          rw [if_neg (by simp [v]; omega), if_neg (by simp)]
          exact hx
        unfold everyE
        rw [this, if_pos hx0]
      have hone : oneE (lastOf revs') e = 113 ∨ oneE (lastOf revs') e = 114 := by
        have hlast : isLast (lastOf revs') e.path = liveA e.act := by unfold isLast; rw [hl]; rfl
        have hR : lastR (lastOf revs') e.path = madeR (lastOf d.revs) num e := by unfold lastR; rw [hl]; rfl
        by_cases ha : e.act = 1 ∨ e.act = 4
        · left
          have : actE (lastOf revs') e = 113 := by
            unfold actE; rw [if_pos ha, hlast, if_pos (by rcases ha with h | h <;> rw [h] <;> decide)]
          unfold oneE; rw [this, if_pos (by decide)]
        · by_cases hb : e.act = 2 ∨ e.act = 3 ∨ e.act = 5
          · by_cases h2' : e.act = 2
            · right
              have : actE (lastOf revs') e = 0 := by
                unfold actE; rw [if_neg ha, if_pos hb, hlast, if_pos (by rw [h2']; decide)]
              unfold oneE; rw [this, if_neg (by decide), hR, if_pos]
              show e.base ≠ (lastR (lastOf d.revs) e.path).num + 1
              omega
            · left
              have : actE (lastOf revs') e = 113 := by
                unfold actE; rw [if_neg ha, if_pos hb, hlast, if_neg (by rcases hb with h | h | h <;> rw [h] <;> first | exact absurd h h2' | decide)]
              unfold oneE; rw [this, if_pos (by decide)]
          · exfalso
            unfold actE at o1
            rw [if_neg ha, if_neg hb] at o1
            omega
      rcases hone with h | h
      · rw [hE _ h (by decide)]; exact .inr (.inl (firstE_ne (by decide)))
      · rw [hE _ h (by decide)]; exact .inr (.inr (firstE_ne (by decide)))
end Go.Proofs.YtmhmnchdhacdbaaGreatDoor
