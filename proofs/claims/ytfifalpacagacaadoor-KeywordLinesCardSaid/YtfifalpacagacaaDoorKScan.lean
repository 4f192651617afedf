/- The occurrences of names in a list of bytes, as the program finds them: lists and numbers alone. -/
import Derived.Test.YtfifalpacagacaaDoorKLeaf2
import Derived.Lib.IndexLaws
namespace Go.Proofs.YtfifalpacagacaaDoor.kw
set_option linter.unusedVariables false
set_option linter.unusedSimpArgs false

/-- The letters behind the dollar sign at k. -/
def nameAt (l : List UInt8) (k : Nat) : List UInt8 := (l.drop (k + 1)).take (endNameL l (k + 1) - (k + 1))
/-- The place behind the occurrence that begins at k. -/
def stepAt (names : List (List UInt8)) (l : List UInt8) (k : Nat) : Option Nat :=
  if nameAt l k ∈ names ∧ occOk l (endNameL l (k + 1)) = true then some (occAt l (endNameL l (k + 1)) + 1) else none

abbrev Occ := Nat × Nat × List UInt8

def occF (names : List (List UInt8)) (l : List UInt8) : Nat → Nat → List Occ
  | 0, _ => []
  | f + 1, k => if k < l.length then
      (if l[k]? = some 36 then
        match stepAt names l k with
        | some e => (k, e - 1, nameAt l k) :: occF names l f e
        | none => occF names l f (k + 1)
      else occF names l f (k + 1))
    else []
def occs (names : List (List UInt8)) (l : List UInt8) (k : Nat) : List Occ := occF names l (l.length - k) k

theorem endNameL_ge (l : List UInt8) (k : Nat) : k ≤ endNameL l k := by unfold endNameL; omega
theorem skipL_ge (l : List UInt8) (k : Nat) : k ≤ skipL l k := by unfold skipL; omega
theorem occAt_ge (l : List UInt8) (k : Nat) : k ≤ occAt l k := by
  unfold occAt; split
  · have := skipL_ge l (k + 1); omega
  · exact Nat.le_refl _
theorem occOk_lt {l : List UInt8} {k : Nat} (h : occOk l k = true) : occAt l k < l.length := by
  unfold occOk at h
  have h' := eq_of_beq h
  exact (List.getElem?_eq_some_iff.1 h').1
theorem stepAt_bd {names : List (List UInt8)} {l : List UInt8} {k e : Nat} (h : stepAt names l k = some e) : k + 1 < e ∧ e ≤ l.length := by
  unfold stepAt at h
  split at h
  · rename_i hc
    injection h with h
    have h1 := occOk_lt hc.2
    have h2 := occAt_ge l (endNameL l (k + 1))
    have h3 := endNameL_ge l (k + 1)
    omega
  · cases h

theorem occF_fuel (names : List (List UInt8)) (l : List UInt8) : ∀ (f g k : Nat), l.length - k ≤ f → l.length - k ≤ g → occF names l f k = occF names l g k
  | 0, 0, k, _, _ => rfl
  | 0, g + 1, k, h, _ => by simp [occF, show ¬ k < l.length by omega]
  | f + 1, 0, k, _, h => by simp [occF, show ¬ k < l.length by omega]
  | f + 1, g + 1, k, h1, h2 => by
    by_cases hk : k < l.length
    · simp only [occF, hk, if_true]
      rw [occF_fuel names l f g (k + 1) (by omega) (by omega)]
      cases hs : stepAt names l k with
      | none => rfl
      | some e =>
        have := stepAt_bd hs
        simp only
        rw [occF_fuel names l f g e (by omega) (by omega)]
    · simp [occF, hk]

theorem occs_end (names : List (List UInt8)) (l : List UInt8) (k : Nat) (h : ¬ k < l.length) : occs names l k = [] := by
  unfold occs; rw [show l.length - k = 0 by omega]; rfl
theorem occs_step (names : List (List UInt8)) (l : List UInt8) (k : Nat) (h : k < l.length) : occs names l k =
    if l[k]? = some 36 then (match stepAt names l k with | some e => (k, e - 1, nameAt l k) :: occs names l e | none => occs names l (k + 1)) else occs names l (k + 1) := by
  unfold occs
  obtain ⟨f, hf⟩ : ∃ f, l.length - k = f + 1 := ⟨l.length - k - 1, by omega⟩
  rw [hf]
  simp only [occF, h, if_true]
  rw [occF_fuel names l f (l.length - (k + 1)) (k + 1) (by omega) (by omega)]
  cases hs : stepAt names l k with
  | none => rfl
  | some e =>
    have := stepAt_bd hs
    simp only
    rw [occF_fuel names l f (l.length - e) e (by omega) (by omega)]
theorem occs_no (names : List (List UInt8)) (l : List UInt8) (k : Nat) (h : k < l.length) (h36 : l[k]? ≠ some 36) : occs names l k = occs names l (k + 1) := by
  rw [occs_step names l k h, if_neg h36]
theorem occs_none (names : List (List UInt8)) (l : List UInt8) (k : Nat) (h : k < l.length) (h36 : l[k]? = some 36) (hs : stepAt names l k = none) : occs names l k = occs names l (k + 1) := by
  rw [occs_step names l k h, if_pos h36, hs]
theorem occs_some (names : List (List UInt8)) (l : List UInt8) (k e : Nat) (h : k < l.length) (h36 : l[k]? = some 36) (hs : stepAt names l k = some e) : occs names l k = (k, e - 1, nameAt l k) :: occs names l e := by
  rw [occs_step names l k h, if_pos h36, hs]
theorem occs_skip (names : List (List UInt8)) (l : List UInt8) (k : Nat) : ∀ (j : Nat), k + j ≤ l.length → (∀ i, i < j → l[k + i]? ≠ some 36) → occs names l k = occs names l (k + j)
  | 0, _, _ => rfl
  | j + 1, h, hn => by
    rw [occs_skip names l k j (by omega) (fun i hi => hn i (by omega)), occs_no names l (k + j) (by omega) (hn j (by omega))]; rfl
theorem occs_out (names : List (List UInt8)) (l : List UInt8) (k : Nat) (hk : k ≤ l.length) (hn : ∀ i, l[k + i]? ≠ some 36) : occs names l k = [] := by
  rw [occs_skip names l k (l.length - k) (by omega) (fun i _ => hn i), occs_end _ _ _ (by omega)]

/-- What IndexByte says of the next dollar sign. -/
theorem index_no {l : List UInt8} {k : Nat} (h : Lib.indexByte (l.drop k) 36 = -1) (i : Nat) : l[k + i]? ≠ some 36 := by
  have := Lib.indexByte_none h i
  rwa [List.getElem?_drop] at this
theorem index_yes {l : List UInt8} {k j : Nat} (h : Lib.indexByte (l.drop k) 36 = (j : Int)) : l[k + j]? = some 36 ∧ (∀ i, i < j → l[k + i]? ≠ some 36) ∧ k + j < l.length := by
  obtain ⟨h1, h2⟩ := Lib.indexByte_some h
  rw [List.getElem?_drop] at h1
  exact ⟨h1, fun i hi => by have := h2 i hi; rwa [List.getElem?_drop] at this, (List.getElem?_eq_some_iff.1 h1).1⟩
theorem index_cases (l : List UInt8) (c : UInt8) : Lib.indexByte l c = -1 ∨ ∃ j : Nat, Lib.indexByte l c = (j : Int) := by
  have := Lib.indexByte_ge l c
  by_cases h : Lib.indexByte l c = -1
  · exact .inl h
  · exact .inr ⟨(Lib.indexByte l c).toNat, by omega⟩
theorem nameAt_le (l : List UInt8) (k : Nat) (h : k < l.length) : k + 1 ≤ endNameL l (k + 1) ∧ endNameL l (k + 1) ≤ l.length := ⟨endNameL_ge _ _, endNameL_le l (k + 1) (by omega)⟩

theorem occF_length (names : List (List UInt8)) (l : List UInt8) : ∀ (f k : Nat), (occF names l f k).length ≤ f
  | 0, _ => Nat.le_refl _
  | f + 1, k => by
    have h1 := occF_length names l f (k + 1)
    unfold occF
    split
    · split
      · split
        · rename_i e _
          have h2 := occF_length names l f e
          simp; omega
        · omega
      · omega
    · simp
theorem occs_length (names : List (List UInt8)) (l : List UInt8) (k : Nat) : (occs names l k).length ≤ l.length := by
  have := occF_length names l (l.length - k) k
  unfold occs; omega

/-- The text in which each occurrence is replaced by txt of its name: what is made and how far, behind the given occurrences. -/
def replSt (b : List UInt8) (txt : List UInt8 → List UInt8) (os : List Occ) : List UInt8 × Nat :=
  os.foldl (fun st o => (st.1 ++ (b.drop st.2).take (o.1 - st.2) ++ txt o.2.2, o.2.1 + 1)) ([], 0)
def replL (b : List UInt8) (txt : List UInt8 → List UInt8) (os : List Occ) : List UInt8 := (replSt b txt os).1 ++ b.drop (replSt b txt os).2

theorem replSt_snoc (b : List UInt8) (txt : List UInt8 → List UInt8) (os : List Occ) (o : Occ) : replSt b txt (os ++ [o]) =
    ((replSt b txt os).1 ++ (b.drop (replSt b txt os).2).take (o.1 - (replSt b txt os).2) ++ txt o.2.2, o.2.1 + 1) := by
  simp [replSt, List.foldl_append]

theorem occF_split (names : List (List UInt8)) (l : List UInt8) : ∀ (f k : Nat) (pre rest : List Occ) (x : Occ), occF names l f k = pre ++ x :: rest →
    (∀ y, pre.getLast? = some y → y.2.1 + 1 ≤ x.1) ∧ k ≤ x.1 ∧ x.1 < x.2.1 ∧ x.2.1 < l.length ∧ l[x.1]? = some 36 ∧ x.2.2 = nameAt l x.1 ∧ stepAt names l x.1 = some (x.2.1 + 1)
  | 0, k, pre, rest, x, h => by simp [occF] at h
  | f + 1, k, pre, rest, x, h => by
    unfold occF at h
    split at h
    · split at h
      · rename_i hk h36
        split at h
        · rename_i e hs
          have hbd := stepAt_bd hs
          cases pre with
          | nil =>
            simp only [List.nil_append, List.cons.injEq] at h
            obtain ⟨rfl, h⟩ := h
            refine ⟨by simp, Nat.le_refl _, by simp only; omega, by simp only; omega, h36, rfl, ?_⟩
            simp only
            rw [show e - 1 + 1 = e by omega]; exact hs
          | cons p pre =>
            simp only [List.cons_append, List.cons.injEq] at h
            obtain ⟨rfl, h⟩ := h
            obtain ⟨h1, h2, h3⟩ := occF_split names l f e pre rest x h
            refine ⟨fun y hy => ?_, by omega, h3⟩
            cases pre with
            | nil =>
              simp only [List.getLast?_singleton, Option.some.injEq] at hy
              subst hy
              simp only; omega
            | cons q pre => exact h1 y (by rwa [List.getLast?_cons_cons] at hy)
        · obtain ⟨h1, h2, h3⟩ := occF_split names l f (k + 1) pre rest x h
          exact ⟨h1, by omega, h3⟩
      · obtain ⟨h1, h2, h3⟩ := occF_split names l f (k + 1) pre rest x h
        exact ⟨h1, by omega, h3⟩
    · simp at h

theorem replSt_copied (b : List UInt8) (txt : List UInt8 → List UInt8) (os : List Occ) : (replSt b txt os).2 = (os.getLast?.map fun o => o.2.1 + 1).getD 0 := by
  rcases List.eq_nil_or_concat os with rfl | ⟨os', o, rfl⟩
  · rfl
  · rw [List.concat_eq_append, replSt_snoc]; simp

theorem occs_at (names : List (List UInt8)) (b : List UInt8) (txt : List UInt8 → List UInt8) (pre rest : List Occ) (x : Occ) (h : occs names b 0 = pre ++ x :: rest) :
    (replSt b txt pre).2 ≤ x.1 ∧ x.1 < x.2.1 ∧ x.2.1 < b.length ∧ x.2.2.length ≤ b.length ∧ nameAt b x.1 = x.2.2 := by
  obtain ⟨h1, h2, h3, h4, _, h5, _⟩ := occF_split names b _ 0 pre rest x h
  refine ⟨?_, h3, h4, ?_, h5.symm⟩
  · rw [replSt_copied]
    cases hl : pre.getLast? with
    | none => simp
    | some y => simpa using h1 y hl
  · rw [h5]; unfold nameAt; simp only [List.length_take, List.length_drop]; omega

theorem replSt_len (b : List UInt8) (txt : List UInt8 → List UInt8) (T : Nat) (names : List (List UInt8)) : ∀ (rest pre : List Occ), occs names b 0 = pre ++ rest → (∀ o ∈ pre, (txt o.2.2).length ≤ T) →
    (replSt b txt pre).1.length ≤ (replSt b txt pre).2 + pre.length * T ∧ (replSt b txt pre).2 ≤ b.length := by
  intro rest pre
  induction h : pre.length generalizing pre rest with
  | zero =>
    intro _ _
    have : pre = [] := List.eq_nil_of_length_eq_zero h
    subst this
    simp [replSt]
  | succ n ih =>
    intro h1 h2
    rcases List.eq_nil_or_concat pre with rfl | ⟨pre', x, rfl⟩
    · simp at h
    · rw [List.concat_eq_append] at *
      simp only [List.append_assoc, List.cons_append, List.nil_append] at h1
      obtain ⟨i1, i2⟩ := ih (x :: rest) pre' (by simpa using h) h1 (fun o ho => h2 o (by simp [ho]))
      obtain ⟨a1, a2, a3, _⟩ := occs_at names b txt pre' rest x h1
      have ht := h2 x (by simp)
      rw [replSt_snoc]
      simp only [List.length_append, List.length_take, List.length_drop, List.length_cons, List.length_nil, Nat.add_mul] at *
      omega

end Go.Proofs.YtfifalpacagacaaDoor.kw
