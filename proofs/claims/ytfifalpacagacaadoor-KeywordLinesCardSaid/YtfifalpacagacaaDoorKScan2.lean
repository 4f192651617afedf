/- What an occurrence looks like: lists and numbers alone. -/
import Derived.Test.YtfifalpacagacaaDoorKScan
namespace Go.Proofs.YtfifalpacagacaaDoor.kw
set_option linter.unusedVariables false
set_option linter.unusedSimpArgs false

theorem endNameL_take (l : List UInt8) (k : Nat) : (l.drop k).take (endNameL l k - k) = (l.drop k).takeWhile (fun c => letterB c.toNat) := by
  unfold endNameL
  rw [Nat.add_sub_cancel_left]
  exact (List.prefix_iff_eq_take.1 (List.takeWhile_prefix _)).symm
theorem skipL_take (l : List UInt8) (k : Nat) : (l.drop k).take (skipL l k - k) = (l.drop k).takeWhile (fun c => c.toNat != 36 && c.toNat != 10) := by
  unfold skipL
  rw [Nat.add_sub_cancel_left]
  exact (List.prefix_iff_eq_take.1 (List.takeWhile_prefix _)).symm

theorem mem_takeWhile {α : Type} {p : α → Bool} {l : List α} {x : α} (h : x ∈ l.takeWhile p) : p x = true := by
  induction l with
  | nil => simp at h
  | cons y l ih =>
    rw [List.takeWhile_cons] at h
    split at h
    · rename_i hy
      rcases List.mem_cons.1 h with rfl | h
      · exact hy
      · exact ih h
    · simp at h

theorem nameAt_letters (l : List UInt8) (k : Nat) : ∀ c ∈ nameAt l k, letterB c.toNat = true := by
  intro c hc
  unfold nameAt at hc
  rw [endNameL_take] at hc
  exact mem_takeWhile (p := fun c : UInt8 => letterB c.toNat) hc
theorem nameAt_length (l : List UInt8) (k : Nat) (h : k < l.length) : (nameAt l k).length = endNameL l (k + 1) - (k + 1) := by
  have := nameAt_le l k h
  unfold nameAt
  rw [List.length_take, List.length_drop]
  omega

/-- The bytes between the two dollar signs. -/
def bodyOf (l : List UInt8) (o : Occ) : List UInt8 := (l.drop (o.1 + 1)).take (o.2.1 - (o.1 + 1))

theorem letter_ok (c : UInt8) (h : letterB c.toNat = true) : (c.toNat != 36 && c.toNat != 10) = true := by
  unfold letterB at h
  simp at h ⊢
  omega

theorem body_of_step {names : List (List UInt8)} {l : List UInt8} {k e : Nat} (hk : k < l.length) (h : stepAt names l k = some (e + 1)) :
    nameAt l k ∈ names ∧ l[e]? = some 36 ∧
      (((l.drop (k + 1)).take (e - (k + 1)) = nameAt l k) ∨ ∃ t, (l.drop (k + 1)).take (e - (k + 1)) = nameAt l k ++ 58 :: t ∧ ∀ c ∈ t, (c.toNat != 36 && c.toNat != 10) = true) := by
  unfold stepAt at h
  split at h
  · rename_i hc
    injection h with h
    have he : occAt l (endNameL l (k + 1)) = e := by omega
    refine ⟨hc.1, ?_, ?_⟩
    · have := hc.2
      unfold occOk at this
      rw [he] at this
      exact eq_of_beq this
    · unfold occAt at he
      obtain ⟨n1, n2⟩ := nameAt_le l k hk
      split at he
      · rename_i h58
        right
        refine ⟨(l.drop (endNameL l (k + 1) + 1)).takeWhile (fun c => c.toNat != 36 && c.toNat != 10), ?_, fun c hc => mem_takeWhile (p := fun c : UInt8 => c.toNat != 36 && c.toNat != 10) hc⟩
        have hsk := skipL_take l (endNameL l (k + 1) + 1)
        rw [he] at hsk
        have hge := skipL_ge l (endNameL l (k + 1) + 1)
        rw [he] at hge
        rw [← hsk]
        have h58' : endNameL l (k + 1) < l.length := (List.getElem?_eq_some_iff.1 h58).1
        have hd : l.drop (k + 1) = nameAt l k ++ 58 :: l.drop (endNameL l (k + 1) + 1) := by
          have h1 : l.drop (k + 1) = nameAt l k ++ (l.drop (k + 1)).drop (endNameL l (k + 1) - (k + 1)) := by unfold nameAt; rw [List.take_append_drop]
          rw [List.drop_drop, show k + 1 + (endNameL l (k + 1) - (k + 1)) = endNameL l (k + 1) by omega, List.drop_eq_getElem_cons h58'] at h1
          have h2 : l[endNameL l (k + 1)] = 58 := by rw [List.getElem?_eq_getElem h58'] at h58; injection h58
          rwa [h2] at h1
        rw [hd, List.take_append, nameAt_length l k hk, List.take_of_length_le (by rw [nameAt_length l k hk]; omega)]
        congr 1
        obtain ⟨m, hm⟩ : ∃ m, e - (k + 1) - (endNameL l (k + 1) - (k + 1)) = m + 1 := ⟨e - endNameL l (k + 1) - 1, by omega⟩
        rw [hm, List.take_succ_cons]
        congr 2
        omega
      · left
        rw [← he]
        rfl
  · cases h

theorem occ_props (names : List (List UInt8)) (b : List UInt8) (pre rest : List Occ) (x : Occ) (h : occs names b 0 = pre ++ x :: rest) :
    b[x.1]? = some 36 ∧ b[x.2.1]? = some 36 ∧ x.2.2 ∈ names ∧ (∀ c ∈ x.2.2, letterB c.toNat = true) ∧
      (bodyOf b x = x.2.2 ∨ ∃ t, bodyOf b x = x.2.2 ++ 58 :: t ∧ ∀ c ∈ t, (c.toNat != 36 && c.toNat != 10) = true) := by
  obtain ⟨_, _, h3, h4, h36, h5, hs⟩ := occF_split names b _ 0 pre rest x h
  obtain ⟨a1, a2, a3⟩ := body_of_step (by omega) hs
  rw [← h5] at a1 a3
  exact ⟨h36, a2, a1, by rw [h5]; exact nameAt_letters b x.1, a3⟩

theorem occ_body_ok (names : List (List UInt8)) (b : List UInt8) (pre rest : List Occ) (x : Occ) (h : occs names b 0 = pre ++ x :: rest) : ∀ c ∈ bodyOf b x, (c.toNat != 36 && c.toNat != 10) = true := by
  obtain ⟨_, _, _, hl, hb⟩ := occ_props names b pre rest x h
  intro c hc
  rcases hb with hb | ⟨t, hb, ht⟩
  · rw [hb] at hc; exact letter_ok c (hl c hc)
  · rw [hb, List.mem_append] at hc
    rcases hc with hc | hc
    · exact letter_ok c (hl c hc)
    · rcases List.mem_cons.1 hc with rfl | hc
      · decide
      · exact ht c hc

/-- The place behind the last of the given occurrences. -/
def behind (os : List Occ) : Nat := (os.getLast?.map fun o => o.2.1 + 1).getD 0
theorem behind_snoc (os : List Occ) (o : Occ) : behind (os ++ [o]) = o.2.1 + 1 := by simp [behind]
theorem occ_order (names : List (List UInt8)) (b : List UInt8) (pre rest : List Occ) (x : Occ) (h : occs names b 0 = pre ++ x :: rest) (hne : ∀ n ∈ names, n ≠ []) :
    behind pre ≤ x.1 ∧ x.1 + 1 < x.2.1 ∧ x.2.1 < b.length ∧ (bodyOf b x).length = x.2.1 - (x.1 + 1) := by
  obtain ⟨h1, _, h3, h4, _⟩ := occF_split names b _ 0 pre rest x h
  obtain ⟨_, _, hin, _, hb⟩ := occ_props names b pre rest x h
  have hlen : (bodyOf b x).length = x.2.1 - (x.1 + 1) := by unfold bodyOf; rw [List.length_take, List.length_drop]; omega
  have hpos : 0 < x.2.2.length := List.length_pos_iff.2 (hne _ hin)
  refine ⟨?_, ?_, h4, hlen⟩
  · unfold behind
    cases hl : pre.getLast? with
    | none => simp
    | some y => simpa using h1 y hl
  · rcases hb with hb | ⟨t, hb, _⟩
    · rw [hb] at hlen; omega
    · rw [hb, List.length_append] at hlen; omega

end Go.Proofs.YtfifalpacagacaaDoor.kw
