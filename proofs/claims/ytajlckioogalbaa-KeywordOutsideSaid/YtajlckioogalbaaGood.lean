/- Plain: the texts that Collapse and Expand put in read as occurrences of the same names; how long a replaced text is. -/
import Derived.Test.YtajlckioogalbaaSeg2
import Derived.Test.YtajlckioogalbaaExp
namespace Go.Proofs.Ytajlckioogalbaa
open Go.RowKit

theorem stepP_good {names : List (List UInt8)} {nm body : List UInt8} (hin : nm ∈ names) (hlet : ∀ c ∈ nm, letterB c.toNat = true) (hb : body = [] ∨ (body.head? = some 58 ∧ (10 : UInt8) ∉ body)) : stepP names (nm ++ body) true = some nm := by
  have htw : (nm ++ body).takeWhile (fun c => letterB c.toNat) = nm := by
    refine takeWhile_pre hlet (fun c hc => ?_)
    rcases hb with rfl | ⟨hb, -⟩
    · simp at hc
    · rw [← List.head?_eq_getElem?, hb] at hc
      injection hc with hc
      subst hc; decide
  unfold stepP
  simp only [htw, List.drop_left]
  rw [if_pos ⟨hin, trivial, hb⟩]

theorem good_coll (words : List (ByteArray × ByteArray)) {names : List (List UInt8)} (hlet : ∀ nm ∈ names, ∀ c ∈ nm, letterB c.toNat = true) : Good names (txtL words fun nm _ => colText nm) := by
  intro nm hin
  refine ⟨[], ?_, ?_, ?_⟩
  · simp [txtL, colText]
  · intro c hc; rw [List.append_nil] at hc; exact letter_ne36 (hlet nm hin c hc)
  · exact stepP_good hin (hlet nm hin) (.inl rfl)

theorem val_ok {words : List (ByteArray × ByteArray)} (h : wordsOkB words = true) (nm : ByteArray) : ∀ c ∈ (valOf words nm).data.toList, c ≠ 36 ∧ c ≠ 10 := by
  unfold valOf
  cases hf : words.find? (fun p => nm == p.1) with
  | none => simp
  | some p =>
    have hp := List.mem_of_find?_eq_some hf
    unfold wordsOkB at h
    simp only [Bool.and_eq_true] at h
    have hv := List.all_eq_true.1 h.1 p hp
    unfold valueS valueB at hv
    simp only [Bool.and_eq_true] at hv
    intro c hc
    have := List.all_eq_true.1 hv.1 c hc
    simp only [decide_eq_true_eq] at this
    constructor
    · rintro rfl; exact this.2.2 rfl
    · rintro rfl; exact absurd this.1 (by decide)

theorem good_exp {words : List (ByteArray × ByteArray)} (h : wordsOkB words = true) : Good (namesOf words) (txtL words fun nm val => expText (nm, val)) := by
  have hlet := words_letters h
  rw [← namesOf_fst] at hlet
  intro nm hin
  have hv := val_ok h ⟨nm.toArray⟩
  refine ⟨58 :: 32 :: ((valOf words ⟨nm.toArray⟩).data.toList ++ [32]), ?_, ?_, ?_⟩
  · simp [txtL, expText]
  · intro c hc
    rw [List.mem_append] at hc
    rcases hc with hc | hc
    · exact letter_ne36 (hlet nm hin c hc)
    · simp only [List.mem_cons, List.mem_append, List.not_mem_nil, or_false] at hc
      rcases hc with rfl | rfl | hc | rfl
      · decide
      · decide
      · exact (hv c hc).1
      · decide
  · refine stepP_good hin (hlet nm hin) (.inr ⟨rfl, ?_⟩)
    intro hc
    simp only [List.mem_cons, List.mem_append, List.not_mem_nil, or_false] at hc
    rcases hc with hc | hc | hc | hc
    · exact absurd hc (by decide)
    · exact absurd hc (by decide)
    · exact (hv 10 hc).2 rfl
    · exact absurd hc (by decide)

/-- A replaced text's length. -/
theorem repl_len {names : List (List UInt8)} {b : List UInt8} {txt : List UInt8 → List UInt8} {T : Nat} (ht : ∀ o ∈ occs names b 0, (txt o.2.2).length ≤ T) : (replL b txt (occs names b 0)).length ≤ b.length + b.length * T := by
  obtain ⟨z1, z2⟩ := replSt_len b txt T names [] (occs names b 0) (by simp) ht
  have h1 := occs_length names b 0
  have h2 : (occs names b 0).length * T ≤ b.length * T := Nat.mul_le_mul_right _ h1
  unfold replL
  rw [List.length_append, List.length_drop]
  omega

theorem valOf_le {words : List (ByteArray × ByteArray)} {n : Nat} (h : ∀ s ∈ words, s.2.size ≤ n) (nm : ByteArray) : (valOf words nm).size ≤ n := by
  unfold valOf
  cases hf : words.find? (fun p => nm == p.1) with
  | none => simp [ByteArray.size]
  | some p => exact h p (List.mem_of_find?_eq_some hf)
theorem exp_len {b : List UInt8} {words : List (ByteArray × ByteArray)} (hb : b.length ≤ 1500) (h : ∀ s ∈ words, s.1.size ≤ 60 ∧ s.2.size ≤ 1100) : (replL b (txtL words fun nm val => expText (nm, val)) (occs (namesOf words) b 0)).length ≤ 2000000 := by
  have := repl_len (names := namesOf words) (b := b) (txt := txtL words fun nm val => expText (nm, val)) (T := 1165) (fun o ho => by
    have hm := occ_mem_names ho
    obtain ⟨p, hp, he⟩ := List.mem_map.1 hm
    have h1 := (h p hp).1
    have h2 := valOf_le (fun s hs => (h s hs).2) ⟨o.2.2.toArray⟩
    have h3 : (⟨o.2.2.toArray⟩ : ByteArray).size = p.1.size := by rw [← he]
    show (expText (⟨o.2.2.toArray⟩, valOf words ⟨o.2.2.toArray⟩)).size ≤ 1165
    rw [expText_size]
    simp only
    omega)
  have h4 : b.length * 1165 ≤ 1500 * 1165 := Nat.mul_le_mul_right _ hb
  omega
theorem coll_len {b : List UInt8} {names : List (List UInt8)} (words : List (ByteArray × ByteArray)) (hb : b.length ≤ 1500) (h : ∀ s ∈ names, s.length ≤ 60) : (replL b (txtL words fun nm _ => colText nm) (occs names b 0)).length ≤ 2000000 := by
  have := repl_len (names := names) (b := b) (txt := txtL words fun nm _ => colText nm) (T := 1165) (fun o ho => by
    have hm := h _ (occ_mem_names ho)
    have h3 : (⟨o.2.2.toArray⟩ : ByteArray).size = o.2.2.length := by simp [ByteArray.size]
    show (colText ⟨o.2.2.toArray⟩).size ≤ 1165
    rw [colText_size, h3]
    omega)
  have h4 : b.length * 1165 ≤ 1500 * 1165 := Nat.mul_le_mul_right _ hb
  omega

end Go.Proofs.Ytajlckioogalbaa
