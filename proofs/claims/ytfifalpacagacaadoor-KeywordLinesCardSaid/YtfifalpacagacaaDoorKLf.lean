/- Plain: collapsing keywords and translating the ends of lines commute. -/
import Derived.Test.YtfifalpacagacaaDoorKSeg2
import Derived.Test.YtfifalpacagacaaDoorLines
namespace Go.Proofs.YtfifalpacagacaaDoor.kw
open Go.RowKit
set_option linter.unusedVariables false
set_option linter.unusedSimpArgs false

theorem mem36_lf (s : List UInt8) : (36 : UInt8) ∈ toLF s ↔ (36 : UInt8) ∈ s := by
  induction s using toLF.induct with
  | case1 => rfl
  | case2 c => rfl
  | case3 c d l h ih =>
    obtain ⟨rfl, rfl⟩ := h
    rw [toLF, if_pos ⟨rfl, rfl⟩]
    simp [ih]
  | case4 c d l h ih =>
    rw [toLF, if_neg h, List.mem_cons, ih, List.mem_cons (l := d :: l)]
theorem upto_lf (s : List UInt8) : ((10 : UInt8) ∉ upto s → upto (toLF s) = upto s) ∧ ((10 : UInt8) ∈ upto s → (10 : UInt8) ∈ upto (toLF s)) := by
  induction s using toLF.induct with
  | case1 => exact ⟨fun _ => rfl, id⟩
  | case2 c => exact ⟨fun _ => rfl, id⟩
  | case3 c d l h ih =>
    obtain ⟨rfl, rfl⟩ := h
    rw [toLF, if_pos ⟨rfl, rfl⟩, upto_cons (by decide), upto_cons (by decide), upto_cons (by decide)]
    exact ⟨fun h => absurd (by simp) h, fun _ => by simp⟩
  | case4 c d l h ih =>
    rw [toLF, if_neg h]
    by_cases hc : c = 36
    · subst hc
      rw [upto_cons36, upto_cons36]
      exact ⟨fun _ => rfl, id⟩
    · rw [upto_cons hc, upto_cons hc]
      refine ⟨fun h => ?_, fun h => ?_⟩
      · rw [List.mem_cons, not_or] at h
        rw [ih.1 h.2]
      · rcases List.mem_cons.1 h with e | h
        · exact List.mem_cons.2 (.inl e)
        · exact List.mem_cons_of_mem _ (ih.2 h)
theorem stepP_ten {names : List (List UInt8)} {pre : List UInt8} {d : Bool} (h : (10 : UInt8) ∈ pre) : stepP names pre d = none := by
  unfold stepP
  simp only
  have hr : (10 : UInt8) ∈ pre.drop (pre.takeWhile (fun c => letterB c.toNat)).length := by
    have e : pre = pre.takeWhile (fun c => letterB c.toNat) ++ pre.drop (pre.takeWhile (fun c => letterB c.toNat)).length := by
      have := List.takeWhile_append_dropWhile (p := fun c : UInt8 => letterB c.toNat) (l := pre)
      conv => lhs; rw [← this]
      congr 1
      conv => rhs; rw [← this]
      rw [List.drop_left' (by rw [this])]
    rw [e, List.mem_append] at h
    rcases h with h | h
    · have h2 := mem_takeWhile h
      exact absurd h2 (by decide)
    · exact h
  rw [if_neg]
  rintro ⟨-, -, h1 | h1⟩
  · rw [h1] at hr; simp at hr
  · exact h1.2 hr
theorem stepS_lf (names : List (List UInt8)) (s : List UInt8) : stepS names (toLF s) = stepS names s := by
  unfold stepS
  rw [show decide ((36 : UInt8) ∈ toLF s) = decide ((36 : UInt8) ∈ s) by simp [mem36_lf]]
  by_cases h : (10 : UInt8) ∈ upto s
  · rw [stepP_ten h, stepP_ten ((upto_lf s).2 h)]
  · rw [(upto_lf s).1 h]
theorem step_no_ten {names : List (List UInt8)} {s nm : List UInt8} (h : stepS names s = some nm) : (10 : UInt8) ∉ upto s := by
  intro h10
  unfold stepS at h
  rw [stepP_ten h10] at h
  cases h
theorem toLF_app {u : List UInt8} (h : (10 : UInt8) ∉ u) (r : List UInt8) : toLF (u ++ 36 :: r) = u ++ 36 :: toLF r := by
  induction u with
  | nil => exact toLF_past (by simp)
  | cons c u ih =>
    rw [List.mem_cons, not_or] at h
    rw [List.cons_append, toLF_past, ih h.2]; rfl
    rintro ⟨-, h2⟩
    cases u with
    | nil => simp at h2
    | cons d u =>
      simp at h2
      exact h.2 (by simp [h2])
theorem toLF_pre {t : List UInt8} (h : ∀ c ∈ t, c ≠ 13) (r : List UInt8) : toLF (t ++ r) = t ++ toLF r := by
  induction t with
  | nil => rfl
  | cons c t ih =>
    rw [List.cons_append, toLF_past (fun e => h c (by simp) e.1), ih (fun c hc => h c (by simp [hc]))]; rfl

theorem show_cons_byte (txt : List UInt8 → List UInt8) (c : UInt8) (l : List Seg) : showL txt (.byte c :: l) = c :: showL txt l := rfl
theorem show_cons_occ (txt : List UInt8 → List UInt8) (nm raw : List UInt8) (l : List Seg) : showL txt (.occ nm raw :: l) = txt nm ++ showL txt l := rfl
theorem scan_other {names : List (List UInt8)} {c : UInt8} (h : c ≠ 36) (s : List UInt8) : scan names (c :: s) = .byte c :: scan names s := by rw [scan_cons, if_neg h]
theorem show_head {names : List (List UInt8)} {txt : List UInt8 → List UInt8} (ht : ∀ nm ∈ names, (∀ c ∈ txt nm, c ≠ 13) ∧ (txt nm).head? = some 36) {s : List UInt8} (h : s.head? ≠ some 10) : (showL txt (scan names s)).head? ≠ some 10 := by
  cases s with
  | nil => simp [scan_nil, showL]
  | cons c s =>
    rw [scan_cons]
    split
    · rename_i hc
      split
      · rename_i nm hst
        rw [show_cons_occ]
        have := (ht nm (stepS_mem hst).2).2
        rw [List.head?_append, this]; simp
      · rw [show_cons_byte]; simpa using h
    · rw [show_cons_byte]; simpa using h

theorem lf_show {names : List (List UInt8)} {txt : List UInt8 → List UInt8} (ht : ∀ nm ∈ names, (∀ c ∈ txt nm, c ≠ 13) ∧ (txt nm).head? = some 36) (s : List UInt8) :
    showL txt (scan names (toLF s)) = toLF (showL txt (scan names s)) := by
  induction hn : s.length using Nat.strongRecOn generalizing s with
  | _ n ih =>
    cases s with
    | nil => rfl
    | cons c s =>
      simp only [List.length_cons] at hn
      have hs := ih s.length (by omega) s rfl
      by_cases hc : c = 36
      · subst hc
        rw [toLF_past (by simp), scan_cons, if_pos rfl, scan_cons, if_pos rfl, stepS_lf]
        cases hst : stepS names s with
        | none =>
          simp only
          rw [show_cons_byte, show_cons_byte, hs, toLF_past (by simp)]
        | some nm =>
          simp only
          have h10 := step_no_ten hst
          have hd := ih (s.drop ((upto s).length + 1)).length (by rw [List.length_drop]; omega) _ rfl
          have e1 : (toLF s).drop ((upto (toLF s)).length + 1) = toLF (s.drop ((upto s).length + 1)) := by
            rw [(upto_lf s).1 h10]
            have e2 : toLF s = upto s ++ 36 :: toLF (s.drop ((upto s).length + 1)) := by
              conv => lhs; rw [upto_split (stepS_mem hst).1]
              exact toLF_app h10 _
            rw [e2, List.drop_append, List.drop_of_length_le (by omega)]
            simp
          rw [show_cons_occ, show_cons_occ, e1, hd, toLF_pre (ht nm (stepS_mem hst).2).1]
      · rw [scan_other hc, show_cons_byte]
        by_cases h13 : c = 13 ∧ s.head? = some 10
        · obtain ⟨rfl, h10⟩ := h13
          cases s with
          | nil => simp at h10
          | cons d r =>
            simp at h10
            subst h10
            simp only [List.length_cons] at hn
            have hr := ih r.length (by omega) r rfl
            rw [scan_other (by decide), show_cons_byte, toLF, if_pos ⟨rfl, rfl⟩, toLF, if_pos ⟨rfl, rfl⟩, scan_other (by decide), show_cons_byte, hr]
        · rw [toLF_past h13, scan_other hc, show_cons_byte, hs, toLF_past]
          rintro ⟨e, h2⟩
          exact show_head ht (fun h => h13 ⟨e, h⟩) h2
end Go.Proofs.YtfifalpacagacaaDoor.kw
