/- isTarget and Target. -/
import Derived.Test.YtfifalpacagacaaDoorTarget
import Derived.Test.YtfifalpacagacaaDoorBase
namespace Go.Proofs.YtfifalpacagacaaDoor
open Go.RowKit
set_option linter.unusedVariables false

theorem indexAny_long (s : ByteArray) (w : World) (h8 : 8 < s.size) (hs : s.size < 4294967281) :
    Calls Tryd.prog 83 #[.string s, .string nul10] w fun e w' => e = .returned (.int .i64 (Lib.indexAny s.data.toList [0, 10])) ∧ Below w.heap.size w w' := by
  refine (Tryd.strings_IndexAny_long (fun w => by kernel_rfl) s nul10 w (by decide) h8 hs (by decide) (by
    intro j b h
    have : j = 0 ∨ j = 1 ∨ 2 ≤ j := by omega
    rcases this with rfl | rfl | hj
    · have : (0 : UInt8) = b := by simpa [nul10] using h
      subst this; decide
    · have : (10 : UInt8) = b := by simpa [nul10] using h
      subst this; decide
    · exact absurd h (by rw [List.getElem?_eq_none (by simpa [nul10] using hj)]; simp))).mono ?_
  rintro e w' ⟨rfl, rfl⟩
  exact ⟨rfl, ((Below.refl _ _).alloc (Nat.le_refl _) _).alloc (by simp) _⟩
theorem indexAny_any (s : ByteArray) (w : World) (hs : s.size < 4294967281) :
    Calls Tryd.prog 83 #[.string s, .string nul10] w fun e w' => e = .returned (.int .i64 (Lib.indexAny s.data.toList [0, 10])) ∧ Below w.heap.size w w' := by
  by_cases h : s.size ≤ 8
  · exact indexAny_short s w h
  · exact indexAny_long s w (by omega) hs

theorem containsAny_any (s : ByteArray) (w : World) (hs : s.size < 4294967281) :
    Calls Tryd.prog 66 #[.string s, .string ⟨#[0, 10]⟩] w fun e w' => e = .returned (.bool (anyB s)) ∧ Below w.heap.size w w' := by
  have H := Lib.hid (indexAny_any s w hs)
  unfold nul10 at H
  go_enter Tryd.func66, Tryd.ntmps66
  go_wp2_with fail
  refine H.out.mono ?_
  rintro e w' ⟨rfl, hb⟩
  go_wp2_with fail
  go_ret
  exact ⟨rfl, hb⟩

theorem targetB_nil {s : ByteArray} (h : s.size = 0) : targetB s = false := by
  have hl : s.data.toList = [] := List.eq_nil_of_length_eq_zero (by simpa using h)
  unfold targetB; rw [hl]; rfl
theorem targetB_long {s : ByteArray} (h : 200 < s.size) : targetB s = false := by
  unfold targetB
  have : decide (s.size ≤ 200) = false := by simp; omega
  rw [this]; simp
theorem targetB_mid {s : ByteArray} (h : 0 < s.size) (h2 : s.size ≤ 200) : targetB s = !anyB s := by
  unfold targetB
  have h1 : decide (s.size ≤ 200) = true := by simp; omega
  have h3 : s.data.toList.isEmpty = false := by
    have : 0 < s.data.toList.length := by simpa using h
    cases hl : s.data.toList <;> simp_all
  rw [h1, h3]; simp

set_option maxHeartbeats 1000000 in
theorem isTarget_any (s : ByteArray) (w : World) (hs : s.size ≤ maxLen) :
    Calls Tryd.prog 46 #[.string s] w fun e w' => e = .returned (.bool (targetB s)) ∧ Below w.heap.size w w' := by
  unfold maxLen at hs
  rcases Nat.eq_zero_or_pos s.size with h0 | h0
  · have hne : s.toList = [] := by rw [ByteArray.toList_eq]; exact List.eq_nil_of_length_eq_zero (by simpa using h0)
    have hne2 : s.toList.isEmpty = true := by rw [hne]; rfl
    have H0 := Lib.hid (targetB_nil h0)
    clear h0
    go_enter Tryd.func46, Tryd.ntmps46
    go_wp2_with fail
    go_ret
    exact ⟨ret_bool H0.out.symm, Below.refl _ _⟩
  · obtain ⟨c, t, hd, hc⟩ := size_pos_of h0
    have hne : s.toList.isEmpty = false := by rw [ByteArray.toList_eq, hd]; rfl
    have hne2 : ¬ s.toList = [] := by rw [ByteArray.toList_eq, hd]; simp
    clear hd hc
    by_cases h2 : s.size ≤ 200
    · have hd : decide ((s.size : Int) ≤ 200) = true := by simp; omega
      have H := Lib.hid (containsAny_any s w (by omega))
      have HT := Lib.hid (targetB_mid h0 h2)
      go_enter Tryd.func46, Tryd.ntmps46
      go_wp2_with fail
      refine H.out.mono ?_
      rintro e w' ⟨rfl, hb⟩
      go_wp2_with fail
      go_ret
      exact ⟨ret_bool HT.out.symm, hb⟩
    · have hd : decide ((s.size : Int) ≤ 200) = false := by simp; omega
      have HT := Lib.hid (targetB_long (s := s) (by omega))
      go_enter Tryd.func46, Tryd.ntmps46
      go_wp2_with fail
      go_ret
      exact ⟨ret_bool HT.out.symm, Below.refl _ _⟩

theorem anyB_or (l : List UInt8) : Lib.containsAny l [0, 10] = (l.contains 0 || l.contains 10) := by
  unfold Lib.containsAny
  induction l with
  | nil => rfl
  | cons b l ih =>
    unfold Lib.indexAny
    have hge := Lib.indexAny_ge [0, 10] l
    by_cases h0 : b = 0
    · subst h0; simp
    · by_cases h1 : b = 10
      · subst h1; simp
      · have hc : ([0, 10] : List UInt8).contains b = false := by simp [h0, h1]
        rw [hc, List.contains_cons, List.contains_cons]
        have e0 : ((0 : UInt8) == b) = false := by simpa using fun e => h0 e.symm
        have e1 : ((10 : UInt8) == b) = false := by simpa using fun e => h1 e.symm
        rw [e0, e1, Bool.false_or, Bool.false_or, ← ih]
        simp only [Bool.false_eq_true, if_false]
        by_cases hm : Lib.indexAny l [0, 10] = -1
        · rw [hm]; rfl
        · rw [if_neg (by simpa using hm)]
          congr 1
          simp only [eq_iff_iff]; omega

theorem con_one (s : ByteArray) (c : UInt8) (w : World) : Calls Tryd.prog 70 #[.string s, .string ⟨#[c]⟩] w fun e w' => e = .returned (.bool (s.data.toList.contains c)) ∧ w = w' := by
  refine (Tryd.strings_Contains_one s c w).mono ?_
  rintro e w' ⟨rfl, rfl⟩
  exact ⟨by rw [Lib.contains_iff_indexByte], rfl⟩

set_option maxHeartbeats 1000000 in
theorem refTarget_any (s : ByteArray) (w : World) (hs : s.size ≤ maxLen) :
    Calls Tryd.prog 52 #[.string s] w fun e w' => e = .returned (.bool (targetB s)) ∧ w = w' := by
  unfold maxLen at hs
  rcases Nat.eq_zero_or_pos s.size with h0 | h0
  · have hne : s.toList = [] := by rw [ByteArray.toList_eq]; exact List.eq_nil_of_length_eq_zero (by simpa using h0)
    have hne2 : s.toList.isEmpty = true := by rw [hne]; rfl
    have H0 := Lib.hid (targetB_nil h0)
    clear h0
    go_enter Tryd.func52, Tryd.ntmps52
    go_wp2_with fail
    go_ret
    exact ⟨ret_bool H0.out.symm, rfl⟩
  · obtain ⟨c, t, hd, hc⟩ := size_pos_of h0
    have hne : s.toList.isEmpty = false := by rw [ByteArray.toList_eq, hd]; rfl
    have hne2 : ¬ s.toList = [] := by rw [ByteArray.toList_eq, hd]; simp
    clear hd hc
    by_cases h2 : s.size ≤ 200
    · have hd : decide ((s.size : Int) ≤ 200) = true := by simp; omega
      have HT := Lib.hid ((targetB_mid h0 h2).trans (by unfold anyB; rw [anyB_or]))
      cases hc0 : s.data.toList.contains 0
      · have H1 := con_one s 0 w
        rw [hc0] at H1 HT
        have HH1 := Lib.hid H1
        clear H1 hc0
        go_enter Tryd.func52, Tryd.ntmps52
        go_wp2_with fail
        refine HH1.out.mono ?_
        rintro e w' ⟨rfl, rfl⟩
        go_wp2_with fail
        refine (con_one _ _ _).mono ?_
        rintro e w' ⟨rfl, rfl⟩
        go_wp2_with fail
        go_ret
        exact ⟨ret_bool (by rw [HT.out]; simp), rfl⟩
      · have H1 := con_one s 0 w
        rw [hc0] at H1 HT
        have HH1 := Lib.hid H1
        clear H1 hc0
        go_enter Tryd.func52, Tryd.ntmps52
        go_wp2_with fail
        refine HH1.out.mono ?_
        rintro e w' ⟨rfl, rfl⟩
        go_wp2_with fail
        go_ret
        exact ⟨ret_bool (by rw [HT.out]; simp), rfl⟩
    · have hd : decide ((s.size : Int) ≤ 200) = false := by simp; omega
      have HT := Lib.hid (targetB_long (s := s) (by omega))
      go_enter Tryd.func52, Tryd.ntmps52
      go_wp2_with fail
      go_ret
      exact ⟨ret_bool HT.out.symm, rfl⟩

end Go.Proofs.YtfifalpacagacaaDoor
