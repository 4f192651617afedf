/- Leaves: strings.HasPrefix, path.Valid, path.Compare, the comparisons, filetype.Check. -/
import Derived.Test.YtnblfaagchflaaaGreatDoorMgw1
import Derived.Test.YtnblfaagchflaaaGreatDoorMgw0
import Derived.Lib.Strings
import Derived.Deep.RegionHeld3
import Derived.Deep.MidRow
namespace Go.Proofs.YtnblfaagchflaaaGreatDoor
open Go.RowKit
set_option linter.unusedVariables false
set_option linter.unusedSimpArgs false

theorem hasPrefix_size {s : ByteArray} (h : Lib.hasPrefix s.data.toList [47, 47] = true) : 2 ≤ s.size := by
  have : s.data.toList.length = s.size := rfl
  rw [← this]
  cases hl : s.data.toList with
  | nil => rw [hl] at h; cases h
  | cons a l => cases l with
    | nil => rw [hl] at h; unfold Lib.hasPrefix at h; simp at h
    | cons b l => simp


theorem pre_eq (s p : ByteArray) (h : p.size ≤ s.size) : (s.extract 0 p.size == p) = Lib.hasPrefix s.data.toList p.data.toList := by
  have e1 : (s.extract 0 p.size).data.toList = s.data.toList.take p.size := by rw [Lib.extract_data]; simp
  rw [Bool.eq_iff_iff, beq_iff_eq]
  unfold Lib.hasPrefix
  rw [List.isPrefixOf_iff_prefix]
  have hpl : p.data.toList.length = p.size := rfl
  constructor
  · intro e
    have : p.data.toList = s.data.toList.take p.size := by rw [← e1, e]
    rw [this]; exact List.take_prefix _ _
  · intro e
    have := List.prefix_iff_eq_take.1 e
    rw [hpl] at this
    have h2 : (s.extract 0 p.size).data.toList = p.data.toList := by rw [e1, ← this]
    cases hs : s.extract 0 p.size with | mk x => cases p with | mk y =>
      rw [hs] at h2
      congr 1
      exact Array.toList_inj.1 h2
theorem pre_short (s p : ByteArray) (h : ¬ p.size ≤ s.size) : Lib.hasPrefix s.data.toList p.data.toList = false := by
  unfold Lib.hasPrefix
  rw [Bool.eq_false_iff]
  intro e
  have := (List.isPrefixOf_iff_prefix.1 e).length_le
  have h1 : p.data.toList.length = p.size := rfl
  have h2 : s.data.toList.length = s.size := rfl
  omega
set_option maxHeartbeats 1000000 in
theorem hasP (s p : ByteArray) (w : World) (b : Bool) (h : Lib.hasPrefix s.data.toList p.data.toList = b) : Calls Tryz.prog 51 #[.string s, .string p] w fun e w' => e = .returned (.bool b) ∧ w = w' := by
  by_cases hl : p.size ≤ s.size
  · have hq : ((s.extract 0 p.size).toList == p.toList) = b := by
      rw [← h, ← pre_eq s p hl, ByteArray.toList_eq, ByteArray.toList_eq, Bool.eq_iff_iff, beq_iff_eq, beq_iff_eq]
      constructor
      · intro e
        cases hs : s.extract 0 p.size with | mk x => cases p with | mk y =>
          rw [hs] at e; congr 1; exact Array.toList_inj.1 e
      · intro e; rw [e]
    have d1 : decide ((p.size : Int) ≤ (s.size : Int)) = true := by simp; omega
    clear h
    go_enter Tryz.func51, Tryz.ntmps51
    go_wp2
    go_ret
    exact ⟨rfl, rfl⟩
  · have hb := pre_short s p hl
    rw [h] at hb
    subst hb
    have d1 : decide ((p.size : Int) ≤ (s.size : Int)) = false := by simp; omega
    clear h
    go_enter Tryz.func51, Tryz.ntmps51
    go_wp2
    go_ret
    exact ⟨rfl, rfl⟩

theorem ret_int {k : IntKind} {a b : Int} (h : a = b) : Ending.returned (.int k a) = .returned (.int k b) := by rw [h]

set_option maxHeartbeats 1000000 in
theorem check_any (b : Int) (k l x : Bool) (w : World) :
    Calls Tryz.prog 129 #[.agg #[.int .i64 b, .bool k, .bool l, .bool x]] w fun e w' => e = .returned (.int .i64 (errOf 90 (tyOk b k x))) ∧ Below w.heap.size w w' := by
  by_cases h1 : b = 1
  · subst h1
    go_enter Tryz.func129, Tryz.ntmps129
    go_wp2
    go_ret
    exact ⟨rfl, (Below.refl _ _).alloc (Nat.le_refl _) _⟩
  · by_cases h2 : b = 2
    · subst h2
      cases k
      all_goals
        go_enter Tryz.func129, Tryz.ntmps129
        go_wp2
        go_ret
        exact ⟨rfl, (Below.refl _ _).alloc (Nat.le_refl _) _⟩
    · by_cases h3 : b = 3
      · subst h3
        cases k <;> cases x
        all_goals
          go_enter Tryz.func129, Tryz.ntmps129
          go_wp2
          go_ret
          exact ⟨rfl, (Below.refl _ _).alloc (Nat.le_refl _) _⟩
      · have H : Hid (tyOk b k x = false) := Lib.hid (by unfold tyOk; simp [h1, h2, h3])
        have g1 : (b == 1) = false := by simpa using h1
        have g2 : (b == 2) = false := by simpa using h2
        have g3 : (b == 3) = false := by simpa using h3
        go_enter Tryz.func129, Tryz.ntmps129
        go_wp2
        go_ret
        exact ⟨ret_int (by rw [H.out]; rfl), (Below.refl _ _).alloc (Nat.le_refl _) _⟩

abbrev Comps := List (List UInt8)
/-- What holds at the head of each round of Valid's loop. -/
def VRel (l : List UInt8) (i b c : Nat) : Prop :=
  2 ≤ b ∧ b ≤ i ∧ i ≤ l.length + 1 ∧ ∃ done : Comps, done.length = c ∧ done.all compL = true ∧
    ((i ≤ l.length ∧ splitL (l.drop 2) = done ++ splitL (l.drop b) ∧ (47 : UInt8) ∉ (l.drop b).take (i - b)) ∨ (i = l.length + 1 ∧ splitL (l.drop 2) = done))

theorem VRel.start {l : List UInt8} (h : 2 ≤ l.length) : VRel l 2 2 0 := ⟨by omega, by omega, by omega, [], rfl, rfl, .inl ⟨h, rfl, by simp⟩⟩
theorem VRel.next {l : List UInt8} {i b c : Nat} (h : VRel l i b c) (hi : i < l.length) (hne : l[i] ≠ 47) : VRel l (i + 1) b c := by
  obtain ⟨h1, h2, h3, done, h4, h5, h6⟩ := h
  refine ⟨h1, by omega, by omega, done, h4, h5, ?_⟩
  rcases h6 with ⟨h6, h7, h8⟩ | ⟨h6, -⟩
  · refine .inl ⟨by omega, h7, ?_⟩
    rw [show i + 1 - b = (i - b) + 1 by omega, List.take_succ_eq_append_getElem (by rw [List.length_drop]; omega)]
    rw [List.mem_append, not_or]
    refine ⟨h8, ?_⟩
    have : (l.drop b)[i - b]'(by rw [List.length_drop]; omega) = l[i] := by rw [List.getElem_drop]; congr 1; omega
    rw [this]
    simpa using fun e => hne e.symm
  · omega
/-- The part that ends at i. -/
def partAt (l : List UInt8) (b i : Nat) : List UInt8 := (l.drop b).take (i - b)
theorem VRel.part {l : List UInt8} {i b c : Nat} (h : VRel l i b c) (hi : i ≤ l.length) (hend : ∀ h : i < l.length, l[i] = 47) :
    ∃ done : Comps, done.length = c ∧ done.all compL = true ∧ splitL (l.drop 2) = done ++ partAt l b i :: (if i < l.length then splitL (l.drop (i + 1)) else []) := by
  obtain ⟨h1, h2, h3, done, h4, h5, h6⟩ := h
  rcases h6 with ⟨h6, h7, h8⟩ | ⟨h6, -⟩
  · refine ⟨done, h4, h5, ?_⟩
    rw [h7]
    congr 1
    by_cases hlt : i < l.length
    · rw [if_pos hlt]
      have e : l.drop b = partAt l b i ++ 47 :: l.drop (i + 1) := by
        have hd : (l.drop b).drop (i - b) = 47 :: l.drop (i + 1) := by
          rw [List.drop_drop, show b + (i - b) = i by omega, List.drop_eq_getElem_cons hlt, hend hlt]
        rw [← hd]; exact (List.take_append_drop _ _).symm
      rw [e]
      exact splitL_app h8 _
    · rw [if_neg hlt]
      have e : partAt l b i = l.drop b := by unfold partAt; rw [List.take_of_length_le (by rw [List.length_drop]; omega)]
      rw [← e]
      exact splitL_free h8
  · omega
theorem VRel.step {l : List UInt8} {i b c : Nat} (h : VRel l i b c) (hi : i ≤ l.length) (hend : ∀ h : i < l.length, l[i] = 47) (hc : compL (partAt l b i) = true) : VRel l (i + 1) (i + 1) (c + 1) := by
  obtain ⟨done, h4, h5, h6⟩ := h.part hi hend
  obtain ⟨h1, h2, h3, -⟩ := h
  refine ⟨by omega, by omega, by omega, done ++ [partAt l b i], by simp [h4], by rw [List.all_append, h5]; simp [hc], ?_⟩
  by_cases hlt : i < l.length
  · rw [if_pos hlt] at h6
    exact .inl ⟨by omega, by rw [h6]; simp, by simp⟩
  · rw [if_neg hlt] at h6
    exact .inr ⟨by omega, h6⟩
theorem VRel.bad {l : List UInt8} {i b c : Nat} (h : VRel l i b c) (hi : i ≤ l.length) (hend : ∀ h : i < l.length, l[i] = 47) (hc : compL (partAt l b i) = false) : validB l = false := by
  obtain ⟨done, h4, h5, h6⟩ := h.part hi hend
  unfold validB dirL
  rw [if_neg]
  · rfl
  · rintro ⟨-, -, h⟩
    rw [h6, List.all_append] at h
    simp [hc] at h
theorem VRel.fin {l : List UInt8} {i b c : Nat} (h : VRel l i b c) (hi : ¬ i ≤ l.length) (hp : Lib.hasPrefix l [47, 47] = true) : validB l = decide (2 ≤ c) := by
  obtain ⟨h1, h2, h3, done, h4, h5, h6⟩ := h
  rcases h6 with ⟨h6, -⟩ | ⟨-, h6⟩
  · omega
  · unfold validB dirL
    rw [h6, h4]
    by_cases h2c : 2 ≤ c
    · rw [if_pos ⟨hp, h2c, h5⟩]; simp [h2c]
    · rw [if_neg (fun h => h2c h.2.1)]; simp [h2c]
theorem valid_noprefix {l : List UInt8} (h : Lib.hasPrefix l [47, 47] = false) : validB l = false := by
  unfold validB dirL
  rw [if_neg (fun hh => by rw [h] at hh; cases hh.1)]; rfl

theorem VRel.count {l : List UInt8} {i b c : Nat} (h : VRel l i b c) : c ≤ l.length + 1 := by
  obtain ⟨h1, h2, h3, done, h4, h5, h6⟩ := h
  have hs := splitL_length_le (l.drop 2)
  rw [List.length_drop] at hs
  rcases h6 with ⟨-, h6, -⟩ | ⟨-, h6⟩
  · rw [h6, List.length_append] at hs; omega
  · rw [h6] at hs; omega
theorem partAt_ext (p : ByteArray) (b i : Nat) : compS (p.extract b i) = compL (partAt p.data.toList b i) := by
  unfold compS partAt; rw [Lib.extract_data]
theorem ext_size (p : ByteArray) (b i : Nat) : (p.extract b i).size ≤ p.size := by
  have h1 : (p.extract b i).data.toList.length = (p.extract b i).size := rfl
  have h2 : p.data.toList.length = p.size := rfl
  rw [← h1, Lib.extract_data, List.length_take, List.length_drop]; omega

set_option maxHeartbeats 2000000 in
theorem valid_any (p : ByteArray) (w : World) (hp : p.size ≤ 140737488355328) :
    Calls Tryz.prog 23 #[.string p] w fun e w' => e = .returned (.bool (validB p.data.toList)) ∧ w = w' := by
  cases h1 : Lib.hasPrefix p.data.toList [47, 47]
  · have HV := Lib.hid (valid_noprefix h1)
    have HP := Lib.hid (hasP p ⟨#[47, 47]⟩ w false h1)
    clear h1
    go_enter Tryz.func23, Tryz.ntmps23
    go_wp2_with fail
    refine HP.out.mono ?_
    rintro e w' ⟨rfl, rfl⟩
    go_wp2_with fail
    go_ret
    exact ⟨ret_bool HV.out.symm, rfl⟩
  · have hsz := hasPrefix_size h1
    have HP := Lib.hid (hasP p ⟨#[47, 47]⟩ w true h1)
    have HH := Lib.hid h1
    clear h1
    have hpl : p.data.toList.length = p.size := rfl
    go_enter Tryz.func23, Tryz.ntmps23
    go_wp2_with fail
    refine HP.out.mono ?_
    rintro e w' ⟨rfl, rfl⟩
    go_wp2_with fail
    go_loop [3, 4, 5] (fun c b i => ∃ k n m : Nat, VRel p.data.toList k n m ∧ i = .int .i64 k ∧ b = .int .i64 n ∧ c = .int .i64 m) (fun _ _ i => p.size + 1 - (intOf i).toNat)
    case atStart => exact ⟨2, 2, 0, VRel.start (by omega), rfl, rfl, rfl⟩
    case round =>
      obtain ⟨k, n, m, hv, rfl, rfl, rfl⟩ := hrel
      have hv1 := hv.1
      have hv2 := hv.2.1
      have hv3 := hv.2.2.1
      have hm : m ≤ p.size + 1 := VRel.count hv
      have HV := Lib.hid hv
      clear hv
      rw [hpl] at hv3
      by_cases hk : k ≤ p.size
      · have d1 : decide ((k : Int) ≤ (p.size : Int)) = true := by simp; omega
        by_cases hlt : k < p.size
        · have d2 : decide ((k : Int) < (p.size : Int)) = true := by simp; omega
          by_cases h47 : p[k] = 47
          · have q1 : ((p[k].toNat : Int) != 47) = false := by rw [h47]; rfl
            have q2 : ((p[k].toNat : Int) == 47) = true := by rw [h47]; rfl
            have hend : ∀ h : k < p.data.toList.length, p.data.toList[k] = 47 := fun h => by rw [← h47]; rfl
            have HE := Lib.hid hend
            clear hend h47
            have hes : (p.extract n k).size ≤ maxLen := by have := ext_size p n k; unfold maxLen; omega
            have HC := Lib.hid (component_any (p.extract n k) w hes)
            clear hes
            cases hcc : compL (partAt p.data.toList n k)
            · rw [partAt_ext, hcc] at HC
              have HB := Lib.hid (HV.out.bad (by omega) HE.out hcc)
              clear hcc
              go_wp2_with fail
              refine HC.out.mono ?_
              rintro e w' ⟨rfl, rfl⟩
              go_wp2_with fail
              go_ret
              exact ⟨ret_bool HB.out.symm, rfl⟩
            · rw [partAt_ext, hcc] at HC
              have HB := Lib.hid (HV.out.step (by omega) HE.out hcc)
              clear hcc
              go_wp2_with fail
              refine HC.out.mono ?_
              rintro e w' ⟨rfl, rfl⟩
              go_wp2_with fail
              go_round
              case rel => exact ⟨k + 1, k + 1, m + 1, HB.out, by go_num, by go_num, by go_num⟩
              case measure => simp [intOf]; omega
          · have q1 : ((p[k].toNat : Int) != 47) = true := by rw [bne_iff_ne]; intro h; exact h47 (UInt8.toNat.inj (show p[k].toNat = 47 by omega))
            have q2 : ((p[k].toNat : Int) == 47) = false := by rw [beq_eq_false_iff_ne]; intro h; exact h47 (UInt8.toNat.inj (show p[k].toNat = 47 by omega))
            have HN := Lib.hid (HV.out.next (by omega) (show p.data.toList[k]'(by omega) ≠ 47 from h47))
            clear h47
            go_wp2_with fail
            go_round
            case rel => exact ⟨k + 1, n, m, HN.out, by go_num, rfl, rfl⟩
            case measure => simp [intOf]; omega
        · have d2 : decide ((k : Int) < (p.size : Int)) = false := by simp; omega
          have hend : ∀ h : k < p.data.toList.length, p.data.toList[k] = 47 := fun h => by omega
          have HE := Lib.hid hend
          clear hend
          have hes : (p.extract n k).size ≤ maxLen := by have := ext_size p n k; unfold maxLen; omega
          have HC := Lib.hid (component_any (p.extract n k) w hes)
          clear hes
          cases hcc : compL (partAt p.data.toList n k)
          · rw [partAt_ext, hcc] at HC
            have HB := Lib.hid (HV.out.bad (by omega) HE.out hcc)
            clear hcc
            go_wp2_with fail
            refine HC.out.mono ?_
            rintro e w' ⟨rfl, rfl⟩
            go_wp2_with fail
            go_ret
            exact ⟨ret_bool HB.out.symm, rfl⟩
          · rw [partAt_ext, hcc] at HC
            have HB := Lib.hid (HV.out.step (by omega) HE.out hcc)
            clear hcc
            go_wp2_with fail
            refine HC.out.mono ?_
            rintro e w' ⟨rfl, rfl⟩
            go_wp2_with fail
            go_round
            case rel => exact ⟨k + 1, k + 1, m + 1, HB.out, by go_num, by go_num, by go_num⟩
            case measure => simp [intOf]; omega
      · have d1 : decide ((k : Int) ≤ (p.size : Int)) = false := by simp; omega
        have HF := Lib.hid (HV.out.fin (by omega) HH.out)
        go_wp2_with fail
        go_ret
        exact ⟨ret_bool (by rw [HF.out]; simp; omega), rfl⟩


end Go.Proofs.YtnblfaagchflaaaGreatDoor
/- The comparisons: cmp.Compare, cmp.Or, path.Compare, comparePaths, compareRecords, isLive. -/
namespace Go.Proofs.YtnblfaagchflaaaGreatDoor
open Go.RowKit
set_option linter.unusedVariables false
set_option linter.unusedSimpArgs false

set_option maxHeartbeats 1000000 in
theorem cmpInt_any (a b : Int) (w : World) : Calls Tryz.prog 25 #[.int .i64 a, .int .i64 b] w fun e w' => e = .returned (.int .i64 (cmpI a b)) ∧ w = w' := by
  have n1 : (a != a) = false := by simp
  have n2 : (b != b) = false := by simp
  by_cases h1 : a < b
  · have H : Hid (cmpI a b = -1) := Lib.hid (by unfold cmpI; rw [if_pos h1])
    go_enter Tryz.func25, Tryz.ntmps25
    go_wp2
    go_ret
    exact ⟨ret_int H.out.symm, rfl⟩
  · by_cases h2 : b < a
    · have H : Hid (cmpI a b = 1) := Lib.hid (by unfold cmpI; rw [if_neg h1, if_pos h2])
      go_enter Tryz.func25, Tryz.ntmps25
      go_wp2
      go_ret
      exact ⟨ret_int H.out.symm, rfl⟩
    · have H : Hid (cmpI a b = 0) := Lib.hid (by unfold cmpI; rw [if_neg h1, if_neg h2])
      go_enter Tryz.func25, Tryz.ntmps25
      go_wp2
      go_ret
      exact ⟨ret_int H.out.symm, rfl⟩

set_option maxHeartbeats 1000000 in
theorem cmpByte_any (a b : Int) (w : World) : Calls Tryz.prog 24 #[.int .u8 a, .int .u8 b] w fun e w' => e = .returned (.int .i64 (cmpI a b)) ∧ w = w' := by
  have n1 : (a != a) = false := by simp
  have n2 : (b != b) = false := by simp
  by_cases h1 : a < b
  · have H : Hid (cmpI a b = -1) := Lib.hid (by unfold cmpI; rw [if_pos h1])
    go_enter Tryz.func24, Tryz.ntmps24
    go_wp2
    go_ret
    exact ⟨ret_int H.out.symm, rfl⟩
  · by_cases h2 : b < a
    · have H : Hid (cmpI a b = 1) := Lib.hid (by unfold cmpI; rw [if_neg h1, if_pos h2])
      go_enter Tryz.func24, Tryz.ntmps24
      go_wp2
      go_ret
      exact ⟨ret_int H.out.symm, rfl⟩
    · have H : Hid (cmpI a b = 0) := Lib.hid (by unfold cmpI; rw [if_neg h1, if_neg h2])
      go_enter Tryz.func24, Tryz.ntmps24
      go_wp2
      go_ret
      exact ⟨ret_int H.out.symm, rfl⟩

set_option maxHeartbeats 1000000 in
theorem isLive_any (a : Int) (w : World) : Calls Tryz.prog 19 #[.int .i64 a] w fun e w' => e = .returned (.bool (liveA a)) ∧ w = w' := by
  by_cases h1 : a = 3
  · subst h1
    go_enter Tryz.func19, Tryz.ntmps19
    go_wp2
    go_ret
    exact ⟨rfl, rfl⟩
  · have n1 : (a != 3) = true := by simpa using h1
    have H : Hid (liveA a = (a != 5)) := Lib.hid (by unfold liveA; rw [n1]; rfl)
    go_enter Tryz.func19, Tryz.ntmps19
    go_wp2
    go_ret
    exact ⟨ret_bool H.out.symm, rfl⟩

/-- The first that is not zero. -/
def orL : List Int → Int
  | [] => 0
  | a :: l => orI a (orL l)
theorem orL_drop {l : List Int} {k : Nat} (hk : k < l.length) (h : orL l = orL (l.drop k)) (h0 : l[k] = 0) : orL l = orL (l.drop (k + 1)) := by
  rw [h, List.drop_eq_getElem_cons hk]; simp [orL, orI, h0]
theorem orL_at {l : List Int} {k : Nat} (hk : k < l.length) (h : orL l = orL (l.drop k)) (h0 : l[k] ≠ 0) : orL l = l[k] := by
  rw [h, List.drop_eq_getElem_cons hk]; simp [orL, orI, h0]
set_option maxHeartbeats 1000000 in
theorem or_any (l : List Int) (g : Nat) (w : World) (hB : Blk w g 3 (l.map fun n => .int .i64 n)) (hl : l.length ≤ 1000) :
    Calls Tryz.prog 77 #[.slice (some ⟨g, 0, none⟩) l.length l.length] w fun e w' => e = .returned (.int .i64 (orL l)) ∧ w = w' := by
  have HB := Lib.hid hB
  clear hB
  go_enter Tryz.func77, Tryz.ntmps77
  go_wp2
  go_loop [8] (fun i => ∃ k : Nat, k ≤ l.length ∧ i = .int .i64 k ∧ orL l = orL (l.drop k)) (fun i => l.length - (intOf i).toNat)
  case atStart => exact ⟨0, Nat.zero_le _, rfl, rfl⟩
  case round =>
    obtain ⟨k, hk, rfl, ho⟩ := hrel
    have HO := Lib.hid ho
    clear ho
    by_cases hlt : k < l.length
    · have hc : w.cell? ⟨g, k, none⟩ = some (.int .i64 (l[k])) := by
        rw [HB.out.cell]; simp [hlt]
      by_cases h0 : l[k] = 0
      · rw [h0] at hc
        have HN := Lib.hid (orL_drop hlt HO.out h0)
        clear h0
        go_wp2
        go_round
        case rel => exact ⟨k + 1, by omega, by go_num, HN.out⟩
        case measure => simp [intOf]; omega
      · have n : (l[k] != 0) = true := by simpa using h0
        have HN := Lib.hid (orL_at hlt HO.out h0)
        clear h0
        go_wp2
        go_ret
        exact ⟨ret_int HN.out.symm, rfl⟩
    · have HN : Hid (orL l = 0) := Lib.hid (by rw [HO.out, List.drop_of_length_le (by omega)]; rfl)
      go_wp2
      go_ret
      exact ⟨ret_int HN.out.symm, rfl⟩

/-! path.Compare. -/
theorem drop_cons (s : ByteArray) (k : Nat) (h : k < s.size) : s.data.toList.drop k = s[k] :: s.data.toList.drop (k + 1) := by
  rw [List.drop_eq_getElem_cons (by simpa using h)]; rfl
theorem cmp_next {a b : ByteArray} {k : Nat} (ha : k < a.size) (hb : k < b.size) (h : a[k] = b[k]) : cmpL (a.data.toList.drop k) (b.data.toList.drop k) = cmpL (a.data.toList.drop (k + 1)) (b.data.toList.drop (k + 1)) := by
  rw [drop_cons a k ha, drop_cons b k hb, cmpL, if_pos h]
theorem cmp_here {a b : ByteArray} {k : Nat} (ha : k < a.size) (hb : k < b.size) (h : a[k] ≠ b[k]) : cmpL (a.data.toList.drop k) (b.data.toList.drop k) = if a[k] = 47 then -1 else if b[k] = 47 then 1 else cmpI a[k].toNat b[k].toNat := by
  rw [drop_cons a k ha, drop_cons b k hb, cmpL, if_neg h]
  by_cases h1 : a[k] = 47
  · rw [if_pos h1, if_pos h1]
  · rw [if_neg h1, if_neg h1]
    by_cases h2 : b[k] = 47
    · rw [if_pos h2, if_pos h2]
    · rw [if_neg h2, if_neg h2]
      unfold cmpI
      have hne : a[k].toNat ≠ b[k].toNat := fun e => h (UInt8.toNat_inj.1 e)
      by_cases h3 : a[k] < b[k]
      · rw [if_pos h3, if_pos (by rw [UInt8.lt_iff_toNat_lt] at h3; omega)]
      · rw [if_neg h3]
        rw [UInt8.lt_iff_toNat_lt] at h3
        rw [if_neg (by omega), if_pos (by omega)]
theorem cmp_end {a b : ByteArray} {k : Nat} (ha : k ≤ a.size) (hb : k ≤ b.size) (h : ¬ (k < a.size ∧ k < b.size)) : cmpL (a.data.toList.drop k) (b.data.toList.drop k) = cmpI a.size b.size := by
  have la : a.data.toList.length = a.size := rfl
  have lb : b.data.toList.length = b.size := rfl
  unfold cmpI
  by_cases h1 : k < a.size
  · have hb' : b.data.toList.drop k = [] := List.drop_of_length_le (by omega)
    rw [hb', drop_cons a k h1, cmpL, if_neg (by omega), if_pos (by omega)]
  · have ha' : a.data.toList.drop k = [] := List.drop_of_length_le (by omega)
    by_cases h2 : k < b.size
    · rw [ha', drop_cons b k h2, cmpL, if_pos (by omega)]
    · have hb' : b.data.toList.drop k = [] := List.drop_of_length_le (by omega)
      rw [ha', hb', cmpL, if_neg (by omega), if_neg (by omega)]
def errP (b : Bool) : Int := errOf 20 b
theorem ret2 {k j : IntKind} {a b c d : Int} (h1 : a = b) (h2 : c = d) : Ending.returned (.tuple #[.int k a, .int j c]) = .returned (.tuple #[.int k b, .int j d]) := by rw [h1, h2]
def Quiet (w w' : World) : Prop := ∃ n, w' = w.drewN n
theorem Quiet.refl (w : World) : Quiet w w := ⟨0, rfl⟩
theorem Quiet.more {w w' : World} (h : Quiet w w') (n : Nat) : Quiet w (w'.drewN n) := by
  obtain ⟨m, rfl⟩ := h
  exact ⟨m + n, by rw [World.drewN_drewN]⟩
theorem quiet_left {P : Program} {f : FuncId} {args : Array Value} {w : World} {n : Nat} {v : Value}
    (h : Calls P f args (w.drewN n) fun e w' => e = .returned v ∧ w.drewN n = w') : Calls P f args (w.drewN n) fun e w'' => e = .returned v ∧ ∃ m, w'' = w.drewN m :=
  h.mono fun _ _ ⟨he, hm⟩ => ⟨he, n, hm.symm⟩
theorem u8_ne {a b : UInt8} (h : a ≠ b) : ((a.toNat : Int) == (b.toNat : Int)) = false := by
  rw [beq_eq_false_iff_ne]; intro e; exact h (UInt8.toNat_inj.1 (by omega))
theorem u8_47 {a : UInt8} (h : a ≠ 47) : ((a.toNat : Int) == 47) = false := u8_ne (b := 47) h

set_option maxHeartbeats 4000000 in
theorem compare_any (a b : ByteArray) (w : World) (ha : a.size ≤ 140737488355328) (hb : b.size ≤ 140737488355328) :
    Calls Tryz.prog 9 #[.string a, .string b] w fun e w' => e = .returned (.tuple #[.int .i64 (cmpP a b), .int .i64 (errP (validS a && validS b))]) ∧ Quiet w w' := by
  have VA := Lib.hid (valid_any a w ha)
  have VB := Lib.hid (valid_any b w hb)
  cases h1 : validB a.data.toList
  · rw [h1] at VA
    have H : Hid (cmpP a b = 0 ∧ errP (validS a && validS b) = 20) := Lib.hid (by unfold cmpP validS; rw [h1]; exact ⟨rfl, rfl⟩)
    clear h1
    go_enter Tryz.func9, Tryz.ntmps9
    go_wp2_with fail
    refine VA.out.mono ?_
    rintro e w' ⟨rfl, rfl⟩
    go_wp2_with fail
    go_ret2
    exact ⟨ret2 H.out.1.symm H.out.2.symm, Quiet.refl _⟩
  · rw [h1] at VA
    cases h2 : validB b.data.toList
    · rw [h2] at VB
      have H : Hid (cmpP a b = 0 ∧ errP (validS a && validS b) = 20) := Lib.hid (by unfold cmpP validS; rw [h1, h2]; exact ⟨rfl, rfl⟩)
      clear h1 h2
      go_enter Tryz.func9, Tryz.ntmps9
      go_wp2_with fail
      refine VA.out.mono ?_
      rintro e w' ⟨rfl, rfl⟩
      go_wp2_with fail
      refine VB.out.mono ?_
      rintro e w' ⟨rfl, rfl⟩
      go_wp2_with fail
      go_ret2
      exact ⟨ret2 H.out.1.symm H.out.2.symm, Quiet.refl _⟩
    · rw [h2] at VB
      have H : Hid (cmpP a b = cmpL a.data.toList b.data.toList ∧ errP (validS a && validS b) = 0) := Lib.hid (by unfold cmpP validS; rw [h1, h2]; exact ⟨rfl, rfl⟩)
      clear h1 h2
      by_cases hm : b.size < a.size
      all_goals
        go_enter Tryz.func9, Tryz.ntmps9
        go_wp2_with fail
        refine VA.out.mono ?_
        rintro e w' ⟨rfl, rfl⟩
        go_wp2_with fail
        refine VB.out.mono ?_
        rintro e w' ⟨rfl, rfl⟩
        go_wp2_with fail
        clear VA VB
        go_loopw [20] (fun i wr => ∃ k : Nat, k ≤ a.size ∧ k ≤ b.size ∧ i = .int .i64 k ∧ Hid (cmpL a.data.toList b.data.toList = cmpL (a.data.toList.drop k) (b.data.toList.drop k)) ∧ Hid (Quiet w wr)) (fun i _ => a.size - (intOf i).toNat)
        case atStart => exact ⟨0, by omega, by omega, rfl, Lib.hid rfl, Lib.hid (Quiet.refl _)⟩
        case round =>
          obtain ⟨k, hk1, hk2, rfl, HE, HQ⟩ := hrel
          by_cases hlt : k < a.size ∧ k < b.size
          · obtain ⟨l1, l2⟩ := hlt
            by_cases he : a[k] = b[k]
            · have HN := Lib.hid (HE.out.trans (cmp_next l1 l2 he))
              have q : ((a[k].toNat : Int) == (b[k].toNat : Int)) = true := by rw [he]; simp
              clear he
              go_wp2_with fail
              go_quiet (fail)
              go_wp2_with fail
              go_roundw
              case rel => exact ⟨k + 1, by omega, by omega, by go_num, HN, Lib.hid (HQ.out.more nq)⟩
              case measure => simp [intOf]; omega
            · have HN := Lib.hid (HE.out.trans (cmp_here l1 l2 he))
              have q := u8_ne he
              clear he
              by_cases h47 : a[k] = 47
              · rw [if_pos h47] at HN
                have q1 : ((a[k].toNat : Int) == 47) = true := by rw [h47]; rfl
                clear h47
                go_wp2_with fail
                go_quiet (fail)
                go_wp2_with fail
                go_ret2
                exact ⟨ret2 (H.out.1.trans HN.out).symm H.out.2.symm, HQ.out.more nq⟩
              · rw [if_neg h47] at HN
                have q1 := u8_47 h47
                clear h47
                by_cases h47 : b[k] = 47
                · rw [if_pos h47] at HN
                  have q2 : ((b[k].toNat : Int) == 47) = true := by rw [h47]; rfl
                  clear h47
                  go_wp2_with fail
                  go_quiet (fail)
                  go_wp2_with fail
                  go_ret2
                  exact ⟨ret2 (H.out.1.trans HN.out).symm H.out.2.symm, HQ.out.more nq⟩
                · rw [if_neg h47] at HN
                  have q2 := u8_47 h47
                  clear h47
                  go_wp2_with fail
                  go_quiet (fail)
                  go_wp2_with fail
                  have HQ2 := Lib.hid (HQ.out.more nq)
                  generalize wr.drewN nq = w2 at HQ2 ⊢
                  go_quiet ((go_at_call 24; exact quiet_left (cmpByte_any _ _ _)))
                  go_wp2_with fail
                  go_ret2
                  exact ⟨ret2 (H.out.1.trans HN.out).symm H.out.2.symm, HQ2.out.more nq⟩
          · have HN := Lib.hid (HE.out.trans (cmp_end hk1 hk2 hlt))
            have hge : ¬ k < a.size ∨ ¬ k < b.size := by omega
            clear hlt
            go_wp2_with fail
            refine (cmpInt_any _ _ _).mono ?_
            rintro e w' ⟨rfl, rfl⟩
            go_wp2_with fail
            go_ret2
            exact ⟨ret2 (H.out.1.trans HN.out).symm H.out.2.symm, HQ.out⟩
end Go.Proofs.YtnblfaagchflaaaGreatDoor
/- comparePaths and compareRecords. -/
namespace Go.Proofs.YtnblfaagchflaaaGreatDoor
open Go.RowKit
set_option linter.unusedVariables false
set_option linter.unusedSimpArgs false

theorem Quiet.below {w w' : World} (h : Quiet w w') (B : Nat) : Below B w w' := by
  obtain ⟨n, rfl⟩ := h
  exact below_drewN (Below.refl _ _) n
set_option maxHeartbeats 1000000 in
theorem comparePaths_any (a b : ByteArray) (w : World) (ha : a.size ≤ 140737488355328) (hb : b.size ≤ 140737488355328) :
    Calls Tryz.prog 22 #[.string a, .string b] w fun e w' => e = .returned (.int .i64 (cmpP a b)) ∧ Quiet w w' := by
  have H := Lib.hid (compare_any a b w ha hb)
  go_enter Tryz.func22, Tryz.ntmps22
  go_wp2_with fail
  refine H.out.mono ?_
  rintro e w' ⟨rfl, hq⟩
  have HQ := Lib.hid hq
  clear hq
  go_wp2_with fail
  go_ret
  exact ⟨rfl, HQ.out⟩

theorem and_of {p q : Prop} (h : p) (hq : p → q) : p ∧ q := ⟨h, hq h⟩
theorem or4_any (a b c d : Int) (g : Nat) (w : World) (hB : Blk w g 3 [.int .i64 a, .int .i64 b, .int .i64 c, .int .i64 d]) :
    Calls Tryz.prog 77 #[.slice (some ⟨g, 0, none⟩) 4 4] w fun e w' => e = .returned (.int .i64 (orI a (orI b (orI c (orI d 0))))) ∧ w = w' := or_any [a, b, c, d] g w hB (by simp)
theorem box6 {w : World} {g : Nat} {e : TypeId} {a b c d x y : Value} (h : Blk w g e [a, b, c, d, x, y]) :
    w.cell? ⟨g, 0, none⟩ = some a ∧ w.cell? ⟨g, 1, none⟩ = some b ∧ w.cell? ⟨g, 2, none⟩ = some c ∧ w.cell? ⟨g, 3, none⟩ = some d ∧ w.cell? ⟨g, 4, none⟩ = some x ∧ w.cell? ⟨g, 5, none⟩ = some y :=
  ⟨h.cell 0, h.cell 1, h.cell 2, h.cell 3, h.cell 4, h.cell 5⟩

set_option maxRecDepth 100000 in
set_option maxHeartbeats 4000000 in
theorem compareRecords_main (a0 : ByteArray) (a1 a2 : Int) (a3 : ByteArray) (a4 a5 : Int) (b0 : ByteArray) (b1 b2 : Int) (b3 : ByteArray) (b4 b5 : Int) (w : World)
    (h1 : a0.size ≤ 140737488355328) (h2 : a3.size ≤ 140737488355328) (h3 : b0.size ≤ 140737488355328) (h4 : b3.size ≤ 140737488355328) :
    Calls Tryz.prog 43 #[.agg #[.string a0, .int .i64 a1, .int .i64 a2, .string a3, .int .i64 a4, .int .i64 a5], .agg #[.string b0, .int .i64 b1, .int .i64 b2, .string b3, .int .i64 b4, .int .i64 b5]] w
      fun e w' => e = .returned (.int .i64 (orI (cmpP a3 b3) (orI (cmpI a4 b4) (orI (cmpP a0 b0) (orI (cmpI a1 b1) 0))))) ∧ Below w.heap.size w w' := by
  obtain ⟨W, hW⟩ : ∃ W, W = (w.alloc (.cells #[.string a0, .int .i64 a1, .int .i64 a2, .string a3, .int .i64 a4, .int .i64 a5] 57)).alloc (.cells #[.string b0, .int .i64 b1, .int .i64 b2, .string b3, .int .i64 b4, .int .i64 b5] 57) := ⟨_, rfl⟩
  have hbW : Below w.heap.size w W := by rw [hW]; exact ((Below.refl _ _).alloc (Nat.le_refl _) _).alloc (by simp) _
  have hA : Blk W w.heap.size 57 [.string a0, .int .i64 a1, .int .i64 a2, .string a3, .int .i64 a4, .int .i64 a5] := by rw [hW]; exact (blk_new _ _ _).alloc _
  have hB : Blk W (w.heap.size + 1) 57 [.string b0, .int .i64 b1, .int .i64 b2, .string b3, .int .i64 b4, .int .i64 b5] := by
    rw [hW]
    have := blk_new (w.alloc (.cells #[.string a0, .int .i64 a1, .int .i64 a2, .string a3, .int .i64 a4, .int .i64 a5] 57)) [.string b0, .int .i64 b1, .int .i64 b2, .string b3, .int .i64 b4, .int .i64 b5] 57
    simpa using this
  have hlt : w.heap.size + 1 < W.heap.size := hB.lt
  have HW := Lib.hid hW
  clear hW
  go_enter Tryz.func43, Tryz.ntmps43
  go_wp2_with fail
  rw [← HW.out]
  have hc : ∀ w', Below W.heap.size W w' → w'.cell? ⟨w.heap.size, 0, none⟩ = some (.string a0) ∧ w'.cell? ⟨w.heap.size, 1, none⟩ = some (.int .i64 a1) ∧ w'.cell? ⟨w.heap.size, 3, none⟩ = some (.string a3) ∧ w'.cell? ⟨w.heap.size, 4, none⟩ = some (.int .i64 a4) ∧
      w'.cell? ⟨w.heap.size + 1, 0, none⟩ = some (.string b0) ∧ w'.cell? ⟨w.heap.size + 1, 1, none⟩ = some (.int .i64 b1) ∧ w'.cell? ⟨w.heap.size + 1, 3, none⟩ = some (.string b3) ∧ w'.cell? ⟨w.heap.size + 1, 4, none⟩ = some (.int .i64 b4) := fun w' hb => by
    obtain ⟨x0, x1, -, x3, x4, -⟩ := box6 (hA.below hb hA.lt)
    obtain ⟨y0, y1, -, y3, y4, -⟩ := box6 (hB.below hb hB.lt)
    exact ⟨x0, x1, x3, x4, y0, y1, y3, y4⟩
  have HC := Lib.hid hc
  clear hc
  go_region_held3 (fun w' => Below W.heap.size W w' ∧ w'.cell? ⟨w.heap.size, 0, none⟩ = some (.string a0) ∧ w'.cell? ⟨w.heap.size, 1, none⟩ = some (.int .i64 a1) ∧ w'.cell? ⟨w.heap.size, 3, none⟩ = some (.string a3) ∧ w'.cell? ⟨w.heap.size, 4, none⟩ = some (.int .i64 a4) ∧
      w'.cell? ⟨w.heap.size + 1, 0, none⟩ = some (.string b0) ∧ w'.cell? ⟨w.heap.size + 1, 1, none⟩ = some (.int .i64 b1) ∧ w'.cell? ⟨w.heap.size + 1, 3, none⟩ = some (.string b3) ∧ w'.cell? ⟨w.heap.size + 1, 4, none⟩ = some (.int .i64 b4))
    ((refine and_of ?_ (HC.out _); first | exact (Below.refl _ _).drew | assumption | exact hS6.alloc hS6.size _))
    (first
      | (go_at_call 22; (with_reducible refine (comparePaths_any a3 b3 _ h2 h4).mono ?_); rintro e w5 ⟨rfl, hq5⟩; have hS5 : Below W.heap.size W w5 := (Below.refl _ _).drew.trans (hq5.below _); have HC5 := HC.out _ hS5; clear hq5)
      | (go_at_call 22; (with_reducible refine (comparePaths_any a0 b0 _ h1 h3).mono ?_); rintro e w6 ⟨rfl, hq6⟩; have hS6 : Below W.heap.size W w6 := hS5.trans (hq6.below _); have HC6 := HC.out _ hS6; clear hq6)
      | (go_at_call 25; (with_reducible refine (cmpInt_any _ _ _).mono ?_); rintro e w5 ⟨rfl, rfl⟩)
      | (go_at_call 77; (with_reducible refine (or4_any _ _ _ _ w6.heap.size _ (blk_new w6 _ _)).mono ?_); rintro e w7 ⟨rfl, rfl⟩))
  go_wp2_with fail
  go_ret
  exact ⟨rfl, below_next hbW (hS6.alloc hS6.size _)⟩
theorem orI_zero (a : Int) : orI a 0 = a := by unfold orI; split <;> omega
def Rcd.small (r : Rcd) : Prop := r.frm.size ≤ 140737488355328 ∧ r.to.size ≤ 140737488355328
theorem compareRecords_any (a b : Rcd) (w : World) (ha : a.small) (hb : b.small) :
    Calls Tryz.prog 43 #[a.val, b.val] w fun e w' => e = .returned (.int .i64 (cmpR a b)) ∧ Below w.heap.size w w' := by
  have h := compareRecords_main a.frm a.first a.last a.to a.num a.how b.frm b.first b.last b.to b.num b.how w ha.1 ha.2 hb.1 hb.2
  rw [orI_zero] at h
  exact h
end Go.Proofs.YtnblfaagchflaaaGreatDoor
/- Revisions, edits and records in memory; the examination's struct. -/
namespace Go.Proofs.YtnblfaagchflaaaGreatDoor
open Go.RowKit
set_option linter.unusedVariables false
set_option linter.unusedSimpArgs false

theorem flat_len {α : Type} (f : α → List Value) (n : Nat) (hf : ∀ x, (f x).length = n) (l : List α) : (l.flatMap f).length = l.length * n := by
  induction l with
  | nil => simp
  | cons x l ih => simp only [List.flatMap_cons, List.length_append, ih, hf, List.length_cons, Nat.succ_mul]; omega
theorem flat_get {α : Type} (f : α → List Value) (n : Nat) (hf : ∀ x, (f x).length = n) (l : List α) (k j : Nat) (hk : k < l.length) (hj : j < n) : (l.flatMap f)[k * n + j]? = (f l[k])[j]? := by
  induction l generalizing k with
  | nil => simp at hk
  | cons x l ih =>
    simp only [List.flatMap_cons]
    cases k with
    | zero => rw [List.getElem?_append_left (by rw [hf]; omega)]; simp
    | succ k =>
      rw [List.getElem?_append_right (by rw [hf, Nat.succ_mul]; omega), hf, show (k + 1) * n + j - n = k * n + j by rw [Nat.succ_mul]; omega]
      simpa using ih k (by simpa using hk)

def Revs (w : World) (v : Value) (l : List Rev) : Prop := Row w 12 v l.length (l.flatMap Rev.cells)
def Edts (w : World) (v : Value) (l : List Edt) : Prop := Row w 12 v l.length (l.flatMap Edt.cells)
def Rcds (w : World) (v : Value) (l : List Rcd) : Prop := Row w 6 v l.length (l.flatMap Rcd.cells)
section
variable {w w' : World} {v : Value}
theorem Revs.below {l : List Rev} (h : Revs w v l) (hb : Below w.heap.size w w') : Revs w' v l := Row.below h hb
theorem Edts.below {l : List Edt} (h : Edts w v l) (hb : Below w.heap.size w w') : Edts w' v l := Row.below h hb
theorem Rcds.below {l : List Rcd} (h : Rcds w v l) (hb : Below w.heap.size w w') : Rcds w' v l := Row.below h hb
theorem Revs.keep {l : List Rev} (h : Revs w v l) (hs : w.heap.size ≤ w'.heap.size) (hk : ∀ p : Addr, p.block < w.heap.size → w'.cell? p = w.cell? p) : Revs w' v l := Row.keep h hs hk
theorem Revs.nil_ (w : World) : Revs w (.slice none 0 0) [] := Row.nil_ w 12
theorem Rcds.nil_ (w : World) : Rcds w (.slice none 0 0) [] := Row.nil_ w 6
end
/-- The k-th element's cells. -/
theorem row_at {α : Type} {f : α → List Value} {n : Nat} (hf : ∀ x, (f x).length = n) {w : World} {A : Option Addr} {c : Nat} {l : List α} (h : Row w n (.slice A l.length c) l.length (l.flatMap f)) {k : Nat} (hk : k < l.length) :
    ∃ ad, A = some ad ∧ ad.block < w.heap.size ∧ ∀ j v, (f l[k])[j]? = some v → w.cell? (if j = 0 then ad.add (k * n) else ⟨(ad.add (k * n)).block, (ad.add (k * n)).off + j, none⟩) = some v := by
  obtain ⟨ad, e, hb, hc⟩ := Row.at_ h hk
  refine ⟨ad, e, hb, fun j v hv => ?_⟩
  have hj : j < n := by rw [← hf l[k]]; exact (List.getElem?_eq_some_iff.1 hv).1
  have := hc j v (by rw [flat_get f n hf l k j hk hj]; exact hv)
  cases j with
  | zero => simpa using this
  | succ j => rw [if_neg (by omega), add_lit_, add_add']; exact this
def RevAt (w : World) (a : Addr) (x : Rev) : Prop := w.cell? a = some (.string x.path) ∧ w.cell? ⟨a.block, a.off + 1, none⟩ = some (.int .i64 x.num) ∧ w.cell? ⟨a.block, a.off + 2, none⟩ = some (.int .i64 x.chg) ∧ w.cell? ⟨a.block, a.off + 3, none⟩ = some (.int .i64 x.act) ∧ w.cell? ⟨a.block, a.off + 4, none⟩ = some (.int .i64 x.ty.base) ∧ w.cell? ⟨a.block, a.off + 5, none⟩ = some (.bool x.ty.k) ∧ w.cell? ⟨a.block, a.off + 6, none⟩ = some (.bool x.ty.l) ∧ w.cell? ⟨a.block, a.off + 7, none⟩ = some (.bool x.ty.x) ∧ w.cell? ⟨a.block, a.off + 8, none⟩ = some (.int .u64 x.sum) ∧ w.cell? ⟨a.block, a.off + 9, none⟩ = some (.int .i64 x.size) ∧ w.cell? ⟨a.block, a.off + 10, none⟩ = some (.string x.frm) ∧ w.cell? ⟨a.block, a.off + 11, none⟩ = some (.int .i64 x.fnum)
theorem Revs.at_ {w : World} {A : Option Addr} {c : Nat} {l : List Rev} (h : Revs w (.slice A l.length c) l) {k : Nat} (hk : k < l.length) :
    ∃ ad, A = some ad ∧ ad.block < w.heap.size ∧ RevAt w (ad.add (k * 12)) l[k] := by
  obtain ⟨ad, e, hb, hc⟩ := row_at (f := Rev.cells) (n := 12) (fun _ => rfl) h hk
  exact ⟨ad, e, hb, hc 0 _ rfl, hc 1 _ rfl, hc 2 _ rfl, hc 3 _ rfl, hc 4 _ rfl, hc 5 _ rfl, hc 6 _ rfl, hc 7 _ rfl, hc 8 _ rfl, hc 9 _ rfl, hc 10 _ rfl, hc 11 _ rfl⟩
def EdtAt (w : World) (a : Addr) (x : Edt) : Prop := w.cell? a = some (.string x.path) ∧ w.cell? ⟨a.block, a.off + 1, none⟩ = some (.int .i64 x.act) ∧ w.cell? ⟨a.block, a.off + 2, none⟩ = some (.int .i64 x.ty.base) ∧ w.cell? ⟨a.block, a.off + 3, none⟩ = some (.bool x.ty.k) ∧ w.cell? ⟨a.block, a.off + 4, none⟩ = some (.bool x.ty.l) ∧ w.cell? ⟨a.block, a.off + 5, none⟩ = some (.bool x.ty.x) ∧ w.cell? ⟨a.block, a.off + 6, none⟩ = some (.int .u64 x.sum) ∧ w.cell? ⟨a.block, a.off + 7, none⟩ = some (.int .i64 x.size) ∧ w.cell? ⟨a.block, a.off + 8, none⟩ = some (.int .i64 x.base) ∧ w.cell? ⟨a.block, a.off + 9, none⟩ = some (.string x.frm) ∧ w.cell? ⟨a.block, a.off + 10, none⟩ = some (.int .i64 x.fnum) ∧ w.cell? ⟨a.block, a.off + 11, none⟩ = some (.int .i64 x.fence)
theorem Edts.at_ {w : World} {A : Option Addr} {c : Nat} {l : List Edt} (h : Edts w (.slice A l.length c) l) {k : Nat} (hk : k < l.length) :
    ∃ ad, A = some ad ∧ ad.block < w.heap.size ∧ EdtAt w (ad.add (k * 12)) l[k] := by
  obtain ⟨ad, e, hb, hc⟩ := row_at (f := Edt.cells) (n := 12) (fun _ => rfl) h hk
  exact ⟨ad, e, hb, hc 0 _ rfl, hc 1 _ rfl, hc 2 _ rfl, hc 3 _ rfl, hc 4 _ rfl, hc 5 _ rfl, hc 6 _ rfl, hc 7 _ rfl, hc 8 _ rfl, hc 9 _ rfl, hc 10 _ rfl, hc 11 _ rfl⟩
def RcdAt (w : World) (a : Addr) (x : Rcd) : Prop := w.cell? a = some (.string x.frm) ∧ w.cell? ⟨a.block, a.off + 1, none⟩ = some (.int .i64 x.first) ∧ w.cell? ⟨a.block, a.off + 2, none⟩ = some (.int .i64 x.last) ∧ w.cell? ⟨a.block, a.off + 3, none⟩ = some (.string x.to) ∧ w.cell? ⟨a.block, a.off + 4, none⟩ = some (.int .i64 x.num) ∧ w.cell? ⟨a.block, a.off + 5, none⟩ = some (.int .i64 x.how)
theorem Rcds.at_ {w : World} {A : Option Addr} {c : Nat} {l : List Rcd} (h : Rcds w (.slice A l.length c) l) {k : Nat} (hk : k < l.length) :
    ∃ ad, A = some ad ∧ ad.block < w.heap.size ∧ RcdAt w (ad.add (k * 6)) l[k] := by
  obtain ⟨ad, e, hb, hc⟩ := row_at (f := Rcd.cells) (n := 6) (fun _ => rfl) h hk
  exact ⟨ad, e, hb, hc 0 _ rfl, hc 1 _ rfl, hc 2 _ rfl, hc 3 _ rfl, hc 4 _ rfl, hc 5 _ rfl⟩
/-- The struct of an examination, in block g. -/
def Chk (w : World) (g : Nat) (dv dr : Value) (n : Int) (cl tx : ByteArray) (ev rv : Value) (bl be bn : Nat) : Prop :=
  Blk w g 122 [dv, dr, .int .i64 n, .string cl, .string tx, ev, rv, .map (some bl), .map (some be), .map (some bn)]
theorem box10 {w : World} {g : Nat} {dv dr ev rv : Value} {n : Int} {cl tx : ByteArray} {bl be bn : Nat} (h : Chk w g dv dr n cl tx ev rv bl be bn) :
    w.cell? ⟨g, 0, none⟩ = some dv ∧ w.cell? ⟨g, 1, none⟩ = some dr ∧ w.cell? ⟨g, 2, none⟩ = some (.int .i64 n) ∧ w.cell? ⟨g, 5, none⟩ = some ev ∧ w.cell? ⟨g, 6, none⟩ = some rv ∧
    w.cell? ⟨g, 7, none⟩ = some (.map (some bl)) ∧ w.cell? ⟨g, 8, none⟩ = some (.map (some be)) ∧ w.cell? ⟨g, 9, none⟩ = some (.map (some bn)) :=
  ⟨Blk.cell h 0, Blk.cell h 1, Blk.cell h 2, Blk.cell h 5, Blk.cell h 6, Blk.cell h 7, Blk.cell h 8, Blk.cell h 9⟩

/-! size. -/
theorem sizeE_end {revs : List Rev} {c : Chg} (h1 : ¬ (c.edits.length = 0 ∨ 64 < c.edits.length ∨ 64 < c.recs.length)) (h2 : ¬ (c.num < 1 ∨ 1073741824 < c.num)) (h3 : ∀ r ∈ revs, r.chg < c.num) : sizeE revs c = 0 := by
  unfold sizeE
  rw [if_neg h1, if_neg h2, if_neg]
  intro h
  obtain ⟨r, hr, hd⟩ := List.any_eq_true.1 h
  have := h3 r hr
  simp at hd; omega
theorem sizeE_at {revs : List Rev} {c : Chg} {r : Rev} (h1 : ¬ (c.edits.length = 0 ∨ 64 < c.edits.length ∨ 64 < c.recs.length)) (h2 : ¬ (c.num < 1 ∨ 1073741824 < c.num)) (hr : r ∈ revs) (h3 : c.num ≤ r.chg) : sizeE revs c = 112 := by
  unfold sizeE
  rw [if_neg h1, if_neg h2, if_pos]
  exact List.any_eq_true.2 ⟨r, hr, by simpa using h3⟩

set_option maxRecDepth 100000 in
set_option maxHeartbeats 4000000 in
theorem size_any (revs : List Rev) (c : Chg) (g : Nat) (dv dr ev rv : Value) (bl be bn : Nat) (w : World) (hk : Chk w g dv dr c.num c.client c.text ev rv bl be bn) (hR : Revs w dv revs) (hE : Edts w ev c.edits) (hC : Rcds w rv c.recs) :
    Calls Tryz.prog 70 #[.pointer (some ⟨g, 0, none⟩)] w fun e w' => e = .returned (.int .i64 (sizeE revs c)) ∧ Below w.heap.size w w' := by
  obtain ⟨Ar, cr, rfl, hcr, hmr, -⟩ := id hR
  obtain ⟨Ae, ce, rfl, hce, hme, -⟩ := id hE
  obtain ⟨Ac, cc, rfl, hcc, hmc, -⟩ := id hC
  obtain ⟨k0, k1, k2, k5, k6, k7, k8, k9⟩ := box10 hk
  have HR := Lib.hid hR
  have HK := Lib.hid hk
  clear hR hE hC hk
  unfold maxLen at hmr hme hmc
  by_cases h1 : c.edits.length = 0 ∨ 64 < c.edits.length ∨ 64 < c.recs.length
  · have H : Hid (sizeE revs c = 110) := Lib.hid (by unfold sizeE; rw [if_pos h1])
    by_cases a1 : c.edits.length = 0
    · have q1 : ((c.edits.length : Int) == 0) = true := by rw [a1]; rfl
      clear h1 a1
      go_enter Tryz.func70, Tryz.ntmps70
      go_wp2_with fail
      go_quiet (fail)
      go_wp2_with fail
      go_ret
      exact ⟨ret_int H.out.symm, below_drewN (Below.refl _ _) _⟩
    · have q1 : ((c.edits.length : Int) == 0) = false := by rw [beq_eq_false_iff_ne]; omega
      by_cases a2 : 64 < c.edits.length
      · clear h1 a1
        go_enter Tryz.func70, Tryz.ntmps70
        go_wp2_with fail
        go_quiet (fail)
        go_wp2_with fail
        go_ret
        exact ⟨ret_int H.out.symm, below_drewN (Below.refl _ _) _⟩
      · have a3 : 64 < c.recs.length := by omega
        clear h1 a1
        go_enter Tryz.func70, Tryz.ntmps70
        go_wp2_with fail
        go_quiet (fail)
        go_wp2_with fail
        go_ret
        exact ⟨ret_int H.out.symm, below_drewN (Below.refl _ _) _⟩
  · have q1 : ((c.edits.length : Int) == 0) = false := by rw [beq_eq_false_iff_ne]; omega
    have a2 : ¬ 64 < c.edits.length := by omega
    have a3 : ¬ 64 < c.recs.length := by omega
    have H1 := Lib.hid h1
    clear h1
    by_cases h2 : c.num < 1 ∨ 1073741824 < c.num
    · have H : Hid (sizeE revs c = 112) := Lib.hid (by unfold sizeE; rw [if_neg H1.out, if_pos h2])
      by_cases b1 : c.num < 1
      · clear h2
        go_enter Tryz.func70, Tryz.ntmps70
        go_wp2_with fail
        go_quiet (fail)
        go_wp2_with fail
        go_ret
        exact ⟨ret_int H.out.symm, below_drewN (Below.refl _ _) _⟩
      · have b2 : 1073741824 < c.num := by omega
        clear h2
        go_enter Tryz.func70, Tryz.ntmps70
        go_wp2_with fail
        go_quiet (fail)
        go_wp2_with fail
        go_ret
        exact ⟨ret_int H.out.symm, below_drewN (Below.refl _ _) _⟩
    · have b1 : ¬ c.num < 1 := by omega
      have b2 : ¬ 1073741824 < c.num := by omega
      have H2 := Lib.hid h2
      clear h2
      go_enter Tryz.func70, Tryz.ntmps70
      go_wp2_with fail
      go_quiet (fail)
      go_wp2_with fail
      have hb0 : Below w.heap.size w (w.drewN nq) := below_drewN (Below.refl _ _) _
      generalize w.drewN nq = W at hb0 ⊢
      go_loopw [47] (fun i wr => ∃ k : Nat, k ≤ revs.length ∧ i = .int .i64 k ∧ (∀ r ∈ revs.take k, r.chg < c.num) ∧ Below w.heap.size w wr) (fun i _ => revs.length - (intOf i).toNat)
      case atStart => exact ⟨0, Nat.zero_le _, rfl, by simp, hb0⟩
      case round =>
        obtain ⟨k, hk, rfl, hall, hbl⟩ := hrel
        have HA := Lib.hid hall
        clear hall
        by_cases hlt : k < revs.length
        · obtain ⟨ad, rfl, hab, hld⟩ := Revs.at_ (HR.out.below hbl) hlt
          have hmem : revs[k] ∈ revs := List.getElem_mem _
          have htk : revs.take (k + 1) = revs.take k ++ [revs[k]] := List.take_succ_eq_append_getElem hlt
          have HT := Lib.hid htk
          clear htk
          generalize revs[k] = r at hld hmem HT
          obtain ⟨x0, x1, x2, x3, x4, x5, x6, x7, x8, x9, x10, x11⟩ := hld
          have hb2 := hbl.alloc hbl.size (.cells #[.string r.path, .int .i64 r.num, .int .i64 r.chg, .int .i64 r.act, .int .i64 r.ty.base, .bool r.ty.k, .bool r.ty.l, .bool r.ty.x, .int .u64 r.sum, .int .i64 r.size, .string r.frm, .int .i64 r.fnum] 40)
          by_cases hc : c.num ≤ r.chg
          · have H : Hid (sizeE revs c = 112) := Lib.hid (sizeE_at H1.out H2.out hmem hc)
            go_wp2_with fail
            go_ret
            exact ⟨ret_int H.out.symm, hb2⟩
          · go_wp2_with fail
            go_roundw
            case rel => exact ⟨k + 1, by omega, by go_num, by rw [HT.out]; intro x hx; rcases List.mem_append.1 hx with hx | hx
                                                              · exact HA.out x hx
                                                              · rw [List.mem_singleton.1 hx]; omega, hb2⟩
            case measure => simp [intOf]; omega
        · have H : Hid (sizeE revs c = 0) := Lib.hid (sizeE_end H1.out H2.out (by have := HA.out; rwa [List.take_of_length_le (by omega)] at this))
          go_wp2_with fail
          go_ret
          exact ⟨ret_int H.out.symm, hbl⟩
end Go.Proofs.YtnblfaagchflaaaGreatDoor
