/- path.Valid and path.Parent. -/
import Derived.Test.YtfifalpacagacaaDoorLawC
import Derived.Lib.LastIndexLaws
namespace Go.Proofs.YtfifalpacagacaaDoor
open Go.RowKit
set_option linter.unusedVariables false

def validB (l : List UInt8) : Bool := (dirL l 2).isSome

/-- What holds at the head of each round of Valid's loop. -/
def VRel (l : List UInt8) (i b c : Nat) : Prop :=
  2 ≤ b ∧ b ≤ i ∧ i ≤ l.length + 1 ∧ ∃ done : Comps, done.length = c ∧ done.all compL = true ∧
    ((i ≤ l.length ∧ splitL (l.drop 2) = done ++ splitL (l.drop b) ∧ (47 : UInt8) ∉ (l.drop b).take (i - b)) ∨ (i = l.length + 1 ∧ splitL (l.drop 2) = done))

theorem VRel.start {l : List UInt8} (h : 2 ≤ l.length) : VRel l 2 2 0 := ⟨by omega, by omega, by omega, [], rfl, rfl, .inl ⟨h, rfl, by simp⟩⟩
theorem VRel.next {l : List UInt8} {i b c : Nat} (h : VRel l i b c) (hi : i < l.length) (hne : l[i] ≠ 47) : VRel l (i + 1) b c := by
  obtain ⟨h1, h2, h3, done, h4, h5, h6⟩ := h
  refine ⟨h1, by omega, by omega, done, h4, h5, ?_⟩
  rcases h6 with ⟨h6, h7, h8⟩ | ⟨h6, -⟩
  · refine .inl ⟨by omega, h7, ?_⟩
    rw [show i + 1 - b = (i - b) + 1 by omega, List.take_succ_eq_append_getElem (by rw [List.length_drop]; omega)]
    rw [List.mem_append, not_or]
    refine ⟨h8, ?_⟩
    have : (l.drop b)[i - b]'(by rw [List.length_drop]; omega) = l[i] := by rw [List.getElem_drop]; congr 1; omega
    rw [this]
    simpa using fun e => hne e.symm
  · omega
/-- The part that ends at i. -/
def partAt (l : List UInt8) (b i : Nat) : List UInt8 := (l.drop b).take (i - b)
theorem VRel.part {l : List UInt8} {i b c : Nat} (h : VRel l i b c) (hi : i ≤ l.length) (hend : ∀ h : i < l.length, l[i] = 47) :
    ∃ done : Comps, done.length = c ∧ done.all compL = true ∧ splitL (l.drop 2) = done ++ partAt l b i :: (if i < l.length then splitL (l.drop (i + 1)) else []) := by
  obtain ⟨h1, h2, h3, done, h4, h5, h6⟩ := h
  rcases h6 with ⟨h6, h7, h8⟩ | ⟨h6, -⟩
  · refine ⟨done, h4, h5, ?_⟩
    rw [h7]
    congr 1
    by_cases hlt : i < l.length
    · rw [if_pos hlt]
      have e : l.drop b = partAt l b i ++ 47 :: l.drop (i + 1) := by
        have hd : (l.drop b).drop (i - b) = 47 :: l.drop (i + 1) := by
          rw [List.drop_drop, show b + (i - b) = i by omega, List.drop_eq_getElem_cons hlt, hend hlt]
        rw [← hd]; exact (List.take_append_drop _ _).symm
      rw [e]
      exact splitL_app h8 _
    · rw [if_neg hlt]
      have e : partAt l b i = l.drop b := by unfold partAt; rw [List.take_of_length_le (by rw [List.length_drop]; omega)]
      rw [← e]
      exact splitL_free h8
  · omega
theorem VRel.step {l : List UInt8} {i b c : Nat} (h : VRel l i b c) (hi : i ≤ l.length) (hend : ∀ h : i < l.length, l[i] = 47) (hc : compL (partAt l b i) = true) : VRel l (i + 1) (i + 1) (c + 1) := by
  obtain ⟨done, h4, h5, h6⟩ := h.part hi hend
  obtain ⟨h1, h2, h3, -⟩ := h
  refine ⟨by omega, by omega, by omega, done ++ [partAt l b i], by simp [h4], by rw [List.all_append, h5]; simp [hc], ?_⟩
  by_cases hlt : i < l.length
  · rw [if_pos hlt] at h6
    exact .inl ⟨by omega, by rw [h6]; simp, by simp⟩
  · rw [if_neg hlt] at h6
    exact .inr ⟨by omega, h6⟩
theorem VRel.bad {l : List UInt8} {i b c : Nat} (h : VRel l i b c) (hi : i ≤ l.length) (hend : ∀ h : i < l.length, l[i] = 47) (hc : compL (partAt l b i) = false) : validB l = false := by
  obtain ⟨done, h4, h5, h6⟩ := h.part hi hend
  unfold validB dirL
  rw [if_neg]
  · rfl
  · rintro ⟨-, -, h⟩
    rw [h6, List.all_append] at h
    simp [hc] at h
theorem VRel.fin {l : List UInt8} {i b c : Nat} (h : VRel l i b c) (hi : ¬ i ≤ l.length) (hp : Lib.hasPrefix l [47, 47] = true) : validB l = decide (2 ≤ c) := by
  obtain ⟨h1, h2, h3, done, h4, h5, h6⟩ := h
  rcases h6 with ⟨h6, -⟩ | ⟨-, h6⟩
  · omega
  · unfold validB dirL
    rw [h6, h4]
    by_cases h2c : 2 ≤ c
    · rw [if_pos ⟨hp, h2c, h5⟩]; simp [h2c]
    · rw [if_neg (fun h => h2c h.2.1)]; simp [h2c]
theorem valid_noprefix {l : List UInt8} (h : Lib.hasPrefix l [47, 47] = false) : validB l = false := by
  unfold validB dirL
  rw [if_neg (fun hh => by rw [h] at hh; cases hh.1)]; rfl

theorem VRel.count {l : List UInt8} {i b c : Nat} (h : VRel l i b c) : c ≤ l.length + 1 := by
  obtain ⟨h1, h2, h3, done, h4, h5, h6⟩ := h
  have hs := splitL_length_le (l.drop 2)
  rw [List.length_drop] at hs
  rcases h6 with ⟨-, h6, -⟩ | ⟨-, h6⟩
  · rw [h6, List.length_append] at hs; omega
  · rw [h6] at hs; omega
theorem partAt_ext (p : ByteArray) (b i : Nat) : compS (p.extract b i) = compL (partAt p.data.toList b i) := by
  unfold compS partAt; rw [Lib.extract_data]
theorem ext_size (p : ByteArray) (b i : Nat) : (p.extract b i).size ≤ p.size := by
  have h1 : (p.extract b i).data.toList.length = (p.extract b i).size := rfl
  have h2 : p.data.toList.length = p.size := rfl
  rw [← h1, Lib.extract_data, List.length_take, List.length_drop]; omega

set_option maxHeartbeats 2000000 in
theorem valid_any (p : ByteArray) (w : World) (hp : p.size ≤ 1000000) :
    Calls Tryd.prog 30 #[.string p] w fun e w' => e = .returned (.bool (validB p.data.toList)) ∧ w = w' := by
  cases h1 : Lib.hasPrefix p.data.toList [47, 47]
  · have HV := Lib.hid (valid_noprefix h1)
    have HP := Lib.hid (hasP p ⟨#[47, 47]⟩ w false h1)
    clear h1
    go_enter Tryd.func30, Tryd.ntmps30
    go_wp2_with fail
    refine HP.out.mono ?_
    rintro e w' ⟨rfl, rfl⟩
    go_wp2_with fail
    go_ret
    exact ⟨ret_bool HV.out.symm, rfl⟩
  · have hsz := hasPrefix_size h1
    have HP := Lib.hid (hasP p ⟨#[47, 47]⟩ w true h1)
    have HH := Lib.hid h1
    clear h1
    have hpl : p.data.toList.length = p.size := rfl
    go_enter Tryd.func30, Tryd.ntmps30
    go_wp2_with fail
    refine HP.out.mono ?_
    rintro e w' ⟨rfl, rfl⟩
    go_wp2_with fail
    go_loop [3, 4, 5] (fun c b i => ∃ k n m : Nat, VRel p.data.toList k n m ∧ i = .int .i64 k ∧ b = .int .i64 n ∧ c = .int .i64 m) (fun _ _ i => p.size + 1 - (intOf i).toNat)
    case atStart => exact ⟨2, 2, 0, VRel.start (by omega), rfl, rfl, rfl⟩
    case round =>
      obtain ⟨k, n, m, hv, rfl, rfl, rfl⟩ := hrel
      have hv1 := hv.1
      have hv2 := hv.2.1
      have hv3 := hv.2.2.1
      have hm : m ≤ p.size + 1 := VRel.count hv
      have HV := Lib.hid hv
      clear hv
      rw [hpl] at hv3
      by_cases hk : k ≤ p.size
      · have d1 : decide ((k : Int) ≤ (p.size : Int)) = true := by simp; omega
        by_cases hlt : k < p.size
        · have d2 : decide ((k : Int) < (p.size : Int)) = true := by simp; omega
          by_cases h47 : p[k] = 47
          · have q1 : ((p[k].toNat : Int) != 47) = false := by rw [h47]; rfl
            have q2 : ((p[k].toNat : Int) == 47) = true := by rw [h47]; rfl
            have hend : ∀ h : k < p.data.toList.length, p.data.toList[k] = 47 := fun h => by rw [← h47]; rfl
            have HE := Lib.hid hend
            clear hend h47
            have hes : (p.extract n k).size ≤ maxLen := by have := ext_size p n k; unfold maxLen; omega
            have HC := Lib.hid (component_any (p.extract n k) w hes)
            clear hes
            cases hcc : compL (partAt p.data.toList n k)
            · rw [partAt_ext, hcc] at HC
              have HB := Lib.hid (HV.out.bad (by omega) HE.out hcc)
              clear hcc
              go_wp2_with fail
              refine HC.out.mono ?_
              rintro e w' ⟨rfl, rfl⟩
              go_wp2_with fail
              go_ret
              exact ⟨ret_bool HB.out.symm, rfl⟩
            · rw [partAt_ext, hcc] at HC
              have HB := Lib.hid (HV.out.step (by omega) HE.out hcc)
              clear hcc
              go_wp2_with fail
              refine HC.out.mono ?_
              rintro e w' ⟨rfl, rfl⟩
              go_wp2_with fail
              go_round
              case rel => exact ⟨k + 1, k + 1, m + 1, HB.out, by go_num, by go_num, by go_num⟩
              case measure => simp [intOf]; omega
          · have q1 : ((p[k].toNat : Int) != 47) = true := by rw [bne_iff_ne]; intro h; exact h47 (UInt8.toNat.inj (show p[k].toNat = 47 by omega))
            have q2 : ((p[k].toNat : Int) == 47) = false := by rw [beq_eq_false_iff_ne]; intro h; exact h47 (UInt8.toNat.inj (show p[k].toNat = 47 by omega))
            have HN := Lib.hid (HV.out.next (by omega) (show p.data.toList[k]'(by omega) ≠ 47 from h47))
            clear h47
            go_wp2_with fail
            go_round
            case rel => exact ⟨k + 1, n, m, HN.out, by go_num, rfl, rfl⟩
            case measure => simp [intOf]; omega
        · have d2 : decide ((k : Int) < (p.size : Int)) = false := by simp; omega
          have hend : ∀ h : k < p.data.toList.length, p.data.toList[k] = 47 := fun h => by omega
          have HE := Lib.hid hend
          clear hend
          have hes : (p.extract n k).size ≤ maxLen := by have := ext_size p n k; unfold maxLen; omega
          have HC := Lib.hid (component_any (p.extract n k) w hes)
          clear hes
          cases hcc : compL (partAt p.data.toList n k)
          · rw [partAt_ext, hcc] at HC
            have HB := Lib.hid (HV.out.bad (by omega) HE.out hcc)
            clear hcc
            go_wp2_with fail
            refine HC.out.mono ?_
            rintro e w' ⟨rfl, rfl⟩
            go_wp2_with fail
            go_ret
            exact ⟨ret_bool HB.out.symm, rfl⟩
          · rw [partAt_ext, hcc] at HC
            have HB := Lib.hid (HV.out.step (by omega) HE.out hcc)
            clear hcc
            go_wp2_with fail
            refine HC.out.mono ?_
            rintro e w' ⟨rfl, rfl⟩
            go_wp2_with fail
            go_round
            case rel => exact ⟨k + 1, k + 1, m + 1, HB.out, by go_num, by go_num, by go_num⟩
            case measure => simp [intOf]; omega
      · have d1 : decide ((k : Int) ≤ (p.size : Int)) = false := by simp; omega
        have HF := Lib.hid (HV.out.fin (by omega) HH.out)
        go_wp2_with fail
        go_ret
        exact ⟨ret_bool (by rw [HF.out]; simp; omega), rfl⟩

/-- The directory of a path. -/
def parentL (ps : Comps) : List UInt8 := joinP ps.dropLast
theorem dir_back {l : List UInt8} {ps : Comps} {n : Nat} (h : dirL l n = some ps) : l = joinP ps := by
  unfold dirL at h
  split at h
  · rename_i hc
    injection h with h
    subst h
    unfold joinP
    rw [join_splitL]
    have hp := hc.1
    cases l with
    | nil => simp [Lib.hasPrefix, List.isPrefixOf] at hp
    | cons a l => cases l with
      | nil => simp [Lib.hasPrefix, List.isPrefixOf] at hp
      | cons b l =>
        simp [Lib.hasPrefix, List.isPrefixOf] at hp
        simp [← hp.1, ← hp.2]
  · cases h
theorem join_last {ps : Comps} (h : 2 ≤ ps.length) : ∃ x, ps = ps.dropLast ++ [x] ∧ joinP ps = parentL ps ++ 47 :: x := by
  have hne : ps ≠ [] := by intro e; subst e; simp at h
  refine ⟨ps.getLast hne, (List.dropLast_concat_getLast hne).symm, ?_⟩
  have key : ∀ (a : Comps) (x : List UInt8), a ≠ [] → Lib.join (a ++ [x]) [47] = Lib.join a [47] ++ 47 :: x := by
    intro a x ha
    induction a with
    | nil => exact absurd rfl ha
    | cons y r ih =>
      by_cases hr : r = []
      · subst hr
        rw [show [y] ++ [x] = y :: [x] from rfl, join_cons2 _ _ (by simp), Lib.join_one, Lib.join_one]; simp
      · rw [List.cons_append, join_cons2 _ _ (by simp), join_cons2 _ _ hr, ih hr]; simp
  unfold parentL joinP
  conv => lhs; rw [← List.dropLast_concat_getLast hne]
  rw [key _ _ (by intro e; have := congrArg List.length e; simp at this; omega)]
  simp

end Go.Proofs.YtfifalpacagacaaDoor
