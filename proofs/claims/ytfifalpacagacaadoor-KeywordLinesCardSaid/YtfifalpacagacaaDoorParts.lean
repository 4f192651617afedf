/- The contracts of path.components, Split, Join. -/
import Derived.Test.YtfifalpacagacaaDoorPath
import Derived.Test.YtfifalpacagacaaDoorSplit
import Derived.Test.YtfifalpacagacaaDoorShelf
namespace Go.Proofs.YtfifalpacagacaaDoor
open Go.RowKit
set_option linter.unusedVariables false

/-- The library's variable MaxLen holds some number. -/
def Env (w : World) : Prop := ∃ m : Int, w.cell? ⟨0, 0, none⟩ = some (.int .i64 m)
theorem Env.below {w w' : World} (h : Env w) (hb : Below w.heap.size w w') : Env w' := by
  obtain ⟨m, hm⟩ := h; exact ⟨m, (hb.cell (p := ⟨0, 0, none⟩) (cell_lt hm)).trans hm⟩
theorem Env.alloc {w : World} (h : Env w) (o : Obj) : Env (w.alloc o) := h.below ((Below.refl _ _).alloc (Nat.le_refl _) _)

def baL (p : List UInt8) : ByteArray := ⟨p.toArray⟩
def strCells (ps : List (List UInt8)) : List Value := ps.map fun p => .string (baL p)
theorem baL_data (p : List UInt8) : (baL p).data.toList = p := rfl
theorem baL_size (p : List UInt8) : (baL p).size = p.length := by simp [baL, ByteArray.size]

/-- The components of a directory with at least so many of them. -/
def dirL (l : List UInt8) (least : Nat) : Option (List (List UInt8)) :=
  if Lib.hasPrefix l [47, 47] = true ∧ least ≤ (splitL (l.drop 2)).length ∧ (splitL (l.drop 2)).all compL = true then some (splitL (l.drop 2)) else none

theorem cutP_yes (s p body : ByteArray) (w : World) (h : Lib.hasPrefix s.data.toList p.data.toList = true) (hb : body.data.toList = s.data.toList.drop p.data.toList.length) :
    Calls Tryd.prog 45 #[.string s, .string p] w fun e w' => e = .returned (.tuple #[.string body, .bool true]) ∧ w = w' := by
  refine (Tryd.strings_CutPrefix s p w).mono ?_
  rintro e w' ⟨rfl, rfl⟩
  rw [h]
  have : (⟨(Lib.trimPrefix s.data.toList p.data.toList).toArray⟩ : ByteArray) = body := ba_ext (by rw [hb]; unfold Lib.trimPrefix; rw [h]; rfl)
  rw [this]
  exact ⟨rfl, rfl⟩
theorem cutP_no (s p : ByteArray) (w : World) (h : Lib.hasPrefix s.data.toList p.data.toList = false) :
    Calls Tryd.prog 45 #[.string s, .string p] w fun e w' => e = .returned (.tuple #[.string s, .bool false]) ∧ w = w' := by
  refine (Tryd.strings_CutPrefix s p w).mono ?_
  rintro e w' ⟨rfl, rfl⟩
  rw [h]
  have : (⟨(Lib.trimPrefix s.data.toList p.data.toList).toArray⟩ : ByteArray) = s := ba_ext (by unfold Lib.trimPrefix; rw [h]; rfl)
  rw [this]
  exact ⟨rfl, rfl⟩

theorem split_any (s : ByteArray) (w : World) (he : Env w) (hs : s.size < 4294967281) :
    Calls Tryd.prog 47 #[.string s, .string ⟨#[47]⟩] w fun e w' =>
      e = .returned (.slice (some ⟨w.heap.size, 0, none⟩) (splitL s.data.toList).length (splitL s.data.toList).length) ∧ w.alloc (.cells (strCells (splitL s.data.toList)).toArray 9) = w' := by
  obtain ⟨m, hm⟩ := he
  refine (Tryd.strings_Split s ⟨#[47]⟩ m w hs hm (by decide)).mono ?_
  rintro e w' ⟨rfl, rfl⟩
  rw [countB_eq, splitB_eq]
  exact ⟨rfl, by unfold strCells; rw [List.map_map]; rfl⟩

theorem Blk.strs {w : World} {g : Nat} {ps : List (List UInt8)} (h : Blk w g 9 (strCells ps)) (k : Nat) (hk : k < ps.length) : w.cell? ⟨g, k, none⟩ = some (.string (baL ps[k])) := by
  rw [h.cell]; simp [strCells, hk]

set_option maxHeartbeats 1000000 in
theorem components_some (s : ByteArray) (least : Nat) (ps : List (List UInt8)) (w : World) (he : Env w) (hs : s.size ≤ 1000000) (hl : least ≤ 2) (h : dirL s.data.toList least = some ps) :
    Calls Tryd.prog 49 #[.string s, .int .i64 least] w fun e w' => e = .returned (.tuple #[.slice (some ⟨w.heap.size, 0, none⟩) ps.length ps.length, .bool true]) ∧ w.alloc (.cells (strCells ps).toArray 9) = w' := by
  unfold dirL at h
  split at h
  · rename_i hc
    obtain ⟨h1, h2, h3⟩ := hc
    injection h with h
    have hbl : (baL (s.data.toList.drop 2)).size ≤ 1000000 := by rw [baL_size, List.length_drop]; have : s.data.toList.length = s.size := rfl; omega
    have hmem : ∀ p ∈ ps, compL p = true ∧ p.length ≤ 1000000 := fun p hp => by
      rw [← h] at hp
      exact ⟨List.all_eq_true.1 h3 p hp, by have := (splitL_mem hp).2; rw [baL_size] at hbl; omega⟩
    have HS := Lib.hid (split_any (baL (s.data.toList.drop 2)) w he (by omega))
    have HP := Lib.hid (cutP_yes s ⟨#[47, 47]⟩ (baL (s.data.toList.drop 2)) w h1 rfl)
    rw [baL_data, h] at HS
    rw [h] at h2
    have hlen : ps.length ≤ 1000001 := by rw [← h]; have := splitL_length_le (s.data.toList.drop 2); rw [baL_size] at hbl; omega
    have HM := Lib.hid hmem
    have hd2 : decide (ps.length < least) = false := by simp; omega
    have hd3 : decide ((ps.length : Int) < (least : Int)) = false := by simp; omega
    have HB := Lib.hid (blk_new w (strCells ps) 9)
    clear h h1 h3 hmem
    generalize w.alloc (.cells (strCells ps).toArray 9) = W at HS HB ⊢
    go_enter Tryd.func49, Tryd.ntmps49
    go_wp2_with fail
    refine HP.out.mono ?_
    rintro e w' ⟨rfl, rfl⟩
    go_wp2_with fail
    refine HS.out.mono ?_
    rintro e w' ⟨rfl, rfl⟩
    go_wp2
    go_loop [26] (fun i => ∃ k : Nat, k ≤ ps.length ∧ i = .int .i64 k) (fun i => ps.length - (intOf i).toNat)
    case atStart => exact ⟨0, Nat.zero_le _, rfl⟩
    case round =>
      obtain ⟨k, hk, rfl⟩ := hrel
      by_cases hlt : k < ps.length
      · have hcell := HB.out.strs k hlt
        obtain ⟨hc1, hc2⟩ := HM.out ps[k] (by simp)
        have hcs : compS (baL ps[k]) = true := hc1
        go_wp2_with (go_at_call 23; refine (component_any _ _ (by rw [baL_size]; unfold maxLen; omega)).mono ?_; rintro e w' ⟨rfl, rfl⟩)
        go_round
        case rel => exact ⟨k + 1, by omega, by go_num⟩
        case measure => simp [intOf]; omega
      · go_wp2
        go_ret2
        exact ⟨rfl, rfl⟩
  · cases h

theorem all_take {α : Type} (ps : List α) (f : α → Bool) (k : Nat) (hk : k < ps.length) (h : (ps.take k).all f = true) (hf : f ps[k] = true) : (ps.take (k + 1)).all f = true := by
  rw [List.take_succ_eq_append_getElem hk, List.all_append, h]; simp [hf]

set_option maxHeartbeats 1000000 in
theorem components_none (s : ByteArray) (least : Nat) (w : World) (he : Env w) (hs : s.size ≤ 1000000) (h : dirL s.data.toList least = none) :
    Calls Tryd.prog 49 #[.string s, .int .i64 least] w fun e w' => e = .returned (.tuple #[.slice none 0 0, .bool false]) ∧ Below w.heap.size w w' := by
  cases h1 : Lib.hasPrefix s.data.toList [47, 47]
  · have HP := Lib.hid (cutP_no s ⟨#[47, 47]⟩ w h1)
    clear h h1
    go_enter Tryd.func49, Tryd.ntmps49
    go_wp2_with fail
    refine HP.out.mono ?_
    rintro e w' ⟨rfl, rfl⟩
    go_wp2
    go_ret2
    exact ⟨rfl, Below.refl _ _⟩
  · have hbl : (baL (s.data.toList.drop 2)).size ≤ 1000000 := by rw [baL_size, List.length_drop]; have : s.data.toList.length = s.size := rfl; omega
    have HS := Lib.hid (split_any (baL (s.data.toList.drop 2)) w he (by omega))
    have HP := Lib.hid (cutP_yes s ⟨#[47, 47]⟩ (baL (s.data.toList.drop 2)) w h1 rfl)
    rw [baL_data] at HS
    have hmem : ∀ p ∈ splitL (s.data.toList.drop 2), p.length ≤ 1000000 := fun p hp => by
      have := (splitL_mem hp).2; rw [baL_size] at hbl; omega
    have hlen : (splitL (s.data.toList.drop 2)).length ≤ 1000001 := by have := splitL_length_le (s.data.toList.drop 2); rw [baL_size] at hbl; omega
    have hno : ¬ (least ≤ (splitL (s.data.toList.drop 2)).length ∧ (splitL (s.data.toList.drop 2)).all compL = true) := fun hc => by
      unfold dirL at h; rw [if_pos ⟨h1, hc⟩] at h; cases h
    clear h h1
    generalize splitL (s.data.toList.drop 2) = ps at HS hmem hlen hno
    have HB := Lib.hid (blk_new w (strCells ps) 9)
    have HM := Lib.hid hmem
    have hbw : Below w.heap.size w (w.alloc (.cells (strCells ps).toArray 9)) := (Below.refl _ _).alloc (Nat.le_refl _) _
    clear hmem
    by_cases h2 : least ≤ ps.length
    · have hd2 : decide (ps.length < least) = false := by simp; omega
      have hd3 : decide ((ps.length : Int) < (least : Int)) = false := by simp; omega
      have hno' : ps.all compL = false := by cases hh : ps.all compL; rfl; exact absurd ⟨h2, hh⟩ hno
      have HN := Lib.hid hno'
      clear hno hno'
      generalize w.alloc (.cells (strCells ps).toArray 9) = W at HS HB hbw
      go_enter Tryd.func49, Tryd.ntmps49
      go_wp2_with fail
      refine HP.out.mono ?_
      rintro e w' ⟨rfl, rfl⟩
      go_wp2_with fail
      refine HS.out.mono ?_
      rintro e w' ⟨rfl, rfl⟩
      go_wp2
      go_loop [26] (fun i => ∃ k : Nat, k ≤ ps.length ∧ i = .int .i64 k ∧ (ps.take k).all compL = true) (fun i => ps.length - (intOf i).toNat)
      case atStart => exact ⟨0, Nat.zero_le _, rfl, rfl⟩
      case round =>
        obtain ⟨k, hk, rfl, hall⟩ := hrel
        have HA := Lib.hid hall
        clear hall
        by_cases hlt : k < ps.length
        · have hcell := HB.out.strs k hlt
          have hc2 := HM.out ps[k] (by simp)
          cases hc1 : compL ps[k]
          · have hcs : compS (baL ps[k]) = false := hc1
            clear hc1
            go_wp2_with (go_at_call 23; refine (component_any _ _ (by rw [baL_size]; unfold maxLen; omega)).mono ?_; rintro e w' ⟨rfl, rfl⟩)
            go_ret2
            exact ⟨rfl, hbw⟩
          · have hcs : compS (baL ps[k]) = true := hc1
            have HC := Lib.hid hc1
            clear hc1
            go_wp2_with (go_at_call 23; refine (component_any _ _ (by rw [baL_size]; unfold maxLen; omega)).mono ?_; rintro e w' ⟨rfl, rfl⟩)
            go_round
            case rel => exact ⟨k + 1, by omega, by go_num, all_take ps compL k hlt HA.out HC.out⟩
            case measure => simp [intOf]; omega
        · have := HA.out
          rw [List.take_of_length_le (by omega), HN.out] at this
          cases this
    · have hd2 : decide (ps.length < least) = true := by simp; omega
      have hd3 : decide ((ps.length : Int) < (least : Int)) = true := by simp; omega
      clear hno
      generalize w.alloc (.cells (strCells ps).toArray 9) = W at HS HB hbw
      go_enter Tryd.func49, Tryd.ntmps49
      go_wp2_with fail
      refine HP.out.mono ?_
      rintro e w' ⟨rfl, rfl⟩
      go_wp2_with fail
      refine HS.out.mono ?_
      rintro e w' ⟨rfl, rfl⟩
      go_wp2
      go_ret2
      exact ⟨rfl, hbw⟩

theorem split_some (s : ByteArray) (ps : List (List UInt8)) (w : World) (he : Env w) (hs : s.size ≤ 1000000) (h : dirL s.data.toList 2 = some ps) :
    Calls Tryd.prog 22 #[.string s] w fun e w' => e = .returned (.tuple #[.slice (some ⟨w.heap.size, 0, none⟩) ps.length ps.length, .int .i64 0]) ∧ w.alloc (.cells (strCells ps).toArray 9) = w' := by
  have H := Lib.hid (components_some s 2 ps w he hs (by omega) h)
  generalize w.alloc (.cells (strCells ps).toArray 9) = W at H ⊢
  clear h he
  go_enter Tryd.func22, Tryd.ntmps22
  go_wp2_with fail
  refine H.out.mono ?_
  rintro e w' ⟨rfl, rfl⟩
  go_wp2
  go_ret2
  exact ⟨rfl, rfl⟩
theorem split_none (s : ByteArray) (w : World) (he : Env w) (hs : s.size ≤ 1000000) (h : dirL s.data.toList 2 = none) :
    Calls Tryd.prog 22 #[.string s] w fun e w' => e = .returned (.tuple #[.slice none 0 0, .int .i64 20]) ∧ Below w.heap.size w w' := by
  have H := Lib.hid (components_none s 2 w he hs h)
  clear h he
  go_enter Tryd.func22, Tryd.ntmps22
  go_wp2_with fail
  refine H.out.mono ?_
  rintro e w' ⟨rfl, hb⟩
  go_wp2
  go_ret2
  exact ⟨rfl, hb⟩

end Go.Proofs.YtfifalpacagacaaDoor
