/- The contracts of path.components, Split, Join. -/
import Derived.Test.YtnblfaagchflaaaDoorMgw2
import Derived.Test.YtnblfaagchflaaaDoorShelf
import Derived.Test.YtnblfaagchflaaaDoorMzOpH
import Derived.Test.YtnblfaagchflaaaDoorCards
import Derived.Test.YtnblfaagchflaaaDoorTie
import Derived.WalkKit
import Derived.ProofKit
import Derived.OpenShut
import Derived.Deep.DeepHandedRow
import Derived.Lib.LaidTab
import Derived.Lib.SmallJoins
namespace Go.Proofs.YtnblfaagchflaaaDoor
open Go.RowKit
set_option linter.unusedVariables false

/-- The library's variable MaxLen holds some number. -/
def Env (w : World) : Prop := ∃ m : Int, w.cell? ⟨0, 0, none⟩ = some (.int .i64 m)
theorem Env.below {w w' : World} (h : Env w) (hb : Below w.heap.size w w') : Env w' := by
  obtain ⟨m, hm⟩ := h; exact ⟨m, (hb.cell (p := ⟨0, 0, none⟩) (cell_lt hm)).trans hm⟩
theorem Env.alloc {w : World} (h : Env w) (o : Obj) : Env (w.alloc o) := h.below ((Below.refl _ _).alloc (Nat.le_refl _) _)

def baL (p : List UInt8) : ByteArray := ⟨p.toArray⟩
def strCells (ps : List (List UInt8)) : List Value := ps.map fun p => .string (baL p)
theorem baL_data (p : List UInt8) : (baL p).data.toList = p := rfl
theorem baL_size (p : List UInt8) : (baL p).size = p.length := by simp [baL, ByteArray.size]

theorem split_any (s : ByteArray) (w : World) (he : Env w) (hs : s.size < 4294967281) :
    Calls Tryd.prog 76 #[.string s, .string ⟨#[47]⟩] w fun e w' =>
      e = .returned (.slice (some ⟨w.heap.size, 0, none⟩) (splitL s.data.toList).length (splitL s.data.toList).length) ∧ w.alloc (.cells (strCells (splitL s.data.toList)).toArray 9) = w' := by
  obtain ⟨m, hm⟩ := he
  refine (Tryd.strings_Split s ⟨#[47]⟩ m w hs hm (by decide)).mono ?_
  rintro e w' ⟨rfl, rfl⟩
  rw [countB_eq, splitB_eq]
  exact ⟨rfl, by unfold strCells; rw [List.map_map]; rfl⟩

theorem Blk.strs {w : World} {g : Nat} {ps : List (List UInt8)} (h : Blk w g 9 (strCells ps)) (k : Nat) (hk : k < ps.length) : w.cell? ⟨g, k, none⟩ = some (.string (baL ps[k])) := by
  rw [h.cell]; simp [strCells, hk]

theorem all_take {α : Type} (ps : List α) (f : α → Bool) (k : Nat) (hk : k < ps.length) (h : (ps.take k).all f = true) (hf : f ps[k] = true) : (ps.take (k + 1)).all f = true := by
  rw [List.take_succ_eq_append_getElem hk, List.all_append, h]; simp [hf]

end Go.Proofs.YtnblfaagchflaaaDoor
/- The contracts of path.Join and of the reference's Component, Parts, Path, Join. -/
namespace Go.Proofs.YtnblfaagchflaaaDoor
open Go.RowKit
set_option linter.unusedVariables false

def joinP (ps : List (List UInt8)) : List UInt8 := [47, 47] ++ Lib.join ps [47]
/-- The cells of a block from o on hold these texts. -/
def StrsAt (w : World) (bk o : Nat) (ps : List (List UInt8)) : Prop := ∀ k (hk : k < ps.length), w.cell? ⟨bk, o + k, none⟩ = some (.string (baL ps[k]))
theorem StrsAt.lt {w : World} {bk o : Nat} {ps : List (List UInt8)} (h : StrsAt w bk o ps) (h0 : 0 < ps.length) : bk < w.heap.size := cell_lt (h 0 h0)
theorem StrsAt.below {w w' : World} {bk o : Nat} {ps : List (List UInt8)} (h : StrsAt w bk o ps) (hb : Below w.heap.size w w') : StrsAt w' bk o ps := fun k hk => cell_below (h k hk) hb (cell_lt (h k hk))
theorem StrsAt.of_blk {w : World} {g : Nat} {ps : List (List UInt8)} (h : Blk w g 9 (strCells ps)) : StrsAt w g 0 ps := fun k hk => by rw [Nat.zero_add]; exact h.strs k hk

theorem strs_get (ps : List (List UInt8)) (j : Nat) (x : ByteArray) (h : (ps.map baL)[j]? = some x) : ∃ hk : j < ps.length, x = baL ps[j] := by
  rw [List.getElem?_map] at h
  rcases hj : ps[j]? with _ | p
  · rw [hj] at h; cases h
  · rw [hj] at h
    obtain ⟨hk, e⟩ := List.getElem?_eq_some_iff.1 hj
    exact ⟨hk, by rw [e]; simpa using h.symm⟩
theorem map_baL (ps : List (List UInt8)) : (ps.map baL).map (·.data.toList) = ps := by
  rw [List.map_map]; conv => rhs; rw [← List.map_id ps]
  exact List.map_congr_left fun p _ => baL_data p

/-! The reference. -/
def letters : List UInt8 := [65, 66, 67, 68, 69, 70, 71, 72, 73, 74, 75, 76, 77, 78, 79, 80, 81, 82, 83, 84, 85, 86, 87, 88, 89, 90, 97, 98, 99, 100, 101, 102, 103, 104, 105, 106, 107, 108, 109, 110, 111, 112, 113, 114, 115, 116, 117, 118, 119, 120, 121, 122, 48, 49, 50, 51, 52, 53, 54, 55, 56, 57, 95, 46, 43, 45]
theorem letters_fin : ∀ n : Fin 256, decide (Lib.indexByte letters (UInt8.ofNat n.val) < 0) = !byteB (n.val : Int) := by decide +kernel
theorem letters_all (c : UInt8) : decide (Lib.indexByte letters c < 0) = !byteB c.toNat := by
  have := letters_fin ⟨c.toNat, c.toNat_lt⟩
  simpa using this
theorem letters_int (c : UInt8) : ((c.toNat : Int)).toNat.toUInt8 = c := by simp
theorem refLetter (c : UInt8) (w : World) (b : Bool) (h : byteB c.toNat = b) : Calls Tryd.prog 81 #[.string ⟨letters.toArray⟩, .int .u8 c.toNat] w fun e w' => ∃ n : Int, e = .returned (.int .i64 n) ∧ decide (n < 0) = (!b) ∧ w = w' := by
  refine (Tryd.strings_IndexByte ⟨letters.toArray⟩ c.toNat w).mono ?_
  rintro e w' ⟨rfl, rfl⟩
  exact ⟨_, rfl, by rw [letters_int]; show decide (Lib.indexByte letters c < 0) = _; rw [letters_all, h], rfl⟩

set_option maxHeartbeats 1000000 in
theorem refComponent_any (s : ByteArray) (w : World) (hs : s.size ≤ maxLen) :
    Calls Tryd.prog 77 #[.string s] w fun e w' => e = .returned (.bool (compS s)) ∧ w = w' := by
  unfold maxLen at hs
  rcases Nat.eq_zero_or_pos s.size with h0 | h0
  · have hne : s.toList = [] := by rw [ByteArray.toList_eq]; exact List.eq_nil_of_length_eq_zero (by simpa using h0)
    have H0 := Lib.hid (compS_nil h0)
    clear h0
    go_enter Tryd.func77, Tryd.ntmps77
    go_wp2_with fail
    go_ret
    exact ⟨ret_bool H0.out.symm, rfl⟩
  · obtain ⟨c, t, hd, hc⟩ := size_pos_of h0
    have hne : s.toList.isEmpty = false := by rw [ByteArray.toList_eq, hd]; rfl
    have hne2 : ¬ s.toList = [] := by rw [ByteArray.toList_eq, hd]; simp
    have HD := Lib.hid hd
    by_cases hc46 : c = 46
    · have h46 : ((s[0].toNat : Int) == 46) = true := by rw [hc, hc46]; rfl
      clear hd hc
      go_enter Tryd.func77, Tryd.ntmps77
      go_wp2_with fail
      go_ret
      exact ⟨ret_bool (compS_dot HD.out hc46).symm, rfl⟩
    · have h46 : ((s[0].toNat : Int) == 46) = false := by
        rw [hc, beq_eq_false_iff_ne]; intro h; exact hc46 (UInt8.toNat.inj (show c.toNat = 46 by omega))
      have HE := Lib.hid (compS_all HD.out hc46)
      clear hd hc HD hc46
      go_enter Tryd.func77, Tryd.ntmps77
      go_wp2_with fail
      clear h46
      go_loop [3] (fun i => ∃ k : Nat, k ≤ s.size ∧ i = .int .i64 k ∧ (s.data.toList.take k).all (fun c => byteB c.toNat) = true) (fun i => s.size - (intOf i).toNat)
      case atStart => exact ⟨0, Nat.zero_le _, rfl, rfl⟩
      case round =>
        obtain ⟨k, hk, rfl, hall⟩ := hrel
        have HA := Lib.hid hall
        clear hall
        by_cases hlt : k < s.size
        · cases hl : byteB s[k].toNat
          · have HL := Lib.hid hl
            clear hl
            go_wp2_with fail
            refine (refLetter s[k] _ _ HL.out).mono ?_
            rintro e w' ⟨n, rfl, hn, rfl⟩
            have hn' : decide (n < 0) = true := hn
            clear hn
            go_wp2
            go_ret
            exact ⟨ret_bool (compS_no (all_stop s (fun c => byteB c.toNat) k hlt HL.out)).symm, rfl⟩
          · have HL := Lib.hid hl
            clear hl
            go_wp2_with fail
            refine (refLetter s[k] _ _ HL.out).mono ?_
            rintro e w' ⟨n, rfl, hn, rfl⟩
            have hn' : decide (n < 0) = false := hn
            clear hn
            go_wp2
            go_round
            case rel => exact ⟨k + 1, by omega, by go_num, all_step s (fun c => byteB c.toNat) k hlt HA.out HL.out⟩
            case measure => simp [intOf]; omega
        · go_wp2_with fail
          go_ret
          exact ⟨ret_bool (by rw [HE.out, all_end s _ k hlt HA.out]), rfl⟩

/-- The reference's Parts. -/
def partsL (l : List UInt8) : Option (List (List UInt8)) := dirL l 1
theorem partsL_some {l : List UInt8} {ps : List (List UInt8)} (h : dirL l 1 = some ps) : Lib.hasPrefix l [47, 47] = true ∧ ps = splitL (l.drop 2) ∧ ps.all compL = true := by
  unfold dirL at h
  split at h
  · rename_i hc; injection h with h; subst h; exact ⟨hc.1, rfl, hc.2.2⟩
  · cases h
theorem partsL_none {l : List UInt8} (h : dirL l 1 = none) (h1 : Lib.hasPrefix l [47, 47] = true) : (splitL (l.drop 2)).all compL = false := by
  unfold dirL at h
  split at h
  · cases h
  · rename_i hc
    cases hh : (splitL (l.drop 2)).all compL
    · rfl
    · exact absurd ⟨h1, by have := splitL_ne (l.drop 2); cases hs : splitL (l.drop 2) <;> simp_all, hh⟩ hc
theorem hasPrefix_sizeR {s : ByteArray} (h : Lib.hasPrefix s.data.toList [47, 47] = true) : 2 ≤ s.size := by
  have : s.data.toList.length = s.size := rfl
  rw [← this]
  cases hl : s.data.toList with
  | nil => rw [hl] at h; cases h
  | cons a l => cases l with
    | nil => rw [hl] at h; unfold Lib.hasPrefix at h; simp at h
    | cons b l => simp

theorem hasPR (s p : ByteArray) (w : World) (b : Bool) (h : Lib.hasPrefix s.data.toList p.data.toList = b) : Calls Tryd.prog 60 #[.string s, .string p] w fun e w' => e = .returned (.bool b) ∧ w = w' := by
  refine (Tryd.strings_HasPrefix s p w).mono ?_
  rintro e w' ⟨rfl, rfl⟩
  exact ⟨by rw [h], rfl⟩

theorem ext_eq (s : ByteArray) (k : Nat) : s.extract k s.size = baL (s.data.toList.drop k) := ba_ext (by
  rw [baL_data]; exact Lib.extract_to_end s k)
theorem split_ext (s : ByteArray) (k : Nat) (w : World) (he : Env w) (hs : s.size ≤ 2000000) :
    Calls Tryd.prog 76 #[.string (s.extract k s.size), .string ⟨#[47]⟩] w fun e w' =>
      e = .returned (.slice (some ⟨w.heap.size, 0, none⟩) (splitL (s.data.toList.drop k)).length (splitL (s.data.toList.drop k)).length) ∧ w.alloc (.cells (strCells (splitL (s.data.toList.drop k))).toArray 9) = w' := by
  rw [ext_eq]
  exact split_any (baL (s.data.toList.drop k)) w he (by rw [baL_size, List.length_drop]; have : s.data.toList.length = s.size := rfl; omega)
theorem split_bounds (s : ByteArray) (k : Nat) (hs : s.size ≤ 2000000) : (splitL (s.data.toList.drop k)).length ≤ 2000001 ∧ ∀ p ∈ splitL (s.data.toList.drop k), p.length ≤ 2000000 := by
  have h1 := splitL_length_le (s.data.toList.drop k)
  have hl : (s.data.toList.drop k).length ≤ 2000000 := by rw [List.length_drop]; have : s.data.toList.length = s.size := rfl; omega
  exact ⟨by omega, fun p hp => by have := (splitL_mem hp).2; omega⟩

set_option maxHeartbeats 1000000 in
theorem refParts_some (s : ByteArray) (ps : List (List UInt8)) (w : World) (he : Env w) (hs : s.size ≤ 2000000) (h : dirL s.data.toList 1 = some ps) :
    Calls Tryd.prog 68 #[.string s] w fun e w' => e = .returned (.tuple #[.slice (some ⟨w.heap.size, 0, none⟩) ps.length ps.length, .bool true]) ∧ w.alloc (.cells (strCells ps).toArray 9) = w' := by
  obtain ⟨h1, rfl, h3⟩ := partsL_some h
  have h2 := hasPrefix_sizeR h1
  have HP := Lib.hid (hasPR s ⟨#[47, 47]⟩ w true h1)
  obtain ⟨hb1, hb2⟩ := split_bounds s 2 hs
  have HS := Lib.hid (split_ext s 2 w he hs)
  clear h h1
  generalize splitL (s.data.toList.drop 2) = ps at *
  have HB := Lib.hid (blk_new w (strCells ps) 9)
  have HM := Lib.hid hb2
  have HA := Lib.hid h3
  clear hb2 h3
  generalize w.alloc (.cells (strCells ps).toArray 9) = W at HS HB ⊢
  go_enter Tryd.func68, Tryd.ntmps68
  go_wp2_with fail
  refine HP.out.mono ?_
  rintro e w' ⟨rfl, rfl⟩
  go_wp2_with fail
  refine HS.out.mono ?_
  rintro e w' ⟨rfl, rfl⟩
  go_wp2_with fail
  go_loop [15] (fun i => ∃ k : Nat, k ≤ ps.length ∧ i = .int .i64 k) (fun i => ps.length - (intOf i).toNat)
  case atStart => exact ⟨0, Nat.zero_le _, rfl⟩
  case round =>
    obtain ⟨k, hk, rfl⟩ := hrel
    by_cases hlt : k < ps.length
    · have hcell := HB.out.strs k hlt
      have hc2 := HM.out ps[k] (by simp)
      have hcs : compS (baL ps[k]) = true := List.all_eq_true.1 HA.out _ (List.getElem_mem hlt)
      go_wp2_with (go_at_call 77; refine (refComponent_any _ _ (by rw [baL_size]; unfold maxLen; omega)).mono ?_; rintro e w' ⟨rfl, rfl⟩)
      go_round
      case rel => exact ⟨k + 1, by omega, by go_num⟩
      case measure => simp [intOf]; omega
    · go_wp2
      go_ret2
      exact ⟨rfl, rfl⟩

set_option maxHeartbeats 1000000 in
theorem refParts_none (s : ByteArray) (w : World) (he : Env w) (hs : s.size ≤ 2000000) (h : dirL s.data.toList 1 = none) :
    Calls Tryd.prog 68 #[.string s] w fun e w' => e = .returned (.tuple #[.slice none 0 0, .bool false]) ∧ Below w.heap.size w w' := by
  cases h1 : Lib.hasPrefix s.data.toList [47, 47]
  · have HP := Lib.hid (hasPR s ⟨#[47, 47]⟩ w false h1)
    clear h h1
    go_enter Tryd.func68, Tryd.ntmps68
    go_wp2_with fail
    refine HP.out.mono ?_
    rintro e w' ⟨rfl, rfl⟩
    go_wp2
    go_ret2
    exact ⟨rfl, Below.refl _ _⟩
  · have h2 := hasPrefix_sizeR h1
    have HP := Lib.hid (hasPR s ⟨#[47, 47]⟩ w true h1)
    have HN := Lib.hid (partsL_none h h1)
    obtain ⟨hb1, hb2⟩ := split_bounds s 2 hs
    have HS := Lib.hid (split_ext s 2 w he hs)
    clear h h1
    generalize splitL (s.data.toList.drop 2) = ps at *
    have HB := Lib.hid (blk_new w (strCells ps) 9)
    have HM := Lib.hid hb2
    have hbw : Below w.heap.size w (w.alloc (.cells (strCells ps).toArray 9)) := (Below.refl _ _).alloc (Nat.le_refl _) _
    clear hb2
    generalize w.alloc (.cells (strCells ps).toArray 9) = W at HS HB hbw ⊢
    go_enter Tryd.func68, Tryd.ntmps68
    go_wp2_with fail
    refine HP.out.mono ?_
    rintro e w' ⟨rfl, rfl⟩
    go_wp2_with fail
    refine HS.out.mono ?_
    rintro e w' ⟨rfl, rfl⟩
    go_wp2_with fail
    go_loop [15] (fun i => ∃ k : Nat, k ≤ ps.length ∧ i = .int .i64 k ∧ (ps.take k).all compL = true) (fun i => ps.length - (intOf i).toNat)
    case atStart => exact ⟨0, Nat.zero_le _, rfl, rfl⟩
    case round =>
      obtain ⟨k, hk, rfl, hall⟩ := hrel
      have HA := Lib.hid hall
      clear hall
      by_cases hlt : k < ps.length
      · have hcell := HB.out.strs k hlt
        have hc2 := HM.out ps[k] (by simp)
        cases hc1 : compL ps[k]
        · have hcs : compS (baL ps[k]) = false := hc1
          clear hc1
          go_wp2_with (go_at_call 77; refine (refComponent_any _ _ (by rw [baL_size]; unfold maxLen; omega)).mono ?_; rintro e w' ⟨rfl, rfl⟩)
          go_ret2
          exact ⟨rfl, hbw⟩
        · have hcs : compS (baL ps[k]) = true := hc1
          have HD := Lib.hid hc1
          clear hc1
          go_wp2_with (go_at_call 77; refine (refComponent_any _ _ (by rw [baL_size]; unfold maxLen; omega)).mono ?_; rintro e w' ⟨rfl, rfl⟩)
          go_round
          case rel => exact ⟨k + 1, by omega, by go_num, all_take ps compL k hlt HA.out HD.out⟩
          case measure => simp [intOf]; omega
      · have := HA.out
        rw [List.take_of_length_le (by omega), HN.out] at this
        cases this

theorem dir_two {l : List UInt8} {ps : List (List UInt8)} (h : dirL l 2 = some ps) : dirL l 1 = some ps ∧ 2 ≤ ps.length := by
  unfold dirL at h ⊢
  split at h
  · rename_i hc
    injection h with h
    subst h
    exact ⟨if_pos ⟨hc.1, by omega, hc.2.2⟩, hc.2.1⟩
  · cases h
theorem dir_two_none {l : List UInt8} {ps : List (List UInt8)} (h : dirL l 2 = none) (h1 : dirL l 1 = some ps) : ps.length < 2 := by
  obtain ⟨a, rfl, c⟩ := partsL_some h1
  unfold dirL at h
  split at h
  · cases h
  · rename_i hc
    exact Nat.lt_of_not_le fun hh => hc ⟨a, hh, c⟩

set_option maxHeartbeats 1000000 in
theorem refPath_some (s : ByteArray) (ps : List (List UInt8)) (w : World) (he : Env w) (hs : s.size ≤ 2000000) (h : dirL s.data.toList 2 = some ps) :
    Calls Tryd.prog 50 #[.string s] w fun e w' => e = .returned (.tuple #[.slice (some ⟨w.heap.size, 0, none⟩) ps.length ps.length, .bool true]) ∧ w.alloc (.cells (strCells ps).toArray 9) = w' := by
  obtain ⟨h1, h2⟩ := dir_two h
  have H := Lib.hid (refParts_some s ps w he hs h1)
  clear h h1 he
  have hd : decide ((ps.length : Int) < 2) = false := by simp; omega
  generalize w.alloc (.cells (strCells ps).toArray 9) = W at H ⊢
  go_enter Tryd.func50, Tryd.ntmps50
  go_wp2_with fail
  refine H.out.mono ?_
  rintro e w' ⟨rfl, rfl⟩
  go_wp2
  go_ret2
  exact ⟨rfl, rfl⟩
set_option maxHeartbeats 1000000 in
theorem refPath_none (s : ByteArray) (w : World) (he : Env w) (hs : s.size ≤ 2000000) (h : dirL s.data.toList 2 = none) :
    Calls Tryd.prog 50 #[.string s] w fun e w' => e = .returned (.tuple #[.slice none 0 0, .bool false]) ∧ Below w.heap.size w w' := by
  cases h1 : dirL s.data.toList 1 with
  | none =>
    have H := Lib.hid (refParts_none s w he hs h1)
    clear h h1 he
    go_enter Tryd.func50, Tryd.ntmps50
    go_wp2_with fail
    refine H.out.mono ?_
    rintro e w' ⟨rfl, hb⟩
    go_wp2
    go_ret2
    exact ⟨rfl, hb⟩
  | some ps =>
    have h2 := dir_two_none h h1
    have H := Lib.hid (refParts_some s ps w he hs h1)
    have hd : decide ((ps.length : Int) < 2) = true := by simp; omega
    have hbw : Below w.heap.size w (w.alloc (.cells (strCells ps).toArray 9)) := (Below.refl _ _).alloc (Nat.le_refl _) _
    clear h h1 he
    generalize w.alloc (.cells (strCells ps).toArray 9) = W at H hbw
    go_enter Tryd.func50, Tryd.ntmps50
    go_wp2_with fail
    refine H.out.mono ?_
    rintro e w' ⟨rfl, rfl⟩
    go_wp2
    go_ret2
    exact ⟨rfl, hbw⟩

end Go.Proofs.YtnblfaagchflaaaDoor
/- The arguments of the statements at a row: lists of changes, one change. -/
namespace Go.Proofs.YtnblfaagchflaaaDoor
open Go.RowKit Go.ChangeShapes Go.WideShapes Go.Deep
set_option linter.unusedVariables false
set_option linter.unusedSimpArgs false

section
variable {H : Type} {enc : TypeId × Value → H}
theorem wt_at {P : Program} {ps : Array TypeId} {ts : List TypeId} {ds gs : List (DataW H)} (h : (DataW.weightsEach P (ps.toList ++ ts) (ds ++ gs)).all (· ≤ reachBytes) = true) (j : Nat) (t : TypeId) (d : DataW H) (ht : ps[j]? = some t) (hd : ds[j]? = some d) : Wt P t d := by
  intro x hx
  have h1 : (ps.toList ++ ts)[j]? = some t := by
    rw [List.getElem?_append_left (by rw [Array.length_toList]; exact (Array.getElem?_eq_some_iff.1 ht).1), Array.getElem?_toList]; exact ht
  have h2 : (ds ++ gs)[j]? = some d := by
    rw [List.getElem?_append_left (List.getElem?_eq_some_iff.1 hd).1]; exact hd
  have := List.all_eq_true.1 h x (DataW.weights_mem_each h1 h2 x hx)
  simpa using this
/-- What the reading of a list of changes gives. -/
def ChgsRd (w : World) (v : Value) (ps : List ChV) : Prop := Chgs w v ps ∧ ps.length * 88 ≤ reachBytes ∧ ∀ p ∈ ps, p.rd w
set_option maxRecDepth 100000 in
theorem chgs_arg {w : World} {r : Reach} {b0 : Nat} {spare : Nat → Bool} {held : Bool} {v : Value} {d : DataW H} {p : List MemPlace} (hv : Value.okWide Tryd.prog w r b0 55 v) (h : DataW.Trod enc Tryd.prog w 0 spare held 55 v d p) (hw : Wt Tryd.prog 55 d) :
    ∃ ps : List ChV, ChgsRd w v ps := by
  obtain ⟨a, n, c, rfl⟩ := okWide_slice Tryd.underlying55 hv
  obtain ⟨m, hm⟩ := h
  exact chgs_open w spare held hm hw
set_option maxRecDepth 100000 in
theorem chg_arg {w : World} {r : Reach} {b0 : Nat} {spare : Nat → Bool} {held : Bool} {v : Value} {d : DataW H} {p : List MemPlace} (hv : Value.okWide Tryd.prog w r b0 42 v) (h : DataW.Trod enc Tryd.prog w 0 spare held 42 v d p) (hw : Wt Tryd.prog 42 d) :
    ∃ (ch : Chg) (Ae Ac : Option Addr) (ce cc : Nat), v = .agg #[.int .i64 ch.num, .string ch.client, .string ch.text, .slice Ae ch.edits.length ce, .slice Ac ch.recs.length cc] ∧ ChV.rd w (ch, .slice Ae ch.edits.length ce, .slice Ac ch.recs.length cc) := by
  obtain ⟨cs, rfl, -⟩ := okWide_struct Tryd.underlying42 hv
  obtain ⟨m, hm⟩ := h
  obtain ⟨⟨ch, ev, rv⟩, e, hr⟩ := rd_chg w spare held _ _ _ hm hw
  obtain ⟨Ae, ce, he⟩ := hr.2.2.2.1
  obtain ⟨Ac, cc, hc⟩ := hr.2.2.2.2.1
  change ev = .slice Ae ch.edits.length ce at he
  change rv = .slice Ac ch.recs.length cc at hc
  subst he hc
  refine ⟨ch, Ae, Ac, ce, cc, ?_, hr⟩
  have e' : cs.toList = [.int .i64 ch.num, .string ch.client, .string ch.text, .slice Ae ch.edits.length ce, .slice Ac ch.recs.length cc] := e
  cases cs
  simp only at e'
  rw [e']
theorem rd_last {w : World} {p : ChV} (h : p.rd w) : ∀ r ∈ p.1.recs, r.last ≤ 9223372036854775807 := fun r hr => (h.2.2.2.2.2.2 r hr).2.2
theorem rd_size {w : World} {p : ChV} (h : p.rd w) : chgLen p.1 ≤ 10000000000000 ∧ (∀ x ∈ p.1.edits, x.path.size ≤ 140737488355328 ∧ x.frm.size ≤ 140737488355328) ∧ ∀ x ∈ p.1.recs, x.frm.size ≤ 140737488355328 ∧ x.to.size ≤ 140737488355328 := by
  have hb : reachBytes = 140737488351232 := by decide
  obtain ⟨-, h1, h2, -, -, h3, h4⟩ := h
  rw [hb] at h1 h2
  refine ⟨?_, fun x hx => ?_, fun x hx => ?_⟩
  · unfold chgLen; omega
  · have := h3 x hx; rw [hb] at this; omega
  · have := h4 x hx; rw [hb] at this; omega
theorem rd_sizeOk {w : World} {v : Value} {ps : List ChV} {p : ChV} (h : ChgsRd w v ps) (hp : p.rd w) : sizeOk (ps ++ [p]) := by
  have hb : reachBytes = 140737488351232 := by decide
  have hl := h.2.1
  rw [hb] at hl
  have hm : ∀ q ∈ ps ++ [p], q.rd w := fun q hq => by
    rcases List.mem_append.1 hq with hq | hq
    · exact h.2.2 q hq
    · rw [List.mem_singleton] at hq; subst hq; exact hp
  exact ⟨by rw [List.length_append, List.length_singleton]; omega, fun q hq => (rd_size (hm q hq)).1, fun q hq => (rd_size (hm q hq)).2⟩
theorem rd_sizeOk' {w : World} {v : Value} {ps : List ChV} (h : ChgsRd w v ps) : sizeOk ps := by
  have hb : reachBytes = 140737488351232 := by decide
  have hl := h.2.1
  rw [hb] at hl
  exact ⟨by omega, fun q hq => (rd_size (h.2.2 q hq)).1, fun q hq => (rd_size (h.2.2 q hq)).2⟩
end
end Go.Proofs.YtnblfaagchflaaaDoor
/- What all cards of this seat use: the world of the witness; opening the arguments. -/
namespace Go.Proofs.YtnblfaagchflaaaDoor.cardBase
open Go.ChangeShapes Go.WideShapes Go.ChangeAt Go.RowKit
set_option linter.unusedVariables false

theorem own : ownKnob Tryd.prog.godebug = none := by kernel_rfl
theorem laidOut : laidOutB Tryd.prog = true := by kernel_rfl
theorem env_of {W : World} (h : W.ShapedOpen Tryd.prog) : Env W := Tryd.laysM143.s1_3 W h

def layFirst : Obj → Obj
  | .cells _ t frozen => .cells (Go.Pinned.utf8FirstZ.map fun (n : Nat) => Value.int .u8 (n : Int)).toArray t frozen
  | o => o
def layAccept : Obj → Obj
  | .cells _ t frozen => .cells #[.int .u8 128, .int .u8 191, .int .u8 160, .int .u8 191, .int .u8 128, .int .u8 159, .int .u8 144, .int .u8 191, .int .u8 128, .int .u8 143, .int .u8 0, .int .u8 0, .int .u8 0, .int .u8 0, .int .u8 0, .int .u8 0, .int .u8 0, .int .u8 0, .int .u8 0, .int .u8 0, .int .u8 0, .int .u8 0, .int .u8 0, .int .u8 0, .int .u8 0, .int .u8 0, .int .u8 0, .int .u8 0, .int .u8 0, .int .u8 0, .int .u8 0, .int .u8 0] t frozen
  | o => o
/-- A world for the witness: the settled one, the two tables holding what their initialisers lay. -/
noncomputable def laidWorld (os : Os) : World :=
  { World.holding Tryd.prog os ⟨#[], #[], []⟩ with heap := ((World.holding Tryd.prog os ⟨#[], #[], []⟩).heap.modify 1 layFirst).modify 2 layAccept }

end Go.Proofs.YtnblfaagchflaaaDoor.cardBase
