/- The contracts of path.Join and of the reference's Component, Parts, Path, Join. -/
import Derived.Test.YtnblfaagchflaaaGreatDoorMgw2
import Derived.Test.YtnblfaagchflaaaGreatDoorMgw6
namespace Go.Proofs.YtnblfaagchflaaaGreatDoor
open Go.RowKit
set_option linter.unusedVariables false
/-- The cells of a block from o on hold these texts. -/
def StrsAt (w : World) (bk o : Nat) (ps : List (List UInt8)) : Prop := ∀ k (hk : k < ps.length), w.cell? ⟨bk, o + k, none⟩ = some (.string (baL ps[k]))
theorem StrsAt.lt {w : World} {bk o : Nat} {ps : List (List UInt8)} (h : StrsAt w bk o ps) (h0 : 0 < ps.length) : bk < w.heap.size := cell_lt (h 0 h0)
theorem StrsAt.below {w w' : World} {bk o : Nat} {ps : List (List UInt8)} (h : StrsAt w bk o ps) (hb : Below w.heap.size w w') : StrsAt w' bk o ps := fun k hk => cell_below (h k hk) hb (cell_lt (h k hk))
theorem StrsAt.of_blk {w : World} {g : Nat} {ps : List (List UInt8)} (h : Blk w g 9 (strCells ps)) : StrsAt w g 0 ps := fun k hk => by rw [Nat.zero_add]; exact h.strs k hk

theorem strs_get (ps : List (List UInt8)) (j : Nat) (x : ByteArray) (h : (ps.map baL)[j]? = some x) : ∃ hk : j < ps.length, x = baL ps[j] := by
  rw [List.getElem?_map] at h
  rcases hj : ps[j]? with _ | p
  · rw [hj] at h; cases h
  · rw [hj] at h
    obtain ⟨hk, e⟩ := List.getElem?_eq_some_iff.1 hj
    exact ⟨hk, by rw [e]; simpa using h.symm⟩
theorem map_baL (ps : List (List UInt8)) : (ps.map baL).map (·.data.toList) = ps := by
  rw [List.map_map]; conv => rhs; rw [← List.map_id ps]
  exact List.map_congr_left fun p _ => baL_data p

theorem strJoin (ps : List (List UInt8)) (bk o c : Nat) (w : World) (hc : StrsAt w bk o ps) (h0 : 0 < ps.length) (hcap : ps.length ≤ c) (hn : ps.length ≤ 2000000) (hlen : (Lib.join ps [47]).length ≤ 10000000000) :
    Calls Tryz.prog 31 #[.slice (some ⟨bk, o, none⟩) ps.length c, .string ⟨#[47]⟩] w fun e w' => e = .returned (.string (baL (Lib.join ps [47]))) ∧ Below w.heap.size w w' := by
  have H := Tryz.strings_Join bk o c (ps.map baL) ⟨#[47]⟩ w (fun j x hx => by obtain ⟨hk, rfl⟩ := strs_get ps j x hx; exact hc j hk) (hc.lt h0) (by simp; omega) (by simpa using hcap)
    (by rw [map_baL]; show (Lib.join ps [47]).length ≤ _; omega)
  rw [map_baL, List.length_map] at H
  exact H

/-! The reference. -/
def letters : List UInt8 := [65, 66, 67, 68, 69, 70, 71, 72, 73, 74, 75, 76, 77, 78, 79, 80, 81, 82, 83, 84, 85, 86, 87, 88, 89, 90, 97, 98, 99, 100, 101, 102, 103, 104, 105, 106, 107, 108, 109, 110, 111, 112, 113, 114, 115, 116, 117, 118, 119, 120, 121, 122, 48, 49, 50, 51, 52, 53, 54, 55, 56, 57, 95, 46, 43, 45]
theorem letters_fin : ∀ n : Fin 256, decide (Lib.indexByte letters (UInt8.ofNat n.val) < 0) = !byteB (n.val : Int) := by decide +kernel
theorem letters_all (c : UInt8) : decide (Lib.indexByte letters c < 0) = !byteB c.toNat := by
  have := letters_fin ⟨c.toNat, c.toNat_lt⟩
  simpa using this
theorem letters_int (c : UInt8) : ((c.toNat : Int)).toNat.toUInt8 = c := by simp
theorem refLetter (c : UInt8) (w : World) (b : Bool) (h : byteB c.toNat = b) : Calls Tryz.prog 104 #[.string ⟨letters.toArray⟩, .int .u8 c.toNat] w fun e w' => ∃ n : Int, e = .returned (.int .i64 n) ∧ decide (n < 0) = (!b) ∧ w = w' := by
  refine (Tryz.strings_IndexByte ⟨letters.toArray⟩ c.toNat w).mono ?_
  rintro e w' ⟨rfl, rfl⟩
  exact ⟨_, rfl, by rw [letters_int]; show decide (Lib.indexByte letters c < 0) = _; rw [letters_all, h], rfl⟩

set_option maxHeartbeats 1000000 in
theorem refComponent_any (s : ByteArray) (w : World) (hs : s.size ≤ maxLen) :
    Calls Tryz.prog 101 #[.string s] w fun e w' => e = .returned (.bool (compS s)) ∧ w = w' := by
  unfold maxLen at hs
  rcases Nat.eq_zero_or_pos s.size with h0 | h0
  · have hne : s.toList = [] := by rw [ByteArray.toList_eq]; exact List.eq_nil_of_length_eq_zero (by simpa using h0)
    have H0 := Lib.hid (compS_nil h0)
    clear h0
    go_enter Tryz.func101, Tryz.ntmps101
    go_wp2_with fail
    go_ret
    exact ⟨ret_bool H0.out.symm, rfl⟩
  · obtain ⟨c, t, hd, hc⟩ := size_pos_of h0
    have hne : s.toList.isEmpty = false := by rw [ByteArray.toList_eq, hd]; rfl
    have hne2 : ¬ s.toList = [] := by rw [ByteArray.toList_eq, hd]; simp
    have HD := Lib.hid hd
    by_cases hc46 : c = 46
    · have h46 : ((s[0].toNat : Int) == 46) = true := by rw [hc, hc46]; rfl
      clear hd hc
      go_enter Tryz.func101, Tryz.ntmps101
      go_wp2_with fail
      go_ret
      exact ⟨ret_bool (compS_dot HD.out hc46).symm, rfl⟩
    · have h46 : ((s[0].toNat : Int) == 46) = false := by
        rw [hc, beq_eq_false_iff_ne]; intro h; exact hc46 (UInt8.toNat.inj (show c.toNat = 46 by omega))
      have HE := Lib.hid (compS_all HD.out hc46)
      clear hd hc HD hc46
      go_enter Tryz.func101, Tryz.ntmps101
      go_wp2_with fail
      clear h46
      go_loop [3] (fun i => ∃ k : Nat, k ≤ s.size ∧ i = .int .i64 k ∧ (s.data.toList.take k).all (fun c => byteB c.toNat) = true) (fun i => s.size - (intOf i).toNat)
      case atStart => exact ⟨0, Nat.zero_le _, rfl, rfl⟩
      case round =>
        obtain ⟨k, hk, rfl, hall⟩ := hrel
        have HA := Lib.hid hall
        clear hall
        by_cases hlt : k < s.size
        · cases hl : byteB s[k].toNat
          · have HL := Lib.hid hl
            clear hl
            go_wp2_with fail
            refine (refLetter s[k] _ _ HL.out).mono ?_
            rintro e w' ⟨n, rfl, hn, rfl⟩
            have hn' : decide (n < 0) = true := hn
            clear hn
            go_wp2
            go_ret
            exact ⟨ret_bool (compS_no (all_stop s (fun c => byteB c.toNat) k hlt HL.out)).symm, rfl⟩
          · have HL := Lib.hid hl
            clear hl
            go_wp2_with fail
            refine (refLetter s[k] _ _ HL.out).mono ?_
            rintro e w' ⟨n, rfl, hn, rfl⟩
            have hn' : decide (n < 0) = false := hn
            clear hn
            go_wp2
            go_round
            case rel => exact ⟨k + 1, by omega, by go_num, all_step s (fun c => byteB c.toNat) k hlt HA.out HL.out⟩
            case measure => simp [intOf]; omega
        · go_wp2_with fail
          go_ret
          exact ⟨ret_bool (by rw [HE.out, all_end s _ k hlt HA.out]), rfl⟩

theorem partsL_some {l : List UInt8} {ps : List (List UInt8)} (h : dirL l 1 = some ps) : Lib.hasPrefix l [47, 47] = true ∧ ps = splitL (l.drop 2) ∧ ps.all compL = true := by
  unfold dirL at h
  split at h
  · rename_i hc; injection h with h; subst h; exact ⟨hc.1, rfl, hc.2.2⟩
  · cases h
theorem partsL_none {l : List UInt8} (h : dirL l 1 = none) (h1 : Lib.hasPrefix l [47, 47] = true) : (splitL (l.drop 2)).all compL = false := by
  unfold dirL at h
  split at h
  · cases h
  · rename_i hc
    cases hh : (splitL (l.drop 2)).all compL
    · rfl
    · exact absurd ⟨h1, by have := splitL_ne (l.drop 2); cases hs : splitL (l.drop 2) <;> simp_all, hh⟩ hc
theorem hasPrefix_sizeR {s : ByteArray} (h : Lib.hasPrefix s.data.toList [47, 47] = true) : 2 ≤ s.size := by
  have : s.data.toList.length = s.size := rfl
  rw [← this]
  cases hl : s.data.toList with
  | nil => rw [hl] at h; cases h
  | cons a l => cases l with
    | nil => rw [hl] at h; unfold Lib.hasPrefix at h; simp at h
    | cons b l => simp

theorem hasPR (s p : ByteArray) (w : World) (b : Bool) (h : Lib.hasPrefix s.data.toList p.data.toList = b) : Calls Tryz.prog 51 #[.string s, .string p] w fun e w' => e = .returned (.bool b) ∧ w = w' := by
  refine (Tryz.strings_HasPrefix s p w).mono ?_
  rintro e w' ⟨rfl, rfl⟩
  exact ⟨by rw [h], rfl⟩

theorem ext_eq (s : ByteArray) (k : Nat) : s.extract k s.size = baL (s.data.toList.drop k) := ba_ext (by
  rw [baL_data]; exact Lib.extract_to_end s k)
theorem split_ext (s : ByteArray) (k : Nat) (w : World) (he : Env w) (hs : s.size ≤ 2000000) :
    Calls Tryz.prog 116 #[.string (s.extract k s.size), .string ⟨#[47]⟩] w fun e w' =>
      e = .returned (.slice (some ⟨w.heap.size, 0, none⟩) (splitL (s.data.toList.drop k)).length (splitL (s.data.toList.drop k)).length) ∧ w.alloc (.cells (strCells (splitL (s.data.toList.drop k))).toArray 9) = w' := by
  rw [ext_eq]
  exact split_any (baL (s.data.toList.drop k)) w he (by rw [baL_size, List.length_drop]; have : s.data.toList.length = s.size := rfl; omega)
theorem split_bounds (s : ByteArray) (k : Nat) (hs : s.size ≤ 2000000) : (splitL (s.data.toList.drop k)).length ≤ 2000001 ∧ ∀ p ∈ splitL (s.data.toList.drop k), p.length ≤ 2000000 := by
  have h1 := splitL_length_le (s.data.toList.drop k)
  have hl : (s.data.toList.drop k).length ≤ 2000000 := by rw [List.length_drop]; have : s.data.toList.length = s.size := rfl; omega
  exact ⟨by omega, fun p hp => by have := (splitL_mem hp).2; omega⟩

set_option maxHeartbeats 1000000 in
theorem refParts_some (s : ByteArray) (ps : List (List UInt8)) (w : World) (he : Env w) (hs : s.size ≤ 2000000) (h : dirL s.data.toList 1 = some ps) :
    Calls Tryz.prog 100 #[.string s] w fun e w' => e = .returned (.tuple #[.slice (some ⟨w.heap.size, 0, none⟩) ps.length ps.length, .bool true]) ∧ w.alloc (.cells (strCells ps).toArray 9) = w' := by
  obtain ⟨h1, rfl, h3⟩ := partsL_some h
  have h2 := hasPrefix_sizeR h1
  have HP := Lib.hid (hasPR s ⟨#[47, 47]⟩ w true h1)
  obtain ⟨hb1, hb2⟩ := split_bounds s 2 hs
  have HS := Lib.hid (split_ext s 2 w he hs)
  clear h h1
  generalize splitL (s.data.toList.drop 2) = ps at *
  have HB := Lib.hid (blk_new w (strCells ps) 9)
  have HM := Lib.hid hb2
  have HA := Lib.hid h3
  clear hb2 h3
  generalize w.alloc (.cells (strCells ps).toArray 9) = W at HS HB ⊢
  go_enter Tryz.func100, Tryz.ntmps100
  go_wp2_with fail
  refine HP.out.mono ?_
  rintro e w' ⟨rfl, rfl⟩
  go_wp2_with fail
  refine HS.out.mono ?_
  rintro e w' ⟨rfl, rfl⟩
  go_wp2_with fail
  go_loop [15] (fun i => ∃ k : Nat, k ≤ ps.length ∧ i = .int .i64 k) (fun i => ps.length - (intOf i).toNat)
  case atStart => exact ⟨0, Nat.zero_le _, rfl⟩
  case round =>
    obtain ⟨k, hk, rfl⟩ := hrel
    by_cases hlt : k < ps.length
    · have hcell := HB.out.strs k hlt
      have hc2 := HM.out ps[k] (by simp)
      have hcs : compS (baL ps[k]) = true := List.all_eq_true.1 HA.out _ (List.getElem_mem hlt)
      go_wp2_with (go_at_call 101; refine (refComponent_any _ _ (by rw [baL_size]; unfold maxLen; omega)).mono ?_; rintro e w' ⟨rfl, rfl⟩)
      go_round
      case rel => exact ⟨k + 1, by omega, by go_num⟩
      case measure => simp [intOf]; omega
    · go_wp2
      go_ret2
      exact ⟨rfl, rfl⟩

set_option maxHeartbeats 1000000 in
theorem refParts_none (s : ByteArray) (w : World) (he : Env w) (hs : s.size ≤ 2000000) (h : dirL s.data.toList 1 = none) :
    Calls Tryz.prog 100 #[.string s] w fun e w' => e = .returned (.tuple #[.slice none 0 0, .bool false]) ∧ Below w.heap.size w w' := by
  cases h1 : Lib.hasPrefix s.data.toList [47, 47]
  · have HP := Lib.hid (hasPR s ⟨#[47, 47]⟩ w false h1)
    clear h h1
    go_enter Tryz.func100, Tryz.ntmps100
    go_wp2_with fail
    refine HP.out.mono ?_
    rintro e w' ⟨rfl, rfl⟩
    go_wp2
    go_ret2
    exact ⟨rfl, Below.refl _ _⟩
  · have h2 := hasPrefix_sizeR h1
    have HP := Lib.hid (hasPR s ⟨#[47, 47]⟩ w true h1)
    have HN := Lib.hid (partsL_none h h1)
    obtain ⟨hb1, hb2⟩ := split_bounds s 2 hs
    have HS := Lib.hid (split_ext s 2 w he hs)
    clear h h1
    generalize splitL (s.data.toList.drop 2) = ps at *
    have HB := Lib.hid (blk_new w (strCells ps) 9)
    have HM := Lib.hid hb2
    have hbw : Below w.heap.size w (w.alloc (.cells (strCells ps).toArray 9)) := (Below.refl _ _).alloc (Nat.le_refl _) _
    clear hb2
    generalize w.alloc (.cells (strCells ps).toArray 9) = W at HS HB hbw ⊢
    go_enter Tryz.func100, Tryz.ntmps100
    go_wp2_with fail
    refine HP.out.mono ?_
    rintro e w' ⟨rfl, rfl⟩
    go_wp2_with fail
    refine HS.out.mono ?_
    rintro e w' ⟨rfl, rfl⟩
    go_wp2_with fail
    go_loop [15] (fun i => ∃ k : Nat, k ≤ ps.length ∧ i = .int .i64 k ∧ (ps.take k).all compL = true) (fun i => ps.length - (intOf i).toNat)
    case atStart => exact ⟨0, Nat.zero_le _, rfl, rfl⟩
    case round =>
      obtain ⟨k, hk, rfl, hall⟩ := hrel
      have HA := Lib.hid hall
      clear hall
      by_cases hlt : k < ps.length
      · have hcell := HB.out.strs k hlt
        have hc2 := HM.out ps[k] (by simp)
        cases hc1 : compL ps[k]
        · have hcs : compS (baL ps[k]) = false := hc1
          clear hc1
          go_wp2_with (go_at_call 101; refine (refComponent_any _ _ (by rw [baL_size]; unfold maxLen; omega)).mono ?_; rintro e w' ⟨rfl, rfl⟩)
          go_ret2
          exact ⟨rfl, hbw⟩
        · have hcs : compS (baL ps[k]) = true := hc1
          have HD := Lib.hid hc1
          clear hc1
          go_wp2_with (go_at_call 101; refine (refComponent_any _ _ (by rw [baL_size]; unfold maxLen; omega)).mono ?_; rintro e w' ⟨rfl, rfl⟩)
          go_round
          case rel => exact ⟨k + 1, by omega, by go_num, all_take ps compL k hlt HA.out HD.out⟩
          case measure => simp [intOf]; omega
      · have := HA.out
        rw [List.take_of_length_le (by omega), HN.out] at this
        cases this

theorem dir_two {l : List UInt8} {ps : List (List UInt8)} (h : dirL l 2 = some ps) : dirL l 1 = some ps ∧ 2 ≤ ps.length := by
  unfold dirL at h ⊢
  split at h
  · rename_i hc
    injection h with h
    subst h
    exact ⟨if_pos ⟨hc.1, by omega, hc.2.2⟩, hc.2.1⟩
  · cases h
theorem dir_two_none {l : List UInt8} {ps : List (List UInt8)} (h : dirL l 2 = none) (h1 : dirL l 1 = some ps) : ps.length < 2 := by
  obtain ⟨a, rfl, c⟩ := partsL_some h1
  unfold dirL at h
  split at h
  · cases h
  · rename_i hc
    exact Nat.lt_of_not_le fun hh => hc ⟨a, hh, c⟩

set_option maxHeartbeats 1000000 in
theorem refPath_some (s : ByteArray) (ps : List (List UInt8)) (w : World) (he : Env w) (hs : s.size ≤ 2000000) (h : dirL s.data.toList 2 = some ps) :
    Calls Tryz.prog 65 #[.string s] w fun e w' => e = .returned (.tuple #[.slice (some ⟨w.heap.size, 0, none⟩) ps.length ps.length, .bool true]) ∧ w.alloc (.cells (strCells ps).toArray 9) = w' := by
  obtain ⟨h1, h2⟩ := dir_two h
  have H := Lib.hid (refParts_some s ps w he hs h1)
  clear h h1 he
  have hd : decide ((ps.length : Int) < 2) = false := by simp; omega
  generalize w.alloc (.cells (strCells ps).toArray 9) = W at H ⊢
  go_enter Tryz.func65, Tryz.ntmps65
  go_wp2_with fail
  refine H.out.mono ?_
  rintro e w' ⟨rfl, rfl⟩
  go_wp2
  go_ret2
  exact ⟨rfl, rfl⟩
set_option maxHeartbeats 1000000 in
theorem refPath_none (s : ByteArray) (w : World) (he : Env w) (hs : s.size ≤ 2000000) (h : dirL s.data.toList 2 = none) :
    Calls Tryz.prog 65 #[.string s] w fun e w' => e = .returned (.tuple #[.slice none 0 0, .bool false]) ∧ Below w.heap.size w w' := by
  cases h1 : dirL s.data.toList 1 with
  | none =>
    have H := Lib.hid (refParts_none s w he hs h1)
    clear h h1 he
    go_enter Tryz.func65, Tryz.ntmps65
    go_wp2_with fail
    refine H.out.mono ?_
    rintro e w' ⟨rfl, hb⟩
    go_wp2
    go_ret2
    exact ⟨rfl, hb⟩
  | some ps =>
    have h2 := dir_two_none h h1
    have H := Lib.hid (refParts_some s ps w he hs h1)
    have hd : decide ((ps.length : Int) < 2) = true := by simp; omega
    have hbw : Below w.heap.size w (w.alloc (.cells (strCells ps).toArray 9)) := (Below.refl _ _).alloc (Nat.le_refl _) _
    clear h h1 he
    generalize w.alloc (.cells (strCells ps).toArray 9) = W at H hbw
    go_enter Tryz.func65, Tryz.ntmps65
    go_wp2_with fail
    refine H.out.mono ?_
    rintro e w' ⟨rfl, rfl⟩
    go_wp2
    go_ret2
    exact ⟨rfl, hbw⟩

end Go.Proofs.YtnblfaagchflaaaGreatDoor
/- The reference's patterns: Star, Part, Capture: the walks, and that they say what the program's parts say. -/
namespace Go.Proofs.YtnblfaagchflaaaGreatDoor
open Go.RowKit
set_option linter.unusedVariables false
set_option linter.unusedSimpArgs false

def rstarB (s : ByteArray) : Bool := starS s && tailOk s
def rpartB (s : ByteArray) : Bool := rstarB s || compS s
def capX (part comp : ByteArray) : ByteArray := comp.extract 0 (comp.size - (sufS part).size)
def capR (part comp : ByteArray) : ByteArray := if rstarB part && Lib.hasSuffix comp.data.toList (sufS part).data.toList then capX part comp else emptyS
def capRB (part comp : ByteArray) : Bool := if rstarB part then Lib.hasSuffix comp.data.toList (sufS part).data.toList && compS (capX part comp) else decide (part = comp)

theorem star_head {s : ByteArray} {c : UInt8} {t : List UInt8} (hd : s.data.toList = c :: t) : starS s = decide (c = 42) := by
  unfold starS Lib.hasPrefix
  rw [hd]
  by_cases h : c = 42
  · subst h; simp
  · have : ¬ (42 : UInt8) = c := fun e => h e.symm
    simp [h, this, List.isPrefixOf]
theorem star_comp {s : ByteArray} (h : starS s = true) : compS s = false := by
  have h1 := star_size h
  obtain ⟨c, t, hd, -⟩ := size_pos_of (show 0 < s.size by omega)
  rw [star_head hd] at h
  have hc : c = 42 := of_decide_eq_true h
  unfold compS compL
  rw [hd, hc]
  have h2 : byteB 42 = false := by decide
  simp [h2]
theorem form_star {s : ByteArray} (h : formI s ≠ 0) : rstarB s = starS s := by
  unfold rstarB
  cases hs : starS s with
  | false => rfl
  | true =>
    unfold formI at h
    rw [star_comp hs, hs] at h
    cases ht : tailOk s with
    | true => rfl
    | false => rw [ht] at h; exact absurd rfl h
theorem form_part (s : ByteArray) : decide (formI s ≠ 0) = rpartB s := by
  unfold rpartB rstarB formI
  cases compS s <;> cases starS s <;> cases tailOk s <;> rfl
theorem form_one (s : ByteArray) : partOk 0 s = compS s := by
  unfold partOk formI
  cases hc : compS s
  · cases starS s <;> cases tailOk s <;> rfl
  · rfl
theorem compL_take {l : List UInt8} (h : compL l = true) (n : Nat) : compL (l.take n) = !(l.take n).isEmpty := by
  unfold compL at h ⊢
  cases l with
  | nil => simp at h
  | cons a l =>
    cases n with
    | zero => rfl
    | succ n =>
      simp only [List.take_succ_cons, List.isEmpty_cons, List.head?_cons, List.all_cons, Bool.not_false, Bool.true_and, Bool.and_eq_true] at h ⊢
      obtain ⟨h1, h2, h3⟩ := h
      refine ⟨h1, h2, ?_⟩
      rw [List.all_eq_true] at h3 ⊢
      exact fun x hx => h3 x (List.mem_of_mem_take hx)
theorem capX_list (part comp : ByteArray) : (capX part comp).data.toList = comp.data.toList.take (comp.data.toList.length - (sufS part).data.toList.length) := by
  unfold capX
  have h1 : comp.size = comp.data.toList.length := rfl
  have h2 : (sufS part).size = (sufS part).data.toList.length := rfl
  rw [h1, h2, ByteArray.data_extract, Array.toList_extract]
  simp [List.extract]
theorem capRB_eq {part comp : ByteArray} (hp : formI part ≠ 0) (hc : compS comp = true) : capRB part comp = capB part comp := by
  unfold capRB capB
  rw [form_star hp]
  cases hs : starS part with
  | false => simp only [Bool.false_eq_true, if_false]
  | true =>
    simp only [if_true]
    cases hh : Lib.hasSuffix comp.data.toList (sufS part).data.toList with
    | false => simp only [Bool.false_and]
    | true =>
      simp only [Bool.true_and]
      have hv : capV part comp = capX part comp := by
        unfold capV
        rw [hs, if_pos rfl]
        unfold Lib.trimSuffix
        rw [hh, if_pos rfl, ← capX_list]
      rw [hv]
      unfold compS at hc ⊢
      rw [capX_list, compL_take hc, ← capX_list]
      have he : (capX part comp).data.toList.isEmpty = decide (capX part comp = emptyS) := by
        rw [Bool.eq_iff_iff, decide_eq_true_eq, List.isEmpty_iff]
        constructor
        · intro h
          cases hx : capX part comp with | mk a =>
          rw [hx] at h
          unfold emptyS
          congr 1
          exact Array.toList_eq_nil_iff.1 h
        · intro h; rw [h]; rfl
      rw [he]
theorem rstar_empty {s : ByteArray} (h : s.size = 0) : rstarB s = false := by
  have hl : s.data.toList = [] := List.eq_nil_of_length_eq_zero (by simpa using h)
  unfold rstarB starS; rw [hl]; rfl
theorem rstar_head {s : ByteArray} {c : UInt8} {t : List UInt8} (hd : s.data.toList = c :: t) (hc : ¬ c = 42) : rstarB s = false := by
  unfold rstarB; rw [star_head hd, decide_eq_false hc]; rfl
theorem rstar_tail {s : ByteArray} {c : UInt8} {t : List UInt8} (hd : s.data.toList = c :: t) (hc : c = 42) : rstarB s = tailOk s := by
  unfold rstarB; rw [star_head hd, decide_eq_true hc]; rfl
def StarPost (s : ByteArray) (w : World) (e : Ending) (w' : World) : Prop := e = .returned (.tuple #[.string (if rstarB s then sufS s else emptyS), .bool (rstarB s)]) ∧ w = w'
theorem starPost_no {s : ByteArray} {w : World} (h : rstarB s = false) : StarPost s w (.returned (.tuple #[.string ⟨#[]⟩, .bool false])) w := by unfold StarPost; rw [h]; exact ⟨rfl, rfl⟩
theorem starPost_yes {s : ByteArray} {w : World} (h : rstarB s = true) : StarPost s w (.returned (.tuple #[.string (s.extract 1 s.size), .bool true])) w := by unfold StarPost; rw [h]; exact ⟨rfl, rfl⟩
set_option maxHeartbeats 2000000 in
theorem rStar_any (s : ByteArray) (w : World) (hs : s.size ≤ maxLen) : Calls Tryz.prog 68 #[.string s] w (StarPost s w) := by
  unfold maxLen at hs
  rcases Nat.eq_zero_or_pos s.size with h0 | h0
  · have hne : s.toList = [] := by rw [ByteArray.toList_eq]; exact List.eq_nil_of_length_eq_zero (by simpa using h0)
    have H0 := Lib.hid (starPost_no (w := w) (rstar_empty h0))
    clear h0
    go_enter Tryz.func68, Tryz.ntmps68
    go_wp2_with fail
    go_ret2
    exact H0.out
  · obtain ⟨c, t, hd, hc⟩ := size_pos_of h0
    have hne : s.toList.isEmpty = false := by rw [ByteArray.toList_eq, hd]; rfl
    have hne2 : ¬ s.toList = [] := by rw [ByteArray.toList_eq, hd]; simp
    by_cases h42 : c = 42
    · have q42 : ((s[0].toNat : Int) == 42) = true := by rw [hc, h42]; rfl
      have q42' : ((s[0].toNat : Int) != 42) = false := by rw [hc, h42]; rfl
      have HT := Lib.hid (rstar_tail hd h42)
      have HN := Lib.hid (fun k (h : k < s.size) (h1 : 1 ≤ k) (hb : byteB s[k].toNat = false) => starPost_no (w := w) (HT.out.trans (tail_no h h1 hb)))
      have HY := Lib.hid (fun (h : ∀ k (hk : k < s.size), 1 ≤ k → byteB s[k].toNat = true) => starPost_yes (w := w) (HT.out.trans (tail_yes h)))
      clear hd hc h42
      go_enter Tryz.func68, Tryz.ntmps68
      go_wp2_with fail
      clear q42 q42'
      go_loop [4] (fun i => ∃ k : Nat, 1 ≤ k ∧ k ≤ s.size ∧ i = .int .i64 k ∧ Hid (∀ j (hj : j < s.size), 1 ≤ j → j < k → byteB s[j].toNat = true)) (fun i => s.size - (intOf i).toNat)
      case atStart => exact ⟨1, Nat.le_refl _, h0, rfl, fun j _ a b => by omega⟩
      case round =>
        obtain ⟨k, hk1, hk, rfl, HI⟩ := hrel
        by_cases hlt : k < s.size
        · cases hl : byteB s[k].toNat
          · have HR := Lib.hid (HN.out k hlt hk1 hl)
            have HL := Lib.hid hl
            clear HI hl
            go_wp2_with fail
            refine (refLetter s[k] _ _ HL.out).mono ?_
            rintro e w' ⟨n, rfl, hn, rfl⟩
            have hn' : decide (n < 0) = true := hn
            clear hn
            go_wp2
            go_ret2
            exact HR.out
          · have HJ : Hid (∀ j (hj : j < s.size), 1 ≤ j → j < k + 1 → byteB s[j].toNat = true) := Lib.hid (fun j hj a b => by
              by_cases e : j = k
              · subst e; exact hl
              · exact HI.out j hj a (by omega))
            have HL := Lib.hid hl
            clear HI hl
            go_wp2_with fail
            refine (refLetter s[k] _ _ HL.out).mono ?_
            rintro e w' ⟨n, rfl, hn, rfl⟩
            have hn' : decide (n < 0) = false := hn
            clear hn
            go_wp2
            go_round
            case rel => exact ⟨k + 1, by omega, by omega, by go_num, HJ.out⟩
            case measure => simp [intOf]; omega
        · have HR := Lib.hid (HY.out (fun j hj a => HI.out j hj a (by omega)))
          clear HI
          go_wp2_with fail
          go_ret2
          exact HR.out
    · have q42 : ((s[0].toNat : Int) == 42) = false := by
        rw [hc, beq_eq_false_iff_ne]; intro h; exact h42 (UInt8.toNat.inj (show c.toNat = 42 by omega))
      have q42' : ((s[0].toNat : Int) != 42) = true := by
        rw [hc, bne_iff_ne]; intro h; exact h42 (UInt8.toNat.inj (show c.toNat = 42 by omega))
      have H0 := Lib.hid (starPost_no (w := w) (rstar_head hd h42))
      clear hd hc h42
      go_enter Tryz.func68, Tryz.ntmps68
      go_wp2_with fail
      go_ret2
      exact H0.out
set_option maxHeartbeats 1000000 in
theorem rPart_any (s : ByteArray) (w : World) (hs : s.size ≤ maxLen) : Calls Tryz.prog 102 #[.string s] w fun e w' => e = .returned (.bool (rpartB s)) ∧ w = w' := by
  have HS := Lib.hid (rStar_any s w hs)
  have HC := Lib.hid (refComponent_any s w hs)
  unfold StarPost at HS
  unfold rpartB
  generalize sufS s = x at HS
  cases hb : rstarB s with
  | true =>
    rw [hb] at HS
    clear hb
    go_enter Tryz.func102, Tryz.ntmps102
    go_wp2_with fail
    refine HS.out.mono ?_
    rintro e w' ⟨rfl, rfl⟩
    go_wp2_with fail
    go_ret
    exact ⟨rfl, rfl⟩
  | false =>
    rw [hb] at HS
    clear hb
    go_enter Tryz.func102, Tryz.ntmps102
    go_wp2_with fail
    refine HS.out.mono ?_
    rintro e w' ⟨rfl, rfl⟩
    go_wp2_with fail
    refine HC.out.mono ?_
    rintro e w' ⟨rfl, rfl⟩
    go_wp2_with fail
    go_ret
    exact ⟨rfl, rfl⟩
theorem hasSR (s p : ByteArray) (w : World) (b : Bool) (hz : s.size ≤ 9223372036854775807) (h : Lib.hasSuffix s.data.toList p.data.toList = b) : Calls Tryz.prog 103 #[.string s, .string p] w fun e w' => e = .returned (.bool b) ∧ w = w' := by
  refine (Tryz.strings_HasSuffix s p w hz).mono ?_
  rintro e w' ⟨rfl, rfl⟩
  exact ⟨by rw [h], rfl⟩
theorem hasSuffix_size {s p : ByteArray} (h : Lib.hasSuffix s.data.toList p.data.toList = true) : p.size ≤ s.size := by
  have : p.data.toList <:+ s.data.toList := List.isSuffixOf_iff_suffix.1 h
  exact this.length_le
set_option maxHeartbeats 2000000 in
theorem rCapture_any (part comp : ByteArray) (w : World) (hp : part.size ≤ maxLen) (hs : comp.size ≤ maxLen) :
    Calls Tryz.prog 67 #[.string part, .string comp] w fun e w' => e = .returned (.tuple #[.string (capR part comp), .bool (capRB part comp)]) ∧ w = w' := by
  have HS := Lib.hid (rStar_any part w hp)
  unfold StarPost at HS
  cases hb : rstarB part with
  | false =>
    have HV : Hid (capR part comp = ⟨#[]⟩ ∧ capRB part comp = decide (part = comp)) := Lib.hid (by unfold capR capRB; rw [hb]; exact ⟨rfl, rfl⟩)
    have HE := Lib.hid (str_eqP part comp)
    rw [hb] at HS
    clear hb
    go_enter Tryz.func67, Tryz.ntmps67
    go_wp2_with fail
    refine HS.out.mono ?_
    rintro e w' ⟨rfl, rfl⟩
    go_wp2_with fail
    go_ret2
    exact ⟨ret_sb HV.out.1.symm (by rw [HV.out.2]; exact HE.out), rfl⟩
  | true =>
    rw [hb] at HS
    cases hh : Lib.hasSuffix comp.data.toList (sufS part).data.toList with
    | false =>
      have HV : Hid (capR part comp = ⟨#[]⟩ ∧ capRB part comp = false) := Lib.hid (by unfold capR capRB; rw [hb, hh]; exact ⟨if_neg (by decide), by rw [if_pos rfl, Bool.false_and]⟩)
      have HH := Lib.hid (hasSR comp (sufS part) w false (by unfold maxLen at hs; omega) hh)
      clear hb hh
      simp only [if_true] at HS
      generalize sufS part = x at HS HH
      go_enter Tryz.func67, Tryz.ntmps67
      go_wp2_with fail
      refine HS.out.mono ?_
      rintro e w' ⟨rfl, rfl⟩
      go_wp2_with fail
      refine HH.out.mono ?_
      rintro e w' ⟨rfl, rfl⟩
      go_wp2_with fail
      go_ret2
      exact ⟨ret_sb HV.out.1.symm HV.out.2.symm, rfl⟩
    | true =>
      have HV : Hid (capR part comp = capX part comp ∧ capRB part comp = compS (capX part comp)) := Lib.hid (by unfold capR capRB; rw [hb, hh]; exact ⟨if_pos rfl, by rw [if_pos rfl, Bool.true_and]⟩)
      have HH := Lib.hid (hasSR comp (sufS part) w true (by unfold maxLen at hs; omega) hh)
      have hle := hasSuffix_size hh
      have hCX : capX part comp = comp.extract 0 (comp.size - (sufS part).size) := rfl
      have HC := Lib.hid (fun (x : ByteArray) (hx : x.size ≤ maxLen) => refComponent_any x w hx)
      clear hb hh
      simp only [if_true] at HS
      generalize sufS part = x at HS HH hle hCX
      obtain ⟨n, hn⟩ : ∃ n, comp.size - x.size = n := ⟨_, rfl⟩
      rw [hn] at hCX
      have hz : ((comp.size : Int) - (x.size : Int)) = (n : Int) := by omega
      unfold maxLen at hp hs
      have hw : IntKind.i64.wrap ((comp.size : Int) - (x.size : Int)) = (n : Int) := by rw [IntKind.wrap_i64]; omega
      have hnc : n ≤ comp.size := by omega
      have HC2 := Lib.hid (HC.out (comp.extract 0 n) (by unfold maxLen; rw [ByteArray.size_extract]; omega))
      rw [← hCX] at HC2
      have HCX := Lib.hid hCX
      clear hn hle HC hCX
      go_enter Tryz.func67, Tryz.ntmps67
      go_wp2_with fail
      refine HS.out.mono ?_
      rintro e w' ⟨rfl, rfl⟩
      go_wp2_with fail
      refine HH.out.mono ?_
      rintro e w' ⟨rfl, rfl⟩
      go_wp2_with fail
      rw [← HCX.out]
      refine HC2.out.mono ?_
      rintro e w' ⟨rfl, rfl⟩
      go_wp2_with fail
      go_ret2
      exact ⟨ret_sb (by rw [HV.out.1]) HV.out.2.symm, rfl⟩
end Go.Proofs.YtnblfaagchflaaaGreatDoor
