/- Patterns: plain words; the walks of formOf, isStar, Check. -/
import Derived.Test.YtnblfaagchflaaaGreatDoorMzHp
import Derived.Test.YtnblfaagchflaaaGreatDoorShelf
import Derived.Deep.DeepCutAuto
namespace Go.Proofs.YtnblfaagchflaaaGreatDoor
open Go.RowKit
set_option linter.unusedVariables false
set_option linter.unusedSimpArgs false

structure Pat where
  parts : List ByteArray
  rest : Bool
def starS (s : ByteArray) : Bool := Lib.hasPrefix s.data.toList [42]
def tailOk (s : ByteArray) : Bool := (s.data.toList.drop 1).all fun c => byteB c.toNat
def formI (s : ByteArray) : Int := if compS s then 1 else if starS s then (if tailOk s then 2 else 0) else 0
def partOk (j : Nat) (x : ByteArray) : Bool := decide (formI x ≠ 0) && !(decide (j = 0) && decide (formI x = 2))
def partsOk (l : List ByteArray) : Bool := (List.range l.length).all fun j => partOk j ((l[j]?).getD emptyS)
def patE (p : Pat) : Int := if p.parts.length = 0 ∨ (p.parts.length = 1 ∧ p.rest = false) then 30 else if partsOk p.parts = false then 30 else if 12 < p.parts.length then 31 else 0
theorem partsOk_no {l : List ByteArray} {j : Nat} (h : j < l.length) (hf : partOk j l[j] = false) : partsOk l = false := by
  unfold partsOk
  rw [List.all_eq_false]
  exact ⟨j, List.mem_range.2 h, by rw [List.getElem?_eq_getElem h]; simpa using hf⟩
theorem partsOk_yes {l : List ByteArray} (h : ∀ j (hj : j < l.length), partOk j l[j] = true) : partsOk l = true := by
  unfold partsOk
  rw [List.all_eq_true]
  intro j hj
  rw [List.mem_range] at hj
  rw [List.getElem?_eq_getElem hj]
  exact h j hj
theorem tail_no {s : ByteArray} {k : Nat} (h : k < s.size) (h1 : 1 ≤ k) (hb : byteB s[k].toNat = false) : tailOk s = false := by
  unfold tailOk
  rw [List.all_eq_false]
  have hl : k < s.data.toList.length := h
  refine ⟨s.data.toList[k], ?_, ?_⟩
  · refine List.mem_iff_getElem.2 ⟨k - 1, by rw [List.length_drop]; omega, ?_⟩
    rw [List.getElem_drop]
    congr 1; omega
  · have e : s.data.toList[k] = s[k] := by rw [Array.getElem_toList]; rfl
    rw [e, hb]; simp
theorem tail_yes {s : ByteArray} (h : ∀ k (hk : k < s.size), 1 ≤ k → byteB s[k].toNat = true) : tailOk s = true := by
  unfold tailOk
  rw [List.all_eq_true]
  intro c hc
  obtain ⟨i, hi, rfl⟩ := List.mem_iff_getElem.1 hc
  rw [List.getElem_drop]
  rw [List.length_drop] at hi
  have hk : 1 + i < s.size := by have : s.data.toList.length = s.size := rfl; omega
  have e : s.data.toList[1 + i]'(by have : s.data.toList.length = s.size := rfl; omega) = s[1 + i] := by rw [Array.getElem_toList]; rfl
  rw [e]
  exact h _ hk (by omega)
theorem ret_intP {a b : Int} (h : a = b) : Ending.returned (.int .i64 a) = .returned (.int .i64 b) := by rw [h]
theorem isStar_any (s : ByteArray) (w : World) : Calls Tryz.prog 30 #[.string s] w fun e w' => e = .returned (.bool (starS s)) ∧ w = w' := by
  go_enter Tryz.func30, Tryz.ntmps30
  go_wp2_with (go_at_call 51; refine (Tryz.strings_HasPrefix _ _ _).mono ?_; rintro e w' ⟨rfl, rfl⟩)
  go_ret
  exact ⟨rfl, rfl⟩
set_option maxHeartbeats 1000000 in
theorem formOf_any (s : ByteArray) (w : World) (hs : s.size ≤ maxLen) :
    Calls Tryz.prog 48 #[.string s] w fun e w' => e = .returned (.int .i64 (formI s)) ∧ w = w' := by
  have hsz : s.size ≤ 9223372036854775807 := by unfold maxLen at hs; omega
  have HC := Lib.hid (component_any s w hs)
  have HP := Lib.hid (Tryz.strings_HasPrefix s ⟨#[42]⟩ w)
  clear hs
  cases hc : compS s with
  | true =>
    have HF : Hid (formI s = 1) := Lib.hid (by unfold formI; rw [if_pos hc])
    rw [hc] at HC
    clear hc
    go_enter Tryz.func48, Tryz.ntmps48
    go_wp2_with (go_at_call 52; refine HC.out.mono ?_; rintro e w' ⟨rfl, rfl⟩)
    go_ret
    exact ⟨ret_intP HF.out.symm, rfl⟩
  | false =>
    rw [hc] at HC
    cases hp : Lib.hasPrefix s.data.toList [42] with
    | false =>
      have HF : Hid (formI s = 0) := Lib.hid (by unfold formI starS; rw [hc, hp]; rfl)
      have hp' : Lib.hasPrefix s.data.toList (⟨#[42]⟩ : ByteArray).data.toList = false := hp
      rw [hp'] at HP
      clear hc hp hp'
      go_enter Tryz.func48, Tryz.ntmps48
      go_wp2_with (first
        | (go_at_call 52; refine HC.out.mono ?_; rintro e w' ⟨rfl, rfl⟩)
        | (go_at_call 51; refine HP.out.mono ?_; rintro e w' ⟨rfl, rfl⟩))
      go_ret
      exact ⟨ret_intP HF.out.symm, rfl⟩
    | true =>
      have HT : Hid (formI s = if tailOk s then 2 else 0) := Lib.hid (by unfold formI starS; rw [hc, hp]; rfl)
      have h1 : 1 ≤ s.size := by
        rcases Nat.eq_zero_or_pos s.size with h0 | h0
        · have : s.data.toList = [] := List.eq_nil_of_length_eq_zero (by simpa using h0)
          rw [this] at hp; cases hp
        · exact h0
      have hp' : Lib.hasPrefix s.data.toList (⟨#[42]⟩ : ByteArray).data.toList = true := hp
      rw [hp'] at HP
      clear hc hp hp'
      go_enter Tryz.func48, Tryz.ntmps48
      go_wp2_with (first
        | (go_at_call 52; refine HC.out.mono ?_; rintro e w' ⟨rfl, rfl⟩)
        | (go_at_call 51; refine HP.out.mono ?_; rintro e w' ⟨rfl, rfl⟩))
      go_loop [3] (fun i => ∃ k : Nat, 1 ≤ k ∧ k ≤ s.size ∧ i = .int .i64 k ∧ Hid (∀ j (hj : j < s.size), 1 ≤ j → j < k → byteB s[j].toNat = true)) (fun i => s.size - (intOf i).toNat)
      case atStart => exact ⟨1, Nat.le_refl _, h1, rfl, fun j _ a b => by omega⟩
      case round =>
        obtain ⟨k, hk1, hk, rfl, HI⟩ := hrel
        by_cases hlt : k < s.size
        · cases hl : byteB s[k].toNat
          · have HF : Hid (formI s = 0) := Lib.hid (by rw [HT.out, tail_no hlt hk1 hl]; rfl)
            have HL := Lib.hid hl
            clear HI
            go_wp2_with (go_at_call 78; refine (isByte_any _ _).mono ?_; rintro e w' ⟨rfl, rfl⟩)
            go_ret
            exact ⟨ret_intP HF.out.symm, rfl⟩
          · have HN : Hid (∀ j (hj : j < s.size), 1 ≤ j → j < k + 1 → byteB s[j].toNat = true) := Lib.hid (fun j hj a b => by
              by_cases e : j = k
              · subst e; exact hl
              · exact HI.out j hj a (by omega))
            have HL := Lib.hid hl
            clear HI
            go_wp2_with (go_at_call 78; refine (isByte_any _ _).mono ?_; rintro e w' ⟨rfl, rfl⟩)
            go_round
            case rel => exact ⟨k + 1, by omega, by omega, by go_num, HN.out⟩
            case measure => simp [intOf]; omega
        · have hke : k = s.size := by omega
          have HF : Hid (formI s = 2) := Lib.hid (by rw [HT.out, tail_yes (fun j hj a => HI.out j hj a (by omega))]; rfl)
          clear HI hke
          go_wp2
          go_ret
          exact ⟨ret_intP HF.out.symm, rfl⟩
end Go.Proofs.YtnblfaagchflaaaGreatDoor
/- The contracts of path.components, Split, Join. -/
namespace Go.Proofs.YtnblfaagchflaaaGreatDoor
open Go.RowKit
set_option linter.unusedVariables false

/-- The library's variable MaxLen holds some number. -/
def Env (w : World) : Prop := ∃ m : Int, w.cell? ⟨0, 0, none⟩ = some (.int .i64 m)
theorem Env.below {w w' : World} (h : Env w) (hb : Below w.heap.size w w') : Env w' := by
  obtain ⟨m, hm⟩ := h; exact ⟨m, (hb.cell (p := ⟨0, 0, none⟩) (cell_lt hm)).trans hm⟩
theorem Env.alloc {w : World} (h : Env w) (o : Obj) : Env (w.alloc o) := h.below ((Below.refl _ _).alloc (Nat.le_refl _) _)

def baL (p : List UInt8) : ByteArray := ⟨p.toArray⟩
def strCells (ps : List (List UInt8)) : List Value := ps.map fun p => .string (baL p)
theorem baL_data (p : List UInt8) : (baL p).data.toList = p := rfl
theorem baL_size (p : List UInt8) : (baL p).size = p.length := by simp [baL, ByteArray.size]

theorem cutP_yes (s p body : ByteArray) (w : World) (h : Lib.hasPrefix s.data.toList p.data.toList = true) (hb : body.data.toList = s.data.toList.drop p.data.toList.length) :
    Calls Tryz.prog 115 #[.string s, .string p] w fun e w' => e = .returned (.tuple #[.string body, .bool true]) ∧ w = w' := by
  refine (Tryz.strings_CutPrefix s p w).mono ?_
  rintro e w' ⟨rfl, rfl⟩
  rw [h]
  have : (⟨(Lib.trimPrefix s.data.toList p.data.toList).toArray⟩ : ByteArray) = body := ba_ext (by rw [hb]; unfold Lib.trimPrefix; rw [h]; rfl)
  rw [this]
  exact ⟨rfl, rfl⟩
theorem cutP_no (s p : ByteArray) (w : World) (h : Lib.hasPrefix s.data.toList p.data.toList = false) :
    Calls Tryz.prog 115 #[.string s, .string p] w fun e w' => e = .returned (.tuple #[.string s, .bool false]) ∧ w = w' := by
  refine (Tryz.strings_CutPrefix s p w).mono ?_
  rintro e w' ⟨rfl, rfl⟩
  rw [h]
  have : (⟨(Lib.trimPrefix s.data.toList p.data.toList).toArray⟩ : ByteArray) = s := ba_ext (by unfold Lib.trimPrefix; rw [h]; rfl)
  rw [this]
  exact ⟨rfl, rfl⟩

theorem split_any (s : ByteArray) (w : World) (he : Env w) (hs : s.size < 4294967281) :
    Calls Tryz.prog 116 #[.string s, .string ⟨#[47]⟩] w fun e w' =>
      e = .returned (.slice (some ⟨w.heap.size, 0, none⟩) (splitL s.data.toList).length (splitL s.data.toList).length) ∧ w.alloc (.cells (strCells (splitL s.data.toList)).toArray 9) = w' := by
  obtain ⟨m, hm⟩ := he
  refine (Tryz.strings_Split s ⟨#[47]⟩ m w hs hm (by decide)).mono ?_
  rintro e w' ⟨rfl, rfl⟩
  rw [countB_eq, splitB_eq]
  exact ⟨rfl, by unfold strCells; rw [List.map_map]; rfl⟩

theorem Blk.strs {w : World} {g : Nat} {ps : List (List UInt8)} (h : Blk w g 9 (strCells ps)) (k : Nat) (hk : k < ps.length) : w.cell? ⟨g, k, none⟩ = some (.string (baL ps[k])) := by
  rw [h.cell]; simp [strCells, hk]

set_option maxHeartbeats 1000000 in
theorem components_some (s : ByteArray) (least : Nat) (ps : List (List UInt8)) (w : World) (he : Env w) (hs : s.size ≤ 2000000) (hl : least ≤ 2) (h : dirL s.data.toList least = some ps) :
    Calls Tryz.prog 90 #[.string s, .int .i64 least] w fun e w' => e = .returned (.tuple #[.slice (some ⟨w.heap.size, 0, none⟩) ps.length ps.length, .bool true]) ∧ w.alloc (.cells (strCells ps).toArray 9) = w' := by
  unfold dirL at h
  split at h
  · rename_i hc
    obtain ⟨h1, h2, h3⟩ := hc
    injection h with h
    have hbl : (baL (s.data.toList.drop 2)).size ≤ 2000000 := by rw [baL_size, List.length_drop]; have : s.data.toList.length = s.size := rfl; omega
    have hmem : ∀ p ∈ ps, compL p = true ∧ p.length ≤ 2000000 := fun p hp => by
      rw [← h] at hp
      exact ⟨List.all_eq_true.1 h3 p hp, by have := (splitL_mem hp).2; rw [baL_size] at hbl; omega⟩
    have HS := Lib.hid (split_any (baL (s.data.toList.drop 2)) w he (by omega))
    have HP := Lib.hid (cutP_yes s ⟨#[47, 47]⟩ (baL (s.data.toList.drop 2)) w h1 rfl)
    rw [baL_data, h] at HS
    rw [h] at h2
    have hlen : ps.length ≤ 2000001 := by rw [← h]; have := splitL_length_le (s.data.toList.drop 2); rw [baL_size] at hbl; omega
    have HM := Lib.hid hmem
    have hd2 : decide (ps.length < least) = false := by simp; omega
    have hd3 : decide ((ps.length : Int) < (least : Int)) = false := by simp; omega
    have HB := Lib.hid (blk_new w (strCells ps) 9)
    clear h h1 h3 hmem
    generalize w.alloc (.cells (strCells ps).toArray 9) = W at HS HB ⊢
    go_enter Tryz.func90, Tryz.ntmps90
    go_wp2_with fail
    refine HP.out.mono ?_
    rintro e w' ⟨rfl, rfl⟩
    go_wp2_with fail
    refine HS.out.mono ?_
    rintro e w' ⟨rfl, rfl⟩
    go_wp2
    go_loop [26] (fun i => ∃ k : Nat, k ≤ ps.length ∧ i = .int .i64 k) (fun i => ps.length - (intOf i).toNat)
    case atStart => exact ⟨0, Nat.zero_le _, rfl⟩
    case round =>
      obtain ⟨k, hk, rfl⟩ := hrel
      by_cases hlt : k < ps.length
      · have hcell := HB.out.strs k hlt
        obtain ⟨hc1, hc2⟩ := HM.out ps[k] (by simp)
        have hcs : compS (baL ps[k]) = true := hc1
        go_wp2_with (go_at_call 52; refine (component_any _ _ (by rw [baL_size]; unfold maxLen; omega)).mono ?_; rintro e w' ⟨rfl, rfl⟩)
        go_round
        case rel => exact ⟨k + 1, by omega, by go_num⟩
        case measure => simp [intOf]; omega
      · go_wp2
        go_ret2
        exact ⟨rfl, rfl⟩
  · cases h

theorem all_take {α : Type} (ps : List α) (f : α → Bool) (k : Nat) (hk : k < ps.length) (h : (ps.take k).all f = true) (hf : f ps[k] = true) : (ps.take (k + 1)).all f = true := by
  rw [List.take_succ_eq_append_getElem hk, List.all_append, h]; simp [hf]

set_option maxHeartbeats 1000000 in
theorem components_none (s : ByteArray) (least : Nat) (w : World) (he : Env w) (hs : s.size ≤ 2000000) (h : dirL s.data.toList least = none) :
    Calls Tryz.prog 90 #[.string s, .int .i64 least] w fun e w' => e = .returned (.tuple #[.slice none 0 0, .bool false]) ∧ Below w.heap.size w w' := by
  cases h1 : Lib.hasPrefix s.data.toList [47, 47]
  · have HP := Lib.hid (cutP_no s ⟨#[47, 47]⟩ w h1)
    clear h h1
    go_enter Tryz.func90, Tryz.ntmps90
    go_wp2_with fail
    refine HP.out.mono ?_
    rintro e w' ⟨rfl, rfl⟩
    go_wp2
    go_ret2
    exact ⟨rfl, Below.refl _ _⟩
  · have hbl : (baL (s.data.toList.drop 2)).size ≤ 2000000 := by rw [baL_size, List.length_drop]; have : s.data.toList.length = s.size := rfl; omega
    have HS := Lib.hid (split_any (baL (s.data.toList.drop 2)) w he (by omega))
    have HP := Lib.hid (cutP_yes s ⟨#[47, 47]⟩ (baL (s.data.toList.drop 2)) w h1 rfl)
    rw [baL_data] at HS
    have hmem : ∀ p ∈ splitL (s.data.toList.drop 2), p.length ≤ 2000000 := fun p hp => by
      have := (splitL_mem hp).2; rw [baL_size] at hbl; omega
    have hlen : (splitL (s.data.toList.drop 2)).length ≤ 2000001 := by have := splitL_length_le (s.data.toList.drop 2); rw [baL_size] at hbl; omega
    have hno : ¬ (least ≤ (splitL (s.data.toList.drop 2)).length ∧ (splitL (s.data.toList.drop 2)).all compL = true) := fun hc => by
      unfold dirL at h; rw [if_pos ⟨h1, hc⟩] at h; cases h
    clear h h1
    generalize splitL (s.data.toList.drop 2) = ps at HS hmem hlen hno
    have HB := Lib.hid (blk_new w (strCells ps) 9)
    have HM := Lib.hid hmem
    have hbw : Below w.heap.size w (w.alloc (.cells (strCells ps).toArray 9)) := (Below.refl _ _).alloc (Nat.le_refl _) _
    clear hmem
    by_cases h2 : least ≤ ps.length
    · have hd2 : decide (ps.length < least) = false := by simp; omega
      have hd3 : decide ((ps.length : Int) < (least : Int)) = false := by simp; omega
      have hno' : ps.all compL = false := by cases hh : ps.all compL; rfl; exact absurd ⟨h2, hh⟩ hno
      have HN := Lib.hid hno'
      clear hno hno'
      generalize w.alloc (.cells (strCells ps).toArray 9) = W at HS HB hbw
      go_enter Tryz.func90, Tryz.ntmps90
      go_wp2_with fail
      refine HP.out.mono ?_
      rintro e w' ⟨rfl, rfl⟩
      go_wp2_with fail
      refine HS.out.mono ?_
      rintro e w' ⟨rfl, rfl⟩
      go_wp2
      go_loop [26] (fun i => ∃ k : Nat, k ≤ ps.length ∧ i = .int .i64 k ∧ (ps.take k).all compL = true) (fun i => ps.length - (intOf i).toNat)
      case atStart => exact ⟨0, Nat.zero_le _, rfl, rfl⟩
      case round =>
        obtain ⟨k, hk, rfl, hall⟩ := hrel
        have HA := Lib.hid hall
        clear hall
        by_cases hlt : k < ps.length
        · have hcell := HB.out.strs k hlt
          have hc2 := HM.out ps[k] (by simp)
          cases hc1 : compL ps[k]
          · have hcs : compS (baL ps[k]) = false := hc1
            clear hc1
            go_wp2_with (go_at_call 52; refine (component_any _ _ (by rw [baL_size]; unfold maxLen; omega)).mono ?_; rintro e w' ⟨rfl, rfl⟩)
            go_ret2
            exact ⟨rfl, hbw⟩
          · have hcs : compS (baL ps[k]) = true := hc1
            have HC := Lib.hid hc1
            clear hc1
            go_wp2_with (go_at_call 52; refine (component_any _ _ (by rw [baL_size]; unfold maxLen; omega)).mono ?_; rintro e w' ⟨rfl, rfl⟩)
            go_round
            case rel => exact ⟨k + 1, by omega, by go_num, all_take ps compL k hlt HA.out HC.out⟩
            case measure => simp [intOf]; omega
        · have := HA.out
          rw [List.take_of_length_le (by omega), HN.out] at this
          cases this
    · have hd2 : decide (ps.length < least) = true := by simp; omega
      have hd3 : decide ((ps.length : Int) < (least : Int)) = true := by simp; omega
      clear hno
      generalize w.alloc (.cells (strCells ps).toArray 9) = W at HS HB hbw
      go_enter Tryz.func90, Tryz.ntmps90
      go_wp2_with fail
      refine HP.out.mono ?_
      rintro e w' ⟨rfl, rfl⟩
      go_wp2_with fail
      refine HS.out.mono ?_
      rintro e w' ⟨rfl, rfl⟩
      go_wp2
      go_ret2
      exact ⟨rfl, hbw⟩

theorem split_some (s : ByteArray) (ps : List (List UInt8)) (w : World) (he : Env w) (hs : s.size ≤ 2000000) (h : dirL s.data.toList 2 = some ps) :
    Calls Tryz.prog 55 #[.string s] w fun e w' => e = .returned (.tuple #[.slice (some ⟨w.heap.size, 0, none⟩) ps.length ps.length, .int .i64 0]) ∧ w.alloc (.cells (strCells ps).toArray 9) = w' := by
  have H := Lib.hid (components_some s 2 ps w he hs (by omega) h)
  generalize w.alloc (.cells (strCells ps).toArray 9) = W at H ⊢
  clear h he
  go_enter Tryz.func55, Tryz.ntmps55
  go_wp2_with fail
  refine H.out.mono ?_
  rintro e w' ⟨rfl, rfl⟩
  go_wp2
  go_ret2
  exact ⟨rfl, rfl⟩
theorem split_none (s : ByteArray) (w : World) (he : Env w) (hs : s.size ≤ 2000000) (h : dirL s.data.toList 2 = none) :
    Calls Tryz.prog 55 #[.string s] w fun e w' => e = .returned (.tuple #[.slice none 0 0, .int .i64 20]) ∧ Below w.heap.size w w' := by
  have H := Lib.hid (components_none s 2 w he hs h)
  clear h he
  go_enter Tryz.func55, Tryz.ntmps55
  go_wp2_with fail
  refine H.out.mono ?_
  rintro e w' ⟨rfl, hb⟩
  go_wp2
  go_ret2
  exact ⟨rfl, hb⟩

end Go.Proofs.YtnblfaagchflaaaGreatDoor
/- Patterns: the walk of Check. -/
namespace Go.Proofs.YtnblfaagchflaaaGreatDoor
open Go.RowKit
set_option linter.unusedVariables false
set_option linter.unusedSimpArgs false

theorem patE_0 {p : Pat} (h : p.parts.length = 0) : patE p = 30 := by unfold patE; rw [if_pos (.inl h)]
theorem patE_1 {p : Pat} (h : p.parts.length = 1) (hr : p.rest = false) : patE p = 30 := by unfold patE; rw [if_pos (.inr ⟨h, hr⟩)]
theorem patE_form {p : Pat} (h : partsOk p.parts = false) : patE p = 30 := by
  unfold patE
  by_cases h1 : p.parts.length = 0 ∨ (p.parts.length = 1 ∧ p.rest = false)
  · rw [if_pos h1]
  · rw [if_neg h1, if_pos h]
theorem patE_end {p : Pat} (h1 : ¬ (p.parts.length = 0 ∨ (p.parts.length = 1 ∧ p.rest = false))) (h : partsOk p.parts = true) : patE p = if 12 < p.parts.length then 31 else 0 := by
  unfold patE
  rw [if_neg h1, if_neg (by rw [h]; simp)]
theorem formI_cases (s : ByteArray) : formI s = 0 ∨ formI s = 1 ∨ formI s = 2 := by
  unfold formI
  split
  · exact .inr (.inl rfl)
  · split
    · split
      · exact .inr (.inr rfl)
      · exact .inl rfl
    · exact .inl rfl
set_option maxRecDepth 100000 in
set_option maxHeartbeats 4000000 in
theorem patCheck_any (p : Pat) (A : Option Addr) (c : Nat) (w : World) (hS : Strs w (.slice A p.parts.length c) p.parts) (hz : ∀ x ∈ p.parts, x.size ≤ maxLen) :
    Calls Tryz.prog 18 #[.agg #[.slice A p.parts.length c, .bool p.rest]] w fun e w' => e = .returned (.int .i64 (patE p)) ∧ Below w.heap.size w w' := by
  obtain ⟨A', c', e', hcc, hmm, -⟩ := id hS
  injection e' with e1 e2 e3
  subst e1 e3
  unfold maxLen at hmm
  have HS := Lib.hid hS
  have HZ := Lib.hid hz
  have HF := Lib.hid (fun x (hx : x.size ≤ maxLen) X => formOf_any x X hx)
  obtain ⟨parts, rest⟩ := p
  dsimp only at hcc hmm HS HZ ⊢
  have HE0 := Lib.hid (@patE_0 ⟨parts, rest⟩)
  have HE1 := Lib.hid (@patE_1 ⟨parts, rest⟩)
  have HEF := Lib.hid (@patE_form ⟨parts, rest⟩)
  have HEE := Lib.hid (@patE_end ⟨parts, rest⟩)
  have hB := blk_new w [.slice A parts.length c, .bool rest] 25
  have hA : Below w.heap.size w (w.alloc (.cells #[.slice A parts.length c, .bool rest] 25)) := (Below.refl _ _).alloc (Nat.le_refl _) _
  clear hS hz e2
  go_enter Tryz.func18, Tryz.ntmps18
  go_upto_region 1 with fail
  generalize w.alloc (.cells #[.slice A parts.length c, .bool rest] 25) = W1 at hB hA ⊢
  have d0 : W1.cell? ⟨w.heap.size, 0, none⟩ = some (.slice A parts.length c) := hB.cell 0
  have d1 : W1.cell? ⟨w.heap.size, 1, none⟩ = some (.bool rest) := hB.cell 1
  have HB := Lib.hid hB
  have HA := Lib.hid hA
  clear hB hA
  by_cases h0 : parts.length = 0
  · have q0 : ((parts.length : Int) == 0) = true := by rw [beq_iff_eq]; omega
    have HR := Lib.hid (HE0.out h0)
    clear h0
    go_wp2_with fail
    go_ret
    exact ⟨ret_intP HR.out.symm, HA.out⟩
  have q0 : ((parts.length : Int) == 0) = false := by rw [beq_eq_false_iff_ne]; omega
  have HN1 : Hid (parts.length = 1 ∧ rest = false ∨ ¬ (parts.length = 0 ∨ (parts.length = 1 ∧ rest = false))) := Lib.hid (by
    by_cases h : parts.length = 1 ∧ rest = false
    · exact .inl h
    · exact .inr (fun hh => by rcases hh with hh | hh; exact h0 hh; exact h hh))
  clear h0
  rcases HN1.out with ⟨h1, hr⟩ | hgood
  · have q1 : ((parts.length : Int) == 1) = true := by rw [beq_iff_eq]; omega
    have HR := Lib.hid (HE1.out h1 hr)
    subst hr
    clear h1 HN1
    go_wp2_with fail
    go_ret
    exact ⟨ret_intP HR.out.symm, HA.out⟩
  have HG := Lib.hid hgood
  clear HN1 hgood
  go_cut [19] (fun v wx => v = .bool false ∧ wx = W1)
  case first =>
    by_cases h1 : parts.length = 1
    · have q1 : ((parts.length : Int) == 1) = true := by rw [beq_iff_eq]; omega
      have hr : rest = true := by
        cases rest with
        | true => rfl
        | false => exact absurd (.inr ⟨h1, rfl⟩) HG.out
      subst hr
      clear h1
      go_wp2_with fail
      go_meet
      exact ⟨rfl, rfl⟩
    · have q1 : ((parts.length : Int) == 1) = false := by rw [beq_eq_false_iff_ne]; omega
      clear h1
      go_wp2_with fail
      go_meet
      exact ⟨rfl, rfl⟩
  case rest =>
    obtain ⟨rfl, rfl⟩ := hcut
    clear q0
    go_wp2_with fail
    go_loop [23] (fun i => ∃ k : Nat, k ≤ parts.length ∧ i = .int .i64 k ∧ Hid (∀ j (hj : j < parts.length), j < k → partOk j parts[j] = true)) (fun i => parts.length - (intOf i).toNat)
    case atStart => exact ⟨0, Nat.zero_le _, rfl, fun j _ a => by omega⟩
    case round =>
      obtain ⟨k, hk, rfl, HI⟩ := hrel
      by_cases hlt : k < parts.length
      · obtain ⟨ad, rfl, hab, x0⟩ := Strs.at_ (HS.out.below HA.out) hlt
        have HX := Lib.hid (HF.out parts[k] (HZ.out _ (List.getElem_mem hlt)))
        have HNO := Lib.hid (fun h => HEF.out (partsOk_no hlt h))
        have HYS : Hid (partOk k parts[k] = true → ∀ j (hj : j < parts.length), j < k + 1 → partOk j parts[j] = true) := Lib.hid (fun h j hj a => by
          by_cases e : j = k
          · subst e; exact h
          · exact HI.out j hj (by omega))
        have HPO : Hid (partOk k parts[k] = (decide (formI parts[k] ≠ 0) && !(decide (k = 0) && decide (formI parts[k] = 2)))) := Lib.hid rfl
        have hfc := formI_cases parts[k]
        generalize parts[k] = x at x0 HX HNO HYS HPO hfc
        generalize formI x = f at HX HPO hfc
        clear HI
        rcases hfc with rfl | rfl | rfl
        · have HR := Lib.hid (HNO.out (by rw [HPO.out]; rfl))
          go_wp2_with (go_at_call 48; refine (HX.out _).mono ?_; rintro e w' ⟨rfl, rfl⟩)
          go_ret
          exact ⟨ret_intP HR.out.symm, HA.out⟩
        · have HR := Lib.hid (HYS.out (by rw [HPO.out]; simp))
          go_wp2_with (go_at_call 48; refine (HX.out _).mono ?_; rintro e w' ⟨rfl, rfl⟩)
          go_round
          case rel => exact ⟨k + 1, by omega, by go_num, HR.out⟩
          case measure => simp [intOf]; omega
        · by_cases hk0 : k = 0
          · have HR := Lib.hid (HNO.out (by rw [HPO.out, hk0]; rfl))
            have qk : ((k : Int) == 0) = true := by rw [beq_iff_eq]; omega
            have HK := Lib.hid hk0
            clear hk0
            go_wp2_with (go_at_call 48; refine (HX.out _).mono ?_; rintro e w' ⟨rfl, rfl⟩)
            go_ret
            exact ⟨ret_intP HR.out.symm, HA.out⟩
          · have HR := Lib.hid (HYS.out (by rw [HPO.out]; simp [hk0]))
            have qk : ((k : Int) == 0) = false := by rw [beq_eq_false_iff_ne]; omega
            clear hk0
            go_wp2_with (go_at_call 48; refine (HX.out _).mono ?_; rintro e w' ⟨rfl, rfl⟩)
            go_round
            case rel => exact ⟨k + 1, by omega, by go_num, HR.out⟩
            case measure => simp [intOf]; omega
      · have HR := Lib.hid (HEE.out HG.out (partsOk_yes (fun j hj => HI.out j hj (by omega))))
        have hge : ¬ ((k : Int) < (parts.length : Int)) := by omega
        clear HI
        by_cases h12 : 12 < parts.length
        · have q12 : decide ((12 : Int) < (parts.length : Int)) = true := by simp; omega
          rw [if_pos h12] at HR
          clear h12
          go_wp2_with fail
          go_ret
          exact ⟨ret_intP HR.out.symm, HA.out⟩
        · have q12 : decide ((12 : Int) < (parts.length : Int)) = false := by simp; omega
          rw [if_neg h12] at HR
          clear h12
          go_wp2_with fail
          go_ret
          exact ⟨ret_intP HR.out.symm, HA.out⟩
end Go.Proofs.YtnblfaagchflaaaGreatDoor
