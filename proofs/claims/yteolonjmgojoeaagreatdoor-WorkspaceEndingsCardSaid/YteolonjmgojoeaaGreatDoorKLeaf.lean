/- The contracts of keyword's small functions. -/
import Derived.Test.YteolonjmgojoeaaGreatDoorCore
namespace Go.Proofs.YteolonjmgojoeaaGreatDoor.kw
set_option linter.unusedVariables false
set_option linter.unusedSimpArgs false
open Go.RowKit

def letterB (c : Int) : Bool := decide (65 ≤ c ∧ c ≤ 90 ∨ 97 ≤ c ∧ c ≤ 122)
def nameB (l : List UInt8) : Bool := l.all (fun c => letterB c.toNat) && decide (0 < l.length ∧ l.length ≤ 24)
def nameS (s : ByteArray) : Bool := nameB s.data.toList

def valueB (l : List UInt8) : Bool := l.all (fun c => decide (32 ≤ c.toNat ∧ c.toNat ≤ 126 ∧ c.toNat ≠ 36)) && decide (l.length ≤ 1024)
def valueS (s : ByteArray) : Bool := valueB s.data.toList
def endNameL (l : List UInt8) (at_ : Nat) : Nat := at_ + ((l.drop at_).takeWhile (fun c => letterB c.toNat)).length

theorem take_snoc (s : ByteArray) (k : Nat) (h : k < s.size) : s.data.toList.take (k + 1) = s.data.toList.take k ++ [s[k]] := by
  rw [List.take_succ_eq_append_getElem (by simpa using h)]; rfl
theorem all_step (s : ByteArray) (p : UInt8 → Bool) (k : Nat) (h : k < s.size) (ha : (s.data.toList.take k).all p = true) (hp : p s[k] = true) : (s.data.toList.take (k + 1)).all p = true := by
  rw [take_snoc s k h, List.all_append, ha]; simp [hp]
theorem all_stop (s : ByteArray) (p : UInt8 → Bool) (k : Nat) (h : k < s.size) (hp : p s[k] = false) : s.data.toList.all p = false := by
  rw [List.all_eq_false]; exact ⟨s[k], Array.getElem_mem_toList .., by simp [hp]⟩
theorem all_end (s : ByteArray) (p : UInt8 → Bool) (k : Nat) (h : ¬ k < s.size) (ha : (s.data.toList.take k).all p = true) : s.data.toList.all p = true := by
  rwa [List.take_of_length_le (by simpa using (Nat.not_lt.1 h))] at ha

set_option maxHeartbeats 400000 in
theorem isLetter_any (c : Int) (w : World) :
    Calls Tryz.prog 124 #[.int .u8 c] w fun e w' => e = .returned (.bool (letterB c)) ∧ w = w' := by
  unfold letterB
  by_cases h1 : 65 ≤ c <;> by_cases h2 : c ≤ 90 <;> by_cases h3 : 97 ≤ c <;> by_cases h4 : c ≤ 122
  all_goals
    go_enter Tryz.func124, Tryz.ntmps124
    go_wp2
    go_ret
    simp [h1, h2, h3, h4]

theorem ret_bool {a b : Bool} (h : a = b) : Ending.returned (.bool a) = .returned (.bool b) := by rw [h]

theorem nameS_end (s : ByteArray) (h : s.data.toList.all (fun c => letterB c.toNat) = true) : nameS s = decide (0 < s.size ∧ s.size ≤ 24) := by
  unfold nameS nameB; rw [h]; simp
theorem nameS_no (s : ByteArray) (h : s.data.toList.all (fun c => letterB c.toNat) = false) : nameS s = false := by
  unfold nameS nameB; rw [h]; rfl
theorem nameS_e0 (s : ByteArray) (h : s.toList = []) : decide (0 < s.size ∧ s.size ≤ 24) = false := by
  rw [ByteArray.toList_eq] at h
  have : s.size = 0 := by show s.data.size = 0; rw [← Array.length_toList, h]; rfl
  simp [this]
theorem nameS_e1 (s : ByteArray) : (!s.toList.isEmpty && decide ((s.size : Int) ≤ 24)) = decide (0 < s.size ∧ s.size ≤ 24) := by
  rw [ByteArray.toList_eq]
  have h : s.data.toList.isEmpty = decide (s.size = 0) := by
    have : s.size = s.data.toList.length := rfl
    rw [this]; cases s.data.toList <;> simp
  rw [h]
  rw [Bool.eq_iff_iff, Bool.and_eq_true, Bool.not_eq_true', decide_eq_false_iff_not, decide_eq_true_eq, decide_eq_true_eq]; omega

set_option maxHeartbeats 400000 in
theorem isName_any (s : ByteArray) (w : World) (hs : s.size ≤ maxLen) :
    Calls Tryz.prog 110 #[.string s] w fun e w' => e = .returned (.bool (nameS s)) ∧ w = w' := by
  unfold maxLen at hs
  go_enter Tryz.func110, Tryz.ntmps110
  go_wp2
  go_loop [6] (fun i => ∃ k : Nat, k ≤ s.size ∧ i = .int .i64 k ∧ (s.data.toList.take k).all (fun c => letterB c.toNat) = true) (fun i => s.size - (intOf i).toNat)
  case atStart => exact ⟨0, Nat.zero_le _, rfl, rfl⟩
  case round =>
    obtain ⟨k, hk, rfl, hall⟩ := hrel
    have HA := Lib.hid hall
    clear hall
    by_cases hlt : k < s.size
    · cases hl : letterB s[k].toNat
      · have HL := Lib.hid hl
        go_wp2_with (go_at_call 124; refine (isLetter_any _ _).mono ?_; rintro e w' ⟨rfl, rfl⟩)
        go_ret
        exact ⟨ret_bool (nameS_no s (all_stop s (fun c => letterB c.toNat) k hlt HL.out)).symm, rfl⟩
      · have HL := Lib.hid hl
        go_wp2_with (go_at_call 124; refine (isLetter_any _ _).mono ?_; rintro e w' ⟨rfl, rfl⟩)
        go_round
        case rel => exact ⟨k + 1, by omega, by go_num, all_step s (fun c => letterB c.toNat) k hlt HA.out HL.out⟩
        case measure => simp [intOf]; omega
    · go_wp2
      all_goals
        go_ret
        refine ⟨ret_bool ?_, rfl⟩
        rw [nameS_end s (all_end s _ k hlt HA.out)]
        first
          | exact (nameS_e0 s (by assumption)).symm
          | exact nameS_e1 s

theorem valueS_end (s : ByteArray) (h : s.data.toList.all (fun c => decide (32 ≤ c.toNat ∧ c.toNat ≤ 126 ∧ c.toNat ≠ 36)) = true) : valueS s = decide ((s.size : Int) ≤ 1024) := by
  unfold valueS valueB; rw [h]; simp; omega
theorem valueS_no (s : ByteArray) (h : s.data.toList.all (fun c => decide (32 ≤ c.toNat ∧ c.toNat ≤ 126 ∧ c.toNat ≠ 36)) = false) : valueS s = false := by
  unfold valueS valueB; rw [h]; rfl

set_option maxHeartbeats 400000 in
theorem isValue_any (s : ByteArray) (w : World) (hs : s.size ≤ maxLen) :
    Calls Tryz.prog 111 #[.string s] w fun e w' => e = .returned (.bool (valueS s)) ∧ w = w' := by
  unfold maxLen at hs
  go_enter Tryz.func111, Tryz.ntmps111
  go_wp2
  go_loop [6] (fun i => ∃ k : Nat, k ≤ s.size ∧ i = .int .i64 k ∧ (s.data.toList.take k).all (fun c => decide (32 ≤ c.toNat ∧ c.toNat ≤ 126 ∧ c.toNat ≠ 36)) = true) (fun i => s.size - (intOf i).toNat)
  case atStart => exact ⟨0, Nat.zero_le _, rfl, rfl⟩
  case round =>
    obtain ⟨k, hk, rfl, hall⟩ := hrel
    have HA := Lib.hid hall
    clear hall
    by_cases hlt : k < s.size
    · go_wp2
      all_goals first
        | (go_round
           case rel => exact ⟨k + 1, by omega, by go_num, all_step s _ k hlt HA.out (by rw [decide_eq_true_eq]; simp only [beq_eq_false_iff_ne] at *; omega)⟩
           case measure => simp [intOf]; omega)
        | (go_ret
           exact ⟨ret_bool (valueS_no s (all_stop s _ k hlt (by rw [decide_eq_false_iff_not]; (try simp only [beq_iff_eq] at *); omega))).symm, rfl⟩)
    · go_wp2
      go_ret
      exact ⟨ret_bool (valueS_end s (all_end s _ k hlt HA.out)).symm, rfl⟩

theorem endNameL_step (l : List UInt8) (k : Nat) (h : k < l.length) (hl : letterB l[k].toNat = true) : endNameL l (k + 1) = endNameL l k := by
  unfold endNameL
  rw [List.drop_eq_getElem_cons h, List.takeWhile_cons, if_pos hl, List.length_cons]; omega
theorem endNameL_stop (l : List UInt8) (k : Nat) (h : k < l.length) (hl : letterB l[k].toNat = false) : endNameL l k = k := by
  unfold endNameL
  rw [List.drop_eq_getElem_cons h, List.takeWhile_cons, if_neg (by simp [hl])]; simp
theorem endNameL_end (l : List UInt8) (k : Nat) (h : l.length ≤ k) : endNameL l k = k := by
  unfold endNameL
  rw [List.drop_of_length_le h]; simp
theorem endNameL_le (l : List UInt8) (k : Nat) (h : k ≤ l.length) : endNameL l k ≤ l.length := by
  unfold endNameL
  have := (List.takeWhile_sublist (l := l.drop k) (fun c => letterB c.toNat)).length_le
  rw [List.length_drop] at this; omega

theorem ret_int {k : IntKind} {a b : Int} (h : a = b) : Ending.returned (.int k a) = .returned (.int k b) := by rw [h]

set_option maxHeartbeats 400000 in
theorem endName_any (l : List UInt8) (v : Value) (at_ : Nat) (w : World) (hb : Bytes w v l) (hl : l.length ≤ 2000000) (ha : at_ ≤ l.length) :
    Calls Tryz.prog 114 #[v, .int .i64 at_] w fun e w' => e = .returned (.int .i64 (endNameL l at_)) ∧ w = w' := by
  obtain ⟨A, c, rfl, hc, hm, hlen, h00, hx⟩ := id hb
  clear hx hlen h00
  have HB := Lib.hid hb
  clear hb
  go_enter Tryz.func114, Tryz.ntmps114
  go_wp2
  go_loop [1] (fun i => ∃ k : Nat, k ≤ l.length ∧ i = .int .i64 k ∧ endNameL l k = endNameL l at_) (fun i => l.length - (intOf i).toNat)
  case atStart => exact ⟨at_, ha, rfl, rfl⟩
  case round =>
    obtain ⟨k, hk, rfl, he⟩ := hrel
    have HE := Lib.hid he
    clear he
    by_cases hlt : k < l.length
    · obtain ⟨ad, rfl, -, hcell⟩ := HB.out.at_ hlt
      cases hl : letterB l[k].toNat
      · have HL := Lib.hid hl
        go_wp2_with (go_at_call 124; refine (isLetter_any _ _).mono ?_; rintro e w' ⟨rfl, rfl⟩)
        go_ret
        exact ⟨ret_int (by rw [← HE.out, endNameL_stop l k hlt HL.out]), rfl⟩
      · have HL := Lib.hid hl
        go_wp2_with (go_at_call 124; refine (isLetter_any _ _).mono ?_; rintro e w' ⟨rfl, rfl⟩)
        go_round
        case rel => exact ⟨k + 1, by omega, by go_num, by rw [endNameL_step l k hlt HL.out]; exact HE.out⟩
        case measure => simp [intOf]; omega
    · go_wp2
      go_ret
      exact ⟨ret_int (by rw [← HE.out, endNameL_end l k (by omega)]), rfl⟩

end Go.Proofs.YteolonjmgojoeaaGreatDoor.kw
