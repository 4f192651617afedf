/- The contracts of path.IsByte, path.Component and the reference's Component. -/
import Derived.Test.YteolonjmgojoeaaGreatDoorRows
import Derived.WalkKit
import Derived.WalkSpells
import Derived.WalkLawsBesides
import Derived.Lib.Hide
import Derived.Deep.QuietTactic
import Derived.BigQuiet
import Derived.Maps.AppendAt
import Derived.OwnWalkIn
import Derived.Lib.AppendStr
namespace Go.Proofs.YteolonjmgojoeaaGreatDoor
open Go.RowKit

def byteB (c : Int) : Bool := decide (65 ≤ c ∧ c ≤ 90 ∨ 97 ≤ c ∧ c ≤ 122 ∨ 48 ≤ c ∧ c ≤ 57 ∨ c = 95 ∨ c = 46 ∨ c = 43 ∨ c = 45)
def compL (l : List UInt8) : Bool := (!l.isEmpty && l.head? != some 46) && l.all (fun c => byteB c.toNat)
def compS (s : ByteArray) : Bool := compL s.data.toList

theorem ret_bool {a b : Bool} (h : a = b) : Ending.returned (.bool a) = .returned (.bool b) := by rw [h]

set_option maxHeartbeats 1000000 in
theorem isByte_any (c : Int) (w : World) :
    Calls Tryz.prog 97 #[.int .u8 c] w fun e w' => e = .returned (.bool (byteB c)) ∧ w = w' := by
  go_enter Tryz.func97, Tryz.ntmps97
  go_wp2
  all_goals
    go_ret
    refine ⟨ret_bool ?_, rfl⟩
    unfold byteB
    first
      | decide
      | (rw [eq_comm, decide_eq_true_eq]; omega)
      | (rw [Bool.eq_iff_iff]; simp only [Bool.or_eq_true, beq_iff_eq, decide_eq_true_eq]; omega)

theorem take_snoc (s : ByteArray) (k : Nat) (h : k < s.size) : s.data.toList.take (k + 1) = s.data.toList.take k ++ [s[k]] := by
  rw [List.take_succ_eq_append_getElem (by simpa using h)]; rfl
theorem all_step (s : ByteArray) (p : UInt8 → Bool) (k : Nat) (h : k < s.size) (ha : (s.data.toList.take k).all p = true) (hp : p s[k] = true) : (s.data.toList.take (k + 1)).all p = true := by
  rw [take_snoc s k h, List.all_append, ha]; simp [hp]
theorem all_stop (s : ByteArray) (p : UInt8 → Bool) (k : Nat) (h : k < s.size) (hp : p s[k] = false) : s.data.toList.all p = false := by
  rw [List.all_eq_false]; exact ⟨s[k], Array.getElem_mem_toList .., by simp [hp]⟩
theorem all_end (s : ByteArray) (p : UInt8 → Bool) (k : Nat) (h : ¬ k < s.size) (ha : (s.data.toList.take k).all p = true) : s.data.toList.all p = true := by
  rwa [List.take_of_length_le (by simpa using (Nat.not_lt.1 h))] at ha

theorem size_pos_of {s : ByteArray} (h : 0 < s.size) : ∃ c t, s.data.toList = c :: t ∧ s[0] = c := by
  have hl : 0 < s.data.toList.length := by simpa using h
  cases hd : s.data.toList with
  | nil => rw [hd] at hl; simp at hl
  | cons c t =>
    refine ⟨c, t, rfl, ?_⟩
    have : s.data.toList[0] = c := by simp [hd]
    rw [← this]; simp; rfl

theorem compS_nil {s : ByteArray} (h : s.size = 0) : compS s = false := by
  have hl : s.data.toList = [] := List.eq_nil_of_length_eq_zero (by simpa using h)
  unfold compS compL; rw [hl]; rfl
theorem compS_dot {s : ByteArray} {c : UInt8} {t : List UInt8} (h : s.data.toList = c :: t) (hc : c = 46) : compS s = false := by
  unfold compS compL; rw [h, hc]; simp
theorem compS_all {s : ByteArray} {c : UInt8} {t : List UInt8} (h : s.data.toList = c :: t) (hc : c ≠ 46) : compS s = s.data.toList.all (fun c => byteB c.toNat) := by
  unfold compS compL; rw [h]; simp [hc]
theorem compS_no {s : ByteArray} (h : s.data.toList.all (fun c => byteB c.toNat) = false) : compS s = false := by
  unfold compS compL; rw [h]; simp
set_option maxHeartbeats 1000000 in
theorem component_any (s : ByteArray) (w : World) (hs : s.size ≤ maxLen) :
    Calls Tryz.prog 80 #[.string s] w fun e w' => e = .returned (.bool (compS s)) ∧ w = w' := by
  unfold maxLen at hs
  rcases Nat.eq_zero_or_pos s.size with h0 | h0
  · have hne : s.toList = [] := by rw [ByteArray.toList_eq]; exact List.eq_nil_of_length_eq_zero (by simpa using h0)
    have H0 := Lib.hid (compS_nil h0)
    clear h0
    go_enter Tryz.func80, Tryz.ntmps80
    go_wp2
    go_ret
    exact ⟨ret_bool H0.out.symm, rfl⟩
  · obtain ⟨c, t, hd, hc⟩ := size_pos_of h0
    have hne : s.toList.isEmpty = false := by rw [ByteArray.toList_eq, hd]; rfl
    have hne2 : ¬ s.toList = [] := by rw [ByteArray.toList_eq, hd]; simp
    have HD := Lib.hid hd
    by_cases hc46 : c = 46
    · have h46 : ((s[0].toNat : Int) == 46) = true := by rw [hc, hc46]; rfl
      clear hd hc
      go_enter Tryz.func80, Tryz.ntmps80
      go_wp2
      go_ret
      exact ⟨ret_bool (compS_dot HD.out hc46).symm, rfl⟩
    · have h46 : ((s[0].toNat : Int) == 46) = false := by
        rw [hc, beq_eq_false_iff_ne]; intro h; exact hc46 (UInt8.toNat.inj (show c.toNat = 46 by omega))
      have HE := Lib.hid (compS_all HD.out hc46)
      clear hd hc HD hc46
      go_enter Tryz.func80, Tryz.ntmps80
      go_wp2
      clear h46
      go_loop [13] (fun i => ∃ k : Nat, k ≤ s.size ∧ i = .int .i64 k ∧ (s.data.toList.take k).all (fun c => byteB c.toNat) = true) (fun i => s.size - (intOf i).toNat)
      case atStart => exact ⟨0, Nat.zero_le _, rfl, rfl⟩
      case round =>
        obtain ⟨k, hk, rfl, hall⟩ := hrel
        have HA := Lib.hid hall
        clear hall
        by_cases hlt : k < s.size
        · cases hl : byteB s[k].toNat
          · have HL := Lib.hid hl
            go_wp2_with (go_at_call 97; refine (isByte_any _ _).mono ?_; rintro e w' ⟨rfl, rfl⟩)
            go_ret
            exact ⟨ret_bool (compS_no (all_stop s (fun c => byteB c.toNat) k hlt HL.out)).symm, rfl⟩
          · have HL := Lib.hid hl
            go_wp2_with (go_at_call 97; refine (isByte_any _ _).mono ?_; rintro e w' ⟨rfl, rfl⟩)
            go_round
            case rel => exact ⟨k + 1, by omega, by go_num, all_step s (fun c => byteB c.toNat) k hlt HA.out HL.out⟩
            case measure => simp [intOf]; omega
        · go_wp2
          go_ret
          exact ⟨ret_bool (by rw [HE.out, all_end s _ k hlt HA.out]), rfl⟩

end Go.Proofs.YteolonjmgojoeaaGreatDoor
