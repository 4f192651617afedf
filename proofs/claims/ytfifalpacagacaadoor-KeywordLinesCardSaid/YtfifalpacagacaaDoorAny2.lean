/- strings.IndexRune and IndexAny at the two bytes 0 and 10, over any bytes: the rest. -/
import Derived.Test.YtfifalpacagacaaDoorAny
namespace Go.Proofs.YtfifalpacagacaaDoor
open Go.RowKit
set_option linter.unusedVariables false

/-- A rune of two bytes or more. -/
theorem enc_two (r : Nat) (h1 : 128 ≤ r) (h2 : r < 2048) : Utf8.encode r = ⟨#[UInt8.ofNat (192 + r / 64), UInt8.ofNat (128 + r % 64)]⟩ := by
  unfold Utf8.encode
  have hv : Utf8.valid (r : Int) = true := by unfold Utf8.valid; simp; omega
  simp only [hv, if_true, Int.toNat_natCast]
  rw [if_neg (by omega), if_pos (by omega)]
theorem enc_more (r : Nat) (h1 : 2048 ≤ r) (h2 : r ≤ 1114111) (hv : Utf8.valid (r : Int) = true) : 3 ≤ (Utf8.encode r).size ∧ (Utf8.encode r).size ≤ 4 := by
  unfold Utf8.encode
  simp only [hv, if_true, Int.toNat_natCast]
  rw [if_neg (by omega), if_neg (by omega)]
  split <;> simp [ByteArray.size]

theorem validRune_yes (r : Nat) (w : World) (hv : Utf8.valid (r : Int) = true) : Calls Tryd.prog 117 #[.int .i32 r] w fun e w' => e = .returned (.bool true) ∧ w = w' := by
  refine (Tryd.utf8_ValidRune r w).mono ?_
  rintro e w' ⟨rfl, rfl⟩
  have : Lib.validRune (r : Int) = true := by
    unfold Utf8.valid at hv
    unfold Lib.validRune
    simp at hv ⊢
    omega
  exact ⟨by rw [this], rfl⟩

set_option maxHeartbeats 2000000 in
set_option maxRecDepth 1000000 in
theorem indexRune_two (r : Nat) (w : World) (h1 : 128 ≤ r) (h2 : r < 2048) :
    Calls Tryd.prog 100 #[.string nul10, .int .i32 r] w fun e w' => e = .returned (.int .i64 (-1)) ∧ Below w.heap.size w w' := by
  unfold nul10
  have he := enc_two r h1 h2
  have hr : ((r : Int) == 65533) = false := beq_eq_false_iff_ne.2 (by omega)
  have hb : ((128 + r % 64 : Nat)) < 256 := by omega
  generalize h3 : UInt8.ofNat (128 + r % 64) = b at he
  have hbn : 128 ≤ b.toNat := by rw [← h3, UInt8.toNat_ofNat', Nat.mod_eq_of_lt hb]; omega
  have hvr : Utf8.valid (r : Int) = true := by unfold Utf8.valid; simp; omega
  have HV := Lib.hid hvr
  clear h3 hb hvr
  go_enter Tryd.func100, Tryd.ntmps100
  go_wp2_with fail
  refine (validRune_yes r _ HV.out).mono ?_
  rintro e w' ⟨rfl, rfl⟩
  go_wp2_with fail
  go_step3
  go_wp2_with fail
  refine wp_loop_rounds 1 ?_
  rw [rounds_succ]
  go_wp2_with fail
  go_step3
  have hne : ((10 : Int) != (b.toNat : Int)) = true := by rw [bne_iff_ne]; omega
  have hne2 : ((10 : Int) == (b.toNat : Int)) = false := beq_eq_false_iff_ne.2 (by omega)
  have g1 : ((⟨#[0, 10]⟩ : ByteArray)[1]'(by decide)).toNat = 10 := rfl
  have g2 : ((⟨#[192 + UInt8.ofNat (r / 64), b]⟩ : ByteArray)[1]'(by simp [ByteArray.size])).toNat = b.toNat := rfl
  go_wp2_with fail
  go_quiet (fail)
  go_wp2_with fail
  have hbw : Below w.heap.size w (w.drewN nq) := ⟨rfl, rfl, rfl, Nat.le_refl _, fun _ _ => rfl⟩
  generalize w.drewN nq = w1 at hbw ⊢
  go_quiet ((go_at_call 71; exact Calls.quiet_of_same (Tryd.strings_IndexByte _ _ _)))
  go_wp2_with fail
  rw [Exit.noGoto_ret]
  go_wp2_with fail
  rw [Exit.noGoto_ret]
  go_wp2_with fail
  go_ret
  exact ⟨rfl, ⟨hbw.os, hbw.tape, hbw.output, hbw.size, hbw.block⟩⟩

end Go.Proofs.YtfifalpacagacaaDoor
