/- strings.IndexRune at the two bytes 0 and 10 and a rune of three bytes or more. -/
import Derived.Test.YtfifalpacagacaaDoorAny2
namespace Go.Proofs.YtfifalpacagacaaDoor
open Go.RowKit
set_option linter.unusedVariables false

set_option maxHeartbeats 2000000 in
set_option maxRecDepth 1000000 in
theorem indexRune_more (r : Nat) (w : World) (h1 : 2048 ≤ r) (h2 : r ≤ 1114111) (hv : Utf8.valid (r : Int) = true) (hne : r ≠ 65533) :
    Calls Tryd.prog 100 #[.string nul10, .int .i32 r] w fun e w' => e = .returned (.int .i64 (-1)) ∧ Below w.heap.size w w' := by
  unfold nul10
  obtain ⟨h3, h4⟩ := enc_more r h1 h2 hv
  have hr : ((r : Int) == 65533) = false := beq_eq_false_iff_ne.2 (by omega)
  have HV := Lib.hid hv
  clear hv
  generalize he : Utf8.encode (r : Int) = rs at h3 h4
  go_enter Tryd.func100, Tryd.ntmps100
  go_wp2_with fail
  refine (validRune_yes r _ HV.out).mono ?_
  rintro e w' ⟨rfl, rfl⟩
  go_wp2_with fail
  go_step3
  go_wp2_with fail
  refine wp_loop_rounds 1 ?_
  rw [rounds_succ]
  go_wp2_with fail
  rw [Exit.noGoto_ret]
  go_wp2_with fail
  go_ret
  exact ⟨rfl, Below.refl _ _⟩

theorem indexRune_high (r : Nat) (w : World) (h1 : 128 ≤ r) (h2 : r ≤ 1114111) (hv : Utf8.valid (r : Int) = true) :
    Calls Tryd.prog 100 #[.string nul10, .int .i32 r] w fun e w' => e = .returned (.int .i64 (-1)) ∧ Below w.heap.size w w' := by
  by_cases h3 : r < 2048
  · exact indexRune_two r w h1 h3
  · by_cases h4 : r = 65533
    · subst h4; exact indexRune_err w
    · exact indexRune_more r w (by omega) h2 hv h4

end Go.Proofs.YtfifalpacagacaaDoor
