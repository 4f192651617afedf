/- The sanity check of the statements about types. -/
import Derived.Test.YtfifalpacagacaaDoorTypeR
import Derived.Test.YtfifalpacagacaaDoorRefFollow
namespace Go.Proofs.YtfifalpacagacaaDoor
open Go.RowKit
set_option linter.unusedVariables false

theorem run_eql_ty (a b : Ty) (W : World) : (binOp .eql 27 (.agg #[.int .i64 a.base, .bool a.k, .bool a.l, .bool a.x]) (.agg #[.int .i64 b.base, .bool b.k, .bool b.l, .bool b.x])).run Tryd.prog W = .ok (.bool (decide (a = b))) W := by
  obtain ⟨a0, a1, a2, a3⟩ := a
  obtain ⟨b0, b1, b2, b3⟩ := b
  rw [run_eql_struct, run_equalIn_agg W 9999 27 _ _ (by kernel_rfl) (by kernel_rfl)]
  simp [go_sem, Op.eqFields]
  by_cases h1 : a0 = b0 <;> by_cases h2 : a1 = b1 <;> by_cases h3 : a2 = b2 <;> by_cases h4 : a3 = b3 <;> simp [h1, h2, h3, h4]

theorem awake_parse : parseL [116, 101, 120, 116, 43, 107, 108] = some ⟨1, true, true, false⟩ := by decide +kernel
theorem awake_follow : followL ⟨#[47, 47, 97, 47, 98, 47, 99]⟩ ⟨#[46, 46, 47, 100, 47, 46, 47, 101]⟩ = (⟨#[47, 47, 97, 47, 100, 47, 101]⟩, 0) := by decide +kernel

set_option maxHeartbeats 2000000 in
theorem awake_any (w : World) (he : Env w) :
    Calls Tryd.prog 20 #[] w fun e w' => e = .returned (.bool true) ∧ Below w.heap.size w w' := by
  have HP := parse_any ⟨#[116, 101, 120, 116, 43, 107, 108]⟩ w (by decide)
  rw [show (⟨#[116, 101, 120, 116, 43, 107, 108]⟩ : ByteArray).data.toList = [116, 101, 120, 116, 43, 107, 108] from rfl, awake_parse] at HP
  have HPP := Lib.hid (show Calls Tryd.prog 18 #[.string ⟨#[116, 101, 120, 116, 43, 107, 108]⟩] w fun e w' => e = .returned (.tuple #[.agg #[.int .i64 1, .bool true, .bool true, .bool false], .int .i64 0]) ∧ Below w.heap.size w w' from HP)
  clear HP
  go_enter Tryd.func20, Tryd.ntmps20
  go_wp2_with fail
  refine HPP.out.mono ?_
  rintro e w1 ⟨rfl, hb1⟩
  have HF := follow_any ⟨#[47, 47, 97, 47, 98, 47, 99]⟩ ⟨#[46, 46, 47, 100, 47, 46, 47, 101]⟩ (w1.alloc (.cells #[.int .i64 1, .bool true, .bool true, .bool false] 27)) ((he.below hb1).alloc _) (by decide) (by decide)
  rw [awake_follow] at HF
  have HFF := Lib.hid HF
  clear HF
  go_wp2_with fail
  refine HFF.out.mono ?_
  rintro e w2 ⟨rfl, hb2⟩
  have hT := (blk_new w1 [.int .i64 1, .bool true, .bool true, .bool false] 27).below hb2 (by simp)
  have hb3 : Below w.heap.size w w2 := (hb1.alloc hb1.size _).trans (hb2.mono (by have := hb1.size; simp; omega))
  obtain ⟨y0, y1, y2, y3, z0, z1, z2, z3⟩ := box4 hT
  have heq := run_eql_ty ⟨1, true, true, false⟩ ⟨1, true, true, false⟩
  simp only [decide_true] at heq
  go_wp2_with fail
  go_ret
  exact ⟨rfl, hb3⟩

end Go.Proofs.YtfifalpacagacaaDoor
