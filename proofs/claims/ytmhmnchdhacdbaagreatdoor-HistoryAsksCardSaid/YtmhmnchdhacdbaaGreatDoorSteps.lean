/- steps. -/
import Derived.Test.YtmhmnchdhacdbaaGreatDoorNewC
import Derived.Laws.EntriesVeiled
namespace Go.Proofs.YtmhmnchdhacdbaaGreatDoor
open Go.RowKit
set_option linter.unusedVariables false
set_option linter.unusedSimpArgs false

def stepV (n g : Nat) : Value := .func (.func n) #[.pointer (some ⟨g, 0, none⟩)] #[]
set_option maxHeartbeats 1000000 in
theorem steps_any (g : Nat) (w : World) :
    Calls Tryz.prog 48 #[.pointer (some ⟨g, 0, none⟩)] w
      fun e w' => e = .returned (.slice (some ⟨w.heap.size, 0, none⟩) 5 5) ∧ Below w.heap.size w w' ∧ Blk w' w.heap.size 84 [stepV 79 g, stepV 80 g, stepV 81 g, stepV 82 g, stepV 83 g] := by
  go_enter Tryz.func48, Tryz.ntmps48
  go_wp2_with fail
  go_ret
  exact ⟨rfl, (Below.refl _ _).alloc (Nat.le_refl _) _, blk_new w _ _⟩
end Go.Proofs.YtmhmnchdhacdbaaGreatDoor
