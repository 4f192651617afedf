/- steps. -/
import Derived.Test.YtmhmnchdhacdbaaDoorNewC
import Derived.Laws.EntriesVeiled
namespace Go.Proofs.YtmhmnchdhacdbaaDoor
open Go.RowKit
set_option linter.unusedVariables false
set_option linter.unusedSimpArgs false

def stepV (n g : Nat) : Value := .func (.func n) #[.pointer (some ⟨g, 0, none⟩)] #[]
set_option maxHeartbeats 1000000 in
theorem steps_any (g : Nat) (w : World) :
    Calls Tryd.prog 17 #[.pointer (some ⟨g, 0, none⟩)] w
      fun e w' => e = .returned (.slice (some ⟨w.heap.size, 0, none⟩) 5 5) ∧ Below w.heap.size w w' ∧ Blk w' w.heap.size 57 [stepV 33 g, stepV 34 g, stepV 35 g, stepV 36 g, stepV 37 g] := by
  go_enter Tryd.func17, Tryd.ntmps17
  go_wp2_with fail
  go_ret
  exact ⟨rfl, (Below.refl _ _).alloc (Nat.le_refl _) _, blk_new w _ _⟩
end Go.Proofs.YtmhmnchdhacdbaaDoor
