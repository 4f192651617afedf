/- The contract of keyword.Find. -/
import Derived.Test.YtfifalpacagacaaDoorKOccs
namespace Go.Proofs.YtfifalpacagacaaDoor.kw
set_option linter.unusedVariables false
set_option linter.unusedSimpArgs false
open Go.RowKit
attribute [local go_sem] Oper.semAt_some

theorem rangeInfo : (Tryd.prog.info? 89).map (fun i => (i.zero, i.size, i.bytes)) = some (some (.agg #[.int .i64 0, .int .i64 0]), 2, 16) := by kernel_rfl
def rangesOf (os : List Occ) : List (Nat × Nat) := os.map fun o => (o.1, o.2.1)

def FindP (b : List UInt8) (l : List ByteArray) (w : World) (e : Ending) (w' : World) : Prop :=
  (tabB (namedL l) = true → ∃ v, e = .returned (.tuple #[v, .int .i64 0]) ∧ Ranges w' v (rangesOf (occs (namesOf (namedL l)) b 0))) ∧
  (tabB (namedL l) = false → e = .returned (.tuple #[.slice none 0 0, .int .i64 100])) ∧ Below w.heap.size w w'

end Go.Proofs.YtfifalpacagacaaDoor.kw
