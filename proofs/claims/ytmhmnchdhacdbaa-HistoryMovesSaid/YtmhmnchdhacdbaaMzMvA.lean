/- The walk at the arguments as the row reads them. -/
import Derived.Test.YtmhmnchdhacdbaaMzMvW
import Derived.Test.YtmhmnchdhacdbaaMgop
namespace Go.Proofs.Ytmhmnchdhacdbaa
open Go.RowKit Go.ChangeShapes Go.WideShapes Go.Deep
set_option linter.unusedVariables false
set_option linter.unusedSimpArgs false

theorem historyMoves_walk (ps : List ChV) (v : Value) (w : World) (h0 : ChgsRd w v ps) :
    Calls Try.prog 4 #[v] w fun e w' => e = .returned (.bool true) ∧ Below w.heap.size w w' :=
  histMoves_any ps v w h0.1 (rd_sizeOk' h0) (fun p hp => rd_last (h0.2.2 p hp))
end Go.Proofs.Ytmhmnchdhacdbaa
