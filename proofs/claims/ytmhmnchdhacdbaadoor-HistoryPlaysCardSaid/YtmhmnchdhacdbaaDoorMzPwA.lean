/- The walk of HistoryPlays at its argument as the row reads it. -/
import Derived.Test.YtmhmnchdhacdbaaDoorMzPw
import Derived.Test.YtmhmnchdhacdbaaDoorMgv11
namespace Go.Proofs.YtmhmnchdhacdbaaDoor
open Go.RowKit Go.ChangeShapes Go.WideShapes Go.Deep
set_option linter.unusedVariables false

theorem historyPlays_walk (ps : List ChV) (v : Value) (w : World) (he : Env w) (h0 : ChgsRd w v ps) :
    Calls Tryd.prog 4 #[v] w fun e w' => e = .returned (.bool true) ∧ Below w.heap.size w w' :=
  histPlays_any ps v w he h0.1 (rd_sizeOk' h0) (fun p hp => rd_last (h0.2.2 p hp))
end Go.Proofs.YtmhmnchdhacdbaaDoor
