/- The walk at the arguments as the row reads them. -/
import Derived.Test.YtmhmnchdhacdbaaMzNuW
import Derived.Test.YtmhmnchdhacdbaaMgop
namespace Go.Proofs.Ytmhmnchdhacdbaa
open Go.RowKit Go.ChangeShapes Go.WideShapes Go.Deep
set_option linter.unusedVariables false
set_option linter.unusedSimpArgs false

theorem historyNumbers_walk {p : Prop} (ps : List ChV) (v : Value) (s : ByteArray) (w : World) (h0 : ChgsRd w v ps) (h1 : p) :
    Calls Try.prog 6 #[v, .string s] w fun e w' => e = .returned (.bool true) ∧ Below w.heap.size w w' :=
  numbers_any ps s v w h0.1 (rd_sizeOk' h0) (fun p hp => rd_last (h0.2.2 p hp))
end Go.Proofs.Ytmhmnchdhacdbaa
