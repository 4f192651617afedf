/- The walk at the arguments as the row reads them. -/
import Derived.Test.YtmhmnchdhacdbaaMzWhW
import Derived.Test.YtmhmnchdhacdbaaMgop
namespace Go.Proofs.Ytmhmnchdhacdbaa
open Go.RowKit Go.ChangeShapes Go.WideShapes Go.Deep
set_option linter.unusedVariables false
set_option linter.unusedSimpArgs false

set_option maxRecDepth 100000 in
theorem historyWhole_walk {p q : Prop} (ps : List ChV) (v : Value) (ch : Chg) (Ae Ac : Option Addr) (ce cc : Nat) (s : ByteArray) (n : Int) (w : World) (h0 : ChgsRd w v ps) (h1 : ChV.rd w (ch, .slice Ae ch.edits.length ce, .slice Ac ch.recs.length cc)) (h2 : p) (h3 : q) :
    Calls Try.prog 5 #[v, .agg #[.int .i64 ch.num, .string ch.client, .string ch.text, .slice Ae ch.edits.length ce, .slice Ac ch.recs.length cc], .string s, .int .i64 n] w fun e w' => e = .returned (.bool true) ∧ Below w.heap.size w w' :=
  whole_any ps ch Ae Ac ce cc s n v w h0.1 h1.1.1 h1.1.2 (rd_sizeOk h0 h1) (fun p hp => rd_last (h0.2.2 p hp)) (rd_last h1)
end Go.Proofs.Ytmhmnchdhacdbaa
