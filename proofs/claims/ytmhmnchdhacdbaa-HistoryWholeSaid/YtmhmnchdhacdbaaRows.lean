/-
  No cell of these rows narrows 'for every input' (looked for: loops, veiled, ifaces, maps, wideKeys, modest, calm, conditions, laid).
  DERIVED. THE GIVEN ROWS OF THIS SEAT. 4 by the template 'for every input the law returns true; each argument reads behind the call as it read before'; 0 by the template 'total and deterministic' (their statements: YtmhmnchdhacdbaaTotals.lean).
  GIVEN WITH THE SEED: the statements are not yours to turn. If you find one false, say at which input.
  Laid BY PROGRAM, IN A SANDBOX (cutbox-rows.mjs): the forced cells as the released guide's own fill.sh prints them over the translation 6b445805da31607e… (all of the seat's roots in one cut). By AI agents, Wed Nov 11 2026. No macro, syntax, notation, axiom, sorry.
-/
import Derived.Test.YtmhmnchdhacdbaaChecked
import GoSem.Claim
import GoSem.ClaimJoined
import GoSem.ClaimMapViews
import Derived.JoinedTies
import Derived.KernelRfl
namespace Go.Proofs.Ytmhmnchdhacdbaa
/- THE CELL 'sum', in the pinned program and in every row, IS THE sha256 OF THE DUMP (.gsa) THAT YtmhmnchdhacdbaaProg.lean LOADS. Nothing in Lean hashes anything: it is a label: what it is worth is what the hold of that sum in a sandbox is worth. -/
noncomputable def Try.pinned : Pinned := { name := "ytmhmnchdhacdbaa", sum := "6b445805da31607e8f790d7dabadf706fd3a29492f04ba66aecd01f4c991df7e", checked := Try.checked }
namespace Rows
def none {H : Type} : Left H := { results := [], args := [] }

/-- 'stockyardlaw11.HistoryOnce': WHATEVER THE INPUT: true; the input reads as it did. -/
def historyOnceSpec : ChangeSpec := { name := "historyOnce", fn := fun _ => fun
  | [d1, d2, d3] => { results := [.lit (.bool true)], args := [d1, d2, d3] }
  | _ => none }
def historyOnceRow : OpenClaim := { program := "ytmhmnchdhacdbaa", sum := "6b445805da31607e8f790d7dabadf706fd3a29492f04ba66aecd01f4c991df7e", func := "stockyard/stockyardlaw11.HistoryOnce", spec := "historyOnce", unfollowed := true, recurses := true, plainKeys := false, apart := false }
def HistoryOnceSaid : Prop := historyOnceRow.holds Try.pinned (OpenSpec.ofChange historyOnceSpec)

/-- ITS FALSE NEIGHBOUR: 'it returns false'. Refute it at one input. -/
def historyOnceWrong : ChangeSpec := { name := "historyOnce", fn := fun _ => fun
  | [d1, d2, d3] => { results := [.lit (.bool false)], args := [d1, d2, d3] }
  | _ => none }
def HistoryOnceWrongFalsely : Prop := historyOnceRow.holds Try.pinned (OpenSpec.ofChange historyOnceWrong)

/-- 'stockyardlaw11.HistoryMoves': WHATEVER THE INPUT: true; the input reads as it did. -/
def historyMovesSpec : ChangeSpec := { name := "historyMoves", fn := fun _ => fun
  | [d] => { results := [.lit (.bool true)], args := [d] }
  | _ => none }
def historyMovesRow : OpenClaim := { program := "ytmhmnchdhacdbaa", sum := "6b445805da31607e8f790d7dabadf706fd3a29492f04ba66aecd01f4c991df7e", func := "stockyard/stockyardlaw11.HistoryMoves", spec := "historyMoves", unfollowed := true, recurses := true, plainKeys := false, apart := false }
def HistoryMovesSaid : Prop := historyMovesRow.holds Try.pinned (OpenSpec.ofChange historyMovesSpec)

/-- ITS FALSE NEIGHBOUR: 'it returns false'. Refute it at one input. -/
def historyMovesWrong : ChangeSpec := { name := "historyMoves", fn := fun _ => fun
  | [d] => { results := [.lit (.bool false)], args := [d] }
  | _ => none }
def HistoryMovesWrongFalsely : Prop := historyMovesRow.holds Try.pinned (OpenSpec.ofChange historyMovesWrong)

/-- 'stockyardlaw11.HistoryWhole': WHATEVER THE INPUT: true; the input reads as it did. -/
def historyWholeSpec : ChangeSpec := { name := "historyWhole", fn := fun _ => fun
  | [d1, d2, d3, d4] => { results := [.lit (.bool true)], args := [d1, d2, d3, d4] }
  | _ => none }
def historyWholeRow : OpenClaim := { program := "ytmhmnchdhacdbaa", sum := "6b445805da31607e8f790d7dabadf706fd3a29492f04ba66aecd01f4c991df7e", func := "stockyard/stockyardlaw11.HistoryWhole", spec := "historyWhole", unfollowed := true, recurses := true, plainKeys := false, apart := false }
def HistoryWholeSaid : Prop := historyWholeRow.holds Try.pinned (OpenSpec.ofChange historyWholeSpec)

/-- ITS FALSE NEIGHBOUR: 'it returns false'. Refute it at one input. -/
def historyWholeWrong : ChangeSpec := { name := "historyWhole", fn := fun _ => fun
  | [d1, d2, d3, d4] => { results := [.lit (.bool false)], args := [d1, d2, d3, d4] }
  | _ => none }
def HistoryWholeWrongFalsely : Prop := historyWholeRow.holds Try.pinned (OpenSpec.ofChange historyWholeWrong)

/-- 'stockyardlaw11.HistoryNumbers': WHATEVER THE INPUT: true; the input reads as it did. -/
def historyNumbersSpec : ChangeSpec := { name := "historyNumbers", fn := fun _ => fun
  | [d1, d2] => { results := [.lit (.bool true)], args := [d1, d2] }
  | _ => none }
def historyNumbersRow : OpenClaim := { program := "ytmhmnchdhacdbaa", sum := "6b445805da31607e8f790d7dabadf706fd3a29492f04ba66aecd01f4c991df7e", func := "stockyard/stockyardlaw11.HistoryNumbers", spec := "historyNumbers", unfollowed := true, recurses := true, plainKeys := false, apart := false }
def HistoryNumbersSaid : Prop := historyNumbersRow.holds Try.pinned (OpenSpec.ofChange historyNumbersSpec)

/-- ITS FALSE NEIGHBOUR: 'it returns false'. Refute it at one input. -/
def historyNumbersWrong : ChangeSpec := { name := "historyNumbers", fn := fun _ => fun
  | [d1, d2] => { results := [.lit (.bool false)], args := [d1, d2] }
  | _ => none }
def HistoryNumbersWrongFalsely : Prop := historyNumbersRow.holds Try.pinned (OpenSpec.ofChange historyNumbersWrong)

/- THE SECOND FORM. 'bulk': how many values and letters a reading holds, each counted each time it is reached (what is shared counts as often as it is met; a slice's spare places count too). A statement '..UptoSaid' is the law's where the arguments, and the package variables that the reading takes, are together of bulk at most 1048576: NARROWER than '..Said'. Prove '..Said' where nothing that the law and all that it calls make is longer than what came in: it says more and counts as full. Else prove '..UptoSaid'. A law counts once. -/
mutual
def uptoBulk {H : Type} : DataW H → Nat
  | .lit (.string bytes) => bytes.length + 1
  | .lit _ => 1
  | .nil => 1
  | .ptr d => uptoBulk d + 1
  | .slice elems spare => uptoBulkAll elems + uptoBulkAll spare + 1
  | .agg parts => uptoBulkAll parts + 1
  | .iface _ d => uptoBulk d + 1
  | .map entries => uptoBulkEntries entries + 1
  | .held _ => 1
def uptoBulkAll {H : Type} : List (DataW H) → Nat
  | [] => 0
  | d :: r => uptoBulk d + uptoBulkAll r
def uptoBulkEntries {H : Type} : List (Lit × DataW H) → Nat
  | [] => 0
  | x :: r => uptoBulkEntry x + uptoBulkEntries r
def uptoBulkEntry {H : Type} : Lit × DataW H → Nat
  | (.string bytes, d) => bytes.length + uptoBulk d + 1
  | (_, d) => uptoBulk d + 1
 end
def uptoSmall : (H : Type) → List (DataW H) → Bool := fun _ ds => decide (uptoBulkAll ds ≤ 1048576)
def OpenSpec.upto (s : _root_.Go.ChangeSpec) : _root_.Go.OpenSpec := { _root_.Go.OpenSpec.ofChange s with cond := some uptoSmall }

/-- 'stockyardlaw11.HistoryOnce', WHERE WHAT IT READS IS OF BULK AT MOST 1048576: true; the input reads as it did. -/
def historyOnceUptoRow : OpenClaim := { program := "ytmhmnchdhacdbaa", sum := "6b445805da31607e8f790d7dabadf706fd3a29492f04ba66aecd01f4c991df7e", func := "stockyard/stockyardlaw11.HistoryOnce", spec := "historyOnce", unfollowed := true, recurses := true, plainKeys := false, apart := false, narrowed := true }
def HistoryOnceUptoSaid : Prop := historyOnceUptoRow.holds Try.pinned (OpenSpec.upto historyOnceSpec)

/-- 'stockyardlaw11.HistoryMoves', WHERE WHAT IT READS IS OF BULK AT MOST 1048576: true; the input reads as it did. -/
def historyMovesUptoRow : OpenClaim := { program := "ytmhmnchdhacdbaa", sum := "6b445805da31607e8f790d7dabadf706fd3a29492f04ba66aecd01f4c991df7e", func := "stockyard/stockyardlaw11.HistoryMoves", spec := "historyMoves", unfollowed := true, recurses := true, plainKeys := false, apart := false, narrowed := true }
def HistoryMovesUptoSaid : Prop := historyMovesUptoRow.holds Try.pinned (OpenSpec.upto historyMovesSpec)

/-- 'stockyardlaw11.HistoryWhole', WHERE WHAT IT READS IS OF BULK AT MOST 1048576: true; the input reads as it did. -/
def historyWholeUptoRow : OpenClaim := { program := "ytmhmnchdhacdbaa", sum := "6b445805da31607e8f790d7dabadf706fd3a29492f04ba66aecd01f4c991df7e", func := "stockyard/stockyardlaw11.HistoryWhole", spec := "historyWhole", unfollowed := true, recurses := true, plainKeys := false, apart := false, narrowed := true }
def HistoryWholeUptoSaid : Prop := historyWholeUptoRow.holds Try.pinned (OpenSpec.upto historyWholeSpec)

/-- 'stockyardlaw11.HistoryNumbers', WHERE WHAT IT READS IS OF BULK AT MOST 1048576: true; the input reads as it did. -/
def historyNumbersUptoRow : OpenClaim := { program := "ytmhmnchdhacdbaa", sum := "6b445805da31607e8f790d7dabadf706fd3a29492f04ba66aecd01f4c991df7e", func := "stockyard/stockyardlaw11.HistoryNumbers", spec := "historyNumbers", unfollowed := true, recurses := true, plainKeys := false, apart := false, narrowed := true }
def HistoryNumbersUptoSaid : Prop := historyNumbersUptoRow.holds Try.pinned (OpenSpec.upto historyNumbersSpec)

end Rows
end Go.Proofs.Ytmhmnchdhacdbaa
