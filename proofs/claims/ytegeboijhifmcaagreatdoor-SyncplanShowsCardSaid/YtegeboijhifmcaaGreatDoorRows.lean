/-
  NARROWER THAN 'FOR EVERY INPUT', by the rows' own cells (each row's printed sentence says how): SyncplanThrift: laid · SyncplanReaches: laid · SyncplanFits: laid · SyncplanSafe: laid · SyncplanAgain: laid · SyncplanReasons: laid · SyncplanDetours: laid · SyncplanShows: laid.
  DERIVED. THE GIVEN ROWS OF THIS SEAT. 8 by the template 'for every input the law returns true; each argument reads behind the call as it read before'; 0 by the template 'total and deterministic' (their statements: YtegeboijhifmcaaGreatDoorTotals.lean).
  GIVEN WITH THE SEED: the statements are not yours to turn. If you find one false, say at which input.
  Laid BY PROGRAM, IN A SANDBOX (cutbox-rows.mjs): the forced cells as the released guide's own fill.sh prints them over the translation e74cce024db40a6a… (all of the seat's roots in one cut). By AI agents, Wed Nov 11 2026. No macro, syntax, notation, axiom, sorry.
-/
import Derived.Test.YtegeboijhifmcaaGreatDoorChecked
import GoSem.PinnedTables
import GoSem.Claim
import GoSem.ClaimJoined
import GoSem.ClaimMapViews
import Derived.JoinedTies
import Derived.KernelRfl
namespace Go.Proofs.YtegeboijhifmcaaGreatDoor
/- THE CELL 'sum', in the pinned program and in every row, IS THE sha256 OF THE DUMP (.gsa) THAT YtegeboijhifmcaaGreatDoorProg.lean LOADS. Nothing in Lean hashes anything: it is a label: what it is worth is what the hold of that sum in a sandbox is worth. -/
noncomputable def Tryz.pinned : Pinned := { name := "ytegeboijhifmcaagreatdoor", sum := "e74cce024db40a6a5ef098cb887cac3ff271a35ec4bf884a9ca68f16b5bae444", checked := Tryz.checked }
namespace Rows
def none {H : Type} : Left H := { results := [], args := [] }

/- WHAT THE LISTED PACKAGE-LEVEL VARIABLES READ AS WHEN THE CALL BEGINS. Each datum BY PROGRAM (the guide's laid-datum.mjs) off the statement by which the dump's own 'gosem.cut.vars' lays the variable. In a bare row this is a premise. The card (YtegeboijhifmcaaGreatDoorCards.lean) ties it to the program's text. -/
def laid_unicode_utf8_acceptRanges {H : Type} : DataW H := .agg [.agg [.lit (.int .u8 128), .lit (.int .u8 191)], .agg [.lit (.int .u8 160), .lit (.int .u8 191)], .agg [.lit (.int .u8 128), .lit (.int .u8 159)], .agg [.lit (.int .u8 144), .lit (.int .u8 191)], .agg [.lit (.int .u8 128), .lit (.int .u8 143)], .agg [.lit (.int .u8 0), .lit (.int .u8 0)], .agg [.lit (.int .u8 0), .lit (.int .u8 0)], .agg [.lit (.int .u8 0), .lit (.int .u8 0)], .agg [.lit (.int .u8 0), .lit (.int .u8 0)], .agg [.lit (.int .u8 0), .lit (.int .u8 0)], .agg [.lit (.int .u8 0), .lit (.int .u8 0)], .agg [.lit (.int .u8 0), .lit (.int .u8 0)], .agg [.lit (.int .u8 0), .lit (.int .u8 0)], .agg [.lit (.int .u8 0), .lit (.int .u8 0)], .agg [.lit (.int .u8 0), .lit (.int .u8 0)], .agg [.lit (.int .u8 0), .lit (.int .u8 0)]]
/-- One of Go's own tables, pinned by name: the form's constant. -/
def laid_unicode_utf8_first : DataW Unit := Go.Pinned.utf8First

/-- 'stockyardlaw35.SyncplanThrift': WHATEVER THE INPUT: true; the input reads as it did. -/
def syncplanThriftSpec : ChangeSpec := { name := "syncplanThrift", fn := fun _ => fun
  | [d] => { results := [.lit (.bool true)], args := [d] }
  | _ => none }
def syncplanThriftRow : OpenClaim := { program := "ytegeboijhifmcaagreatdoor", sum := "e74cce024db40a6a5ef098cb887cac3ff271a35ec4bf884a9ca68f16b5bae444", func := "stockyard/stockyardlaw35.SyncplanThrift", spec := "syncplanThrift", inPlace := ["internal/bytealg.CountString", "internal/bytealg.IndexByteString", "internal/bytealg.IndexString", "internal/bytealg.abigen_runtime_cmpstring", "internal/abi.NoEscape", "internal/bytealg.MakeNoZero"], unfollowed := true, recurses := true, named := ["unicode/utf8.first", "unicode/utf8.acceptRanges", "internal/bytealg.MaxLen"], plainKeys := false, apart := false, laid := [("unicode/utf8.acceptRanges", laid_unicode_utf8_acceptRanges), ("unicode/utf8.first", laid_unicode_utf8_first)] }
def SyncplanThriftSaid : Prop := syncplanThriftRow.holds Tryz.pinned (OpenSpec.ofChange syncplanThriftSpec)

/-- ITS FALSE NEIGHBOUR: 'it returns false'. Refute it at one input. -/
def syncplanThriftWrong : ChangeSpec := { name := "syncplanThrift", fn := fun _ => fun
  | [d] => { results := [.lit (.bool false)], args := [d] }
  | _ => none }
def SyncplanThriftWrongFalsely : Prop := syncplanThriftRow.holds Tryz.pinned (OpenSpec.ofChange syncplanThriftWrong)

/-- 'stockyardlaw35.SyncplanReaches': WHATEVER THE INPUT: true; the input reads as it did. -/
def syncplanReachesSpec : ChangeSpec := { name := "syncplanReaches", fn := fun _ => fun
  | [d] => { results := [.lit (.bool true)], args := [d] }
  | _ => none }
def syncplanReachesRow : OpenClaim := { program := "ytegeboijhifmcaagreatdoor", sum := "e74cce024db40a6a5ef098cb887cac3ff271a35ec4bf884a9ca68f16b5bae444", func := "stockyard/stockyardlaw35.SyncplanReaches", spec := "syncplanReaches", inPlace := ["internal/bytealg.CountString", "internal/bytealg.IndexByteString", "internal/bytealg.IndexString", "internal/bytealg.abigen_runtime_cmpstring", "internal/abi.NoEscape", "internal/bytealg.MakeNoZero"], unfollowed := true, recurses := true, named := ["unicode/utf8.first", "unicode/utf8.acceptRanges", "internal/bytealg.MaxLen"], plainKeys := false, apart := false, laid := [("unicode/utf8.acceptRanges", laid_unicode_utf8_acceptRanges), ("unicode/utf8.first", laid_unicode_utf8_first)] }
def SyncplanReachesSaid : Prop := syncplanReachesRow.holds Tryz.pinned (OpenSpec.ofChange syncplanReachesSpec)

/-- ITS FALSE NEIGHBOUR: 'it returns false'. Refute it at one input. -/
def syncplanReachesWrong : ChangeSpec := { name := "syncplanReaches", fn := fun _ => fun
  | [d] => { results := [.lit (.bool false)], args := [d] }
  | _ => none }
def SyncplanReachesWrongFalsely : Prop := syncplanReachesRow.holds Tryz.pinned (OpenSpec.ofChange syncplanReachesWrong)

/-- 'stockyardlaw35.SyncplanFits': WHATEVER THE INPUT: true; the input reads as it did. -/
def syncplanFitsSpec : ChangeSpec := { name := "syncplanFits", fn := fun _ => fun
  | [d] => { results := [.lit (.bool true)], args := [d] }
  | _ => none }
def syncplanFitsRow : OpenClaim := { program := "ytegeboijhifmcaagreatdoor", sum := "e74cce024db40a6a5ef098cb887cac3ff271a35ec4bf884a9ca68f16b5bae444", func := "stockyard/stockyardlaw35.SyncplanFits", spec := "syncplanFits", inPlace := ["internal/bytealg.CountString", "internal/bytealg.IndexByteString", "internal/bytealg.IndexString", "internal/bytealg.abigen_runtime_cmpstring", "internal/abi.NoEscape", "internal/bytealg.MakeNoZero"], unfollowed := true, recurses := true, named := ["unicode/utf8.first", "unicode/utf8.acceptRanges", "internal/bytealg.MaxLen"], plainKeys := false, apart := false, laid := [("unicode/utf8.acceptRanges", laid_unicode_utf8_acceptRanges), ("unicode/utf8.first", laid_unicode_utf8_first)] }
def SyncplanFitsSaid : Prop := syncplanFitsRow.holds Tryz.pinned (OpenSpec.ofChange syncplanFitsSpec)

/-- ITS FALSE NEIGHBOUR: 'it returns false'. Refute it at one input. -/
def syncplanFitsWrong : ChangeSpec := { name := "syncplanFits", fn := fun _ => fun
  | [d] => { results := [.lit (.bool false)], args := [d] }
  | _ => none }
def SyncplanFitsWrongFalsely : Prop := syncplanFitsRow.holds Tryz.pinned (OpenSpec.ofChange syncplanFitsWrong)

/-- 'stockyardlaw35.SyncplanSafe': WHATEVER THE INPUT: true; the input reads as it did. -/
def syncplanSafeSpec : ChangeSpec := { name := "syncplanSafe", fn := fun _ => fun
  | [d] => { results := [.lit (.bool true)], args := [d] }
  | _ => none }
def syncplanSafeRow : OpenClaim := { program := "ytegeboijhifmcaagreatdoor", sum := "e74cce024db40a6a5ef098cb887cac3ff271a35ec4bf884a9ca68f16b5bae444", func := "stockyard/stockyardlaw35.SyncplanSafe", spec := "syncplanSafe", inPlace := ["internal/bytealg.CountString", "internal/bytealg.IndexByteString", "internal/bytealg.IndexString", "internal/bytealg.abigen_runtime_cmpstring", "internal/abi.NoEscape", "internal/bytealg.MakeNoZero"], unfollowed := true, recurses := true, named := ["unicode/utf8.first", "unicode/utf8.acceptRanges", "internal/bytealg.MaxLen"], plainKeys := false, apart := false, laid := [("unicode/utf8.acceptRanges", laid_unicode_utf8_acceptRanges), ("unicode/utf8.first", laid_unicode_utf8_first)] }
def SyncplanSafeSaid : Prop := syncplanSafeRow.holds Tryz.pinned (OpenSpec.ofChange syncplanSafeSpec)

/-- ITS FALSE NEIGHBOUR: 'it returns false'. Refute it at one input. -/
def syncplanSafeWrong : ChangeSpec := { name := "syncplanSafe", fn := fun _ => fun
  | [d] => { results := [.lit (.bool false)], args := [d] }
  | _ => none }
def SyncplanSafeWrongFalsely : Prop := syncplanSafeRow.holds Tryz.pinned (OpenSpec.ofChange syncplanSafeWrong)

/-- 'stockyardlaw35.SyncplanAgain': WHATEVER THE INPUT: true; the input reads as it did. -/
def syncplanAgainSpec : ChangeSpec := { name := "syncplanAgain", fn := fun _ => fun
  | [d] => { results := [.lit (.bool true)], args := [d] }
  | _ => none }
def syncplanAgainRow : OpenClaim := { program := "ytegeboijhifmcaagreatdoor", sum := "e74cce024db40a6a5ef098cb887cac3ff271a35ec4bf884a9ca68f16b5bae444", func := "stockyard/stockyardlaw35.SyncplanAgain", spec := "syncplanAgain", inPlace := ["internal/bytealg.CountString", "internal/bytealg.IndexByteString", "internal/bytealg.IndexString", "internal/bytealg.abigen_runtime_cmpstring", "internal/abi.NoEscape", "internal/bytealg.MakeNoZero"], unfollowed := true, recurses := true, named := ["unicode/utf8.first", "unicode/utf8.acceptRanges", "internal/bytealg.MaxLen"], plainKeys := false, apart := false, laid := [("unicode/utf8.acceptRanges", laid_unicode_utf8_acceptRanges), ("unicode/utf8.first", laid_unicode_utf8_first)] }
def SyncplanAgainSaid : Prop := syncplanAgainRow.holds Tryz.pinned (OpenSpec.ofChange syncplanAgainSpec)

/-- ITS FALSE NEIGHBOUR: 'it returns false'. Refute it at one input. -/
def syncplanAgainWrong : ChangeSpec := { name := "syncplanAgain", fn := fun _ => fun
  | [d] => { results := [.lit (.bool false)], args := [d] }
  | _ => none }
def SyncplanAgainWrongFalsely : Prop := syncplanAgainRow.holds Tryz.pinned (OpenSpec.ofChange syncplanAgainWrong)

/-- 'stockyardlaw35.SyncplanReasons': WHATEVER THE INPUT: true; the input reads as it did. -/
def syncplanReasonsSpec : ChangeSpec := { name := "syncplanReasons", fn := fun _ => fun
  | [d] => { results := [.lit (.bool true)], args := [d] }
  | _ => none }
def syncplanReasonsRow : OpenClaim := { program := "ytegeboijhifmcaagreatdoor", sum := "e74cce024db40a6a5ef098cb887cac3ff271a35ec4bf884a9ca68f16b5bae444", func := "stockyard/stockyardlaw35.SyncplanReasons", spec := "syncplanReasons", inPlace := ["internal/bytealg.CountString", "internal/bytealg.IndexByteString", "internal/bytealg.IndexString", "internal/bytealg.abigen_runtime_cmpstring", "internal/abi.NoEscape", "internal/bytealg.MakeNoZero"], unfollowed := true, recurses := true, named := ["unicode/utf8.first", "unicode/utf8.acceptRanges", "internal/bytealg.MaxLen"], plainKeys := false, apart := false, laid := [("unicode/utf8.acceptRanges", laid_unicode_utf8_acceptRanges), ("unicode/utf8.first", laid_unicode_utf8_first)] }
def SyncplanReasonsSaid : Prop := syncplanReasonsRow.holds Tryz.pinned (OpenSpec.ofChange syncplanReasonsSpec)

/-- ITS FALSE NEIGHBOUR: 'it returns false'. Refute it at one input. -/
def syncplanReasonsWrong : ChangeSpec := { name := "syncplanReasons", fn := fun _ => fun
  | [d] => { results := [.lit (.bool false)], args := [d] }
  | _ => none }
def SyncplanReasonsWrongFalsely : Prop := syncplanReasonsRow.holds Tryz.pinned (OpenSpec.ofChange syncplanReasonsWrong)

/-- 'stockyardlaw35.SyncplanDetours': WHATEVER THE INPUT: true; the input reads as it did. -/
def syncplanDetoursSpec : ChangeSpec := { name := "syncplanDetours", fn := fun _ => fun
  | [d] => { results := [.lit (.bool true)], args := [d] }
  | _ => none }
def syncplanDetoursRow : OpenClaim := { program := "ytegeboijhifmcaagreatdoor", sum := "e74cce024db40a6a5ef098cb887cac3ff271a35ec4bf884a9ca68f16b5bae444", func := "stockyard/stockyardlaw35.SyncplanDetours", spec := "syncplanDetours", inPlace := ["internal/bytealg.CountString", "internal/bytealg.IndexByteString", "internal/bytealg.IndexString", "internal/bytealg.abigen_runtime_cmpstring", "internal/abi.NoEscape", "internal/bytealg.MakeNoZero"], unfollowed := true, recurses := true, named := ["unicode/utf8.first", "unicode/utf8.acceptRanges", "internal/bytealg.MaxLen"], plainKeys := false, apart := false, laid := [("unicode/utf8.acceptRanges", laid_unicode_utf8_acceptRanges), ("unicode/utf8.first", laid_unicode_utf8_first)] }
def SyncplanDetoursSaid : Prop := syncplanDetoursRow.holds Tryz.pinned (OpenSpec.ofChange syncplanDetoursSpec)

/-- ITS FALSE NEIGHBOUR: 'it returns false'. Refute it at one input. -/
def syncplanDetoursWrong : ChangeSpec := { name := "syncplanDetours", fn := fun _ => fun
  | [d] => { results := [.lit (.bool false)], args := [d] }
  | _ => none }
def SyncplanDetoursWrongFalsely : Prop := syncplanDetoursRow.holds Tryz.pinned (OpenSpec.ofChange syncplanDetoursWrong)

/-- 'stockyardlaw35.SyncplanShows': WHATEVER THE INPUT: true; the input reads as it did. -/
def syncplanShowsSpec : ChangeSpec := { name := "syncplanShows", fn := fun _ => fun
  | [d] => { results := [.lit (.bool true)], args := [d] }
  | _ => none }
def syncplanShowsRow : OpenClaim := { program := "ytegeboijhifmcaagreatdoor", sum := "e74cce024db40a6a5ef098cb887cac3ff271a35ec4bf884a9ca68f16b5bae444", func := "stockyard/stockyardlaw35.SyncplanShows", spec := "syncplanShows", inPlace := ["internal/bytealg.CountString", "internal/bytealg.IndexByteString", "internal/bytealg.IndexString", "internal/bytealg.abigen_runtime_cmpstring", "internal/abi.NoEscape", "internal/bytealg.MakeNoZero"], unfollowed := true, recurses := true, named := ["unicode/utf8.first", "unicode/utf8.acceptRanges", "internal/bytealg.MaxLen"], plainKeys := false, apart := false, laid := [("unicode/utf8.acceptRanges", laid_unicode_utf8_acceptRanges), ("unicode/utf8.first", laid_unicode_utf8_first)] }
def SyncplanShowsSaid : Prop := syncplanShowsRow.holds Tryz.pinned (OpenSpec.ofChange syncplanShowsSpec)

/-- ITS FALSE NEIGHBOUR: 'it returns false'. Refute it at one input. -/
def syncplanShowsWrong : ChangeSpec := { name := "syncplanShows", fn := fun _ => fun
  | [d] => { results := [.lit (.bool false)], args := [d] }
  | _ => none }
def SyncplanShowsWrongFalsely : Prop := syncplanShowsRow.holds Tryz.pinned (OpenSpec.ofChange syncplanShowsWrong)

/- THE SECOND FORM. 'bulk': how many values and letters a reading holds, each counted each time it is reached (what is shared counts as often as it is met; a slice's spare places count too). A statement '..UptoSaid' is the law's where the arguments, and the package variables that the reading takes, are together of bulk at most 1048576: NARROWER than '..Said'. Prove '..Said' where nothing that the law and all that it calls make is longer than what came in: it says more and counts as full. Else prove '..UptoSaid'. A law counts once. -/
mutual
def uptoBulk {H : Type} : DataW H → Nat
  | .lit (.string bytes) => bytes.length + 1
  | .lit _ => 1
  | .nil => 1
  | .ptr d => uptoBulk d + 1
  | .slice elems spare => uptoBulkAll elems + uptoBulkAll spare + 1
  | .agg parts => uptoBulkAll parts + 1
  | .iface _ d => uptoBulk d + 1
  | .map entries => uptoBulkEntries entries + 1
  | .held _ => 1
def uptoBulkAll {H : Type} : List (DataW H) → Nat
  | [] => 0
  | d :: r => uptoBulk d + uptoBulkAll r
def uptoBulkEntries {H : Type} : List (Lit × DataW H) → Nat
  | [] => 0
  | x :: r => uptoBulkEntry x + uptoBulkEntries r
def uptoBulkEntry {H : Type} : Lit × DataW H → Nat
  | (.string bytes, d) => bytes.length + uptoBulk d + 1
  | (_, d) => uptoBulk d + 1
 end
def uptoSmall : (H : Type) → List (DataW H) → Bool := fun _ ds => decide (uptoBulkAll ds ≤ 1048576)
def OpenSpec.upto (s : _root_.Go.ChangeSpec) : _root_.Go.OpenSpec := { _root_.Go.OpenSpec.ofChange s with cond := some uptoSmall }

/-- 'stockyardlaw35.SyncplanThrift', WHERE WHAT IT READS IS OF BULK AT MOST 1048576: true; the input reads as it did. -/
def syncplanThriftUptoRow : OpenClaim := { program := "ytegeboijhifmcaagreatdoor", sum := "e74cce024db40a6a5ef098cb887cac3ff271a35ec4bf884a9ca68f16b5bae444", func := "stockyard/stockyardlaw35.SyncplanThrift", spec := "syncplanThrift", inPlace := ["internal/bytealg.CountString", "internal/bytealg.IndexByteString", "internal/bytealg.IndexString", "internal/bytealg.abigen_runtime_cmpstring", "internal/abi.NoEscape", "internal/bytealg.MakeNoZero"], unfollowed := true, recurses := true, named := ["unicode/utf8.first", "unicode/utf8.acceptRanges", "internal/bytealg.MaxLen"], plainKeys := false, apart := false, laid := [("unicode/utf8.acceptRanges", laid_unicode_utf8_acceptRanges), ("unicode/utf8.first", laid_unicode_utf8_first)], narrowed := true }
def SyncplanThriftUptoSaid : Prop := syncplanThriftUptoRow.holds Tryz.pinned (OpenSpec.upto syncplanThriftSpec)

/-- 'stockyardlaw35.SyncplanReaches', WHERE WHAT IT READS IS OF BULK AT MOST 1048576: true; the input reads as it did. -/
def syncplanReachesUptoRow : OpenClaim := { program := "ytegeboijhifmcaagreatdoor", sum := "e74cce024db40a6a5ef098cb887cac3ff271a35ec4bf884a9ca68f16b5bae444", func := "stockyard/stockyardlaw35.SyncplanReaches", spec := "syncplanReaches", inPlace := ["internal/bytealg.CountString", "internal/bytealg.IndexByteString", "internal/bytealg.IndexString", "internal/bytealg.abigen_runtime_cmpstring", "internal/abi.NoEscape", "internal/bytealg.MakeNoZero"], unfollowed := true, recurses := true, named := ["unicode/utf8.first", "unicode/utf8.acceptRanges", "internal/bytealg.MaxLen"], plainKeys := false, apart := false, laid := [("unicode/utf8.acceptRanges", laid_unicode_utf8_acceptRanges), ("unicode/utf8.first", laid_unicode_utf8_first)], narrowed := true }
def SyncplanReachesUptoSaid : Prop := syncplanReachesUptoRow.holds Tryz.pinned (OpenSpec.upto syncplanReachesSpec)

/-- 'stockyardlaw35.SyncplanFits', WHERE WHAT IT READS IS OF BULK AT MOST 1048576: true; the input reads as it did. -/
def syncplanFitsUptoRow : OpenClaim := { program := "ytegeboijhifmcaagreatdoor", sum := "e74cce024db40a6a5ef098cb887cac3ff271a35ec4bf884a9ca68f16b5bae444", func := "stockyard/stockyardlaw35.SyncplanFits", spec := "syncplanFits", inPlace := ["internal/bytealg.CountString", "internal/bytealg.IndexByteString", "internal/bytealg.IndexString", "internal/bytealg.abigen_runtime_cmpstring", "internal/abi.NoEscape", "internal/bytealg.MakeNoZero"], unfollowed := true, recurses := true, named := ["unicode/utf8.first", "unicode/utf8.acceptRanges", "internal/bytealg.MaxLen"], plainKeys := false, apart := false, laid := [("unicode/utf8.acceptRanges", laid_unicode_utf8_acceptRanges), ("unicode/utf8.first", laid_unicode_utf8_first)], narrowed := true }
def SyncplanFitsUptoSaid : Prop := syncplanFitsUptoRow.holds Tryz.pinned (OpenSpec.upto syncplanFitsSpec)

/-- 'stockyardlaw35.SyncplanSafe', WHERE WHAT IT READS IS OF BULK AT MOST 1048576: true; the input reads as it did. -/
def syncplanSafeUptoRow : OpenClaim := { program := "ytegeboijhifmcaagreatdoor", sum := "e74cce024db40a6a5ef098cb887cac3ff271a35ec4bf884a9ca68f16b5bae444", func := "stockyard/stockyardlaw35.SyncplanSafe", spec := "syncplanSafe", inPlace := ["internal/bytealg.CountString", "internal/bytealg.IndexByteString", "internal/bytealg.IndexString", "internal/bytealg.abigen_runtime_cmpstring", "internal/abi.NoEscape", "internal/bytealg.MakeNoZero"], unfollowed := true, recurses := true, named := ["unicode/utf8.first", "unicode/utf8.acceptRanges", "internal/bytealg.MaxLen"], plainKeys := false, apart := false, laid := [("unicode/utf8.acceptRanges", laid_unicode_utf8_acceptRanges), ("unicode/utf8.first", laid_unicode_utf8_first)], narrowed := true }
def SyncplanSafeUptoSaid : Prop := syncplanSafeUptoRow.holds Tryz.pinned (OpenSpec.upto syncplanSafeSpec)

/-- 'stockyardlaw35.SyncplanAgain', WHERE WHAT IT READS IS OF BULK AT MOST 1048576: true; the input reads as it did. -/
def syncplanAgainUptoRow : OpenClaim := { program := "ytegeboijhifmcaagreatdoor", sum := "e74cce024db40a6a5ef098cb887cac3ff271a35ec4bf884a9ca68f16b5bae444", func := "stockyard/stockyardlaw35.SyncplanAgain", spec := "syncplanAgain", inPlace := ["internal/bytealg.CountString", "internal/bytealg.IndexByteString", "internal/bytealg.IndexString", "internal/bytealg.abigen_runtime_cmpstring", "internal/abi.NoEscape", "internal/bytealg.MakeNoZero"], unfollowed := true, recurses := true, named := ["unicode/utf8.first", "unicode/utf8.acceptRanges", "internal/bytealg.MaxLen"], plainKeys := false, apart := false, laid := [("unicode/utf8.acceptRanges", laid_unicode_utf8_acceptRanges), ("unicode/utf8.first", laid_unicode_utf8_first)], narrowed := true }
def SyncplanAgainUptoSaid : Prop := syncplanAgainUptoRow.holds Tryz.pinned (OpenSpec.upto syncplanAgainSpec)

/-- 'stockyardlaw35.SyncplanReasons', WHERE WHAT IT READS IS OF BULK AT MOST 1048576: true; the input reads as it did. -/
def syncplanReasonsUptoRow : OpenClaim := { program := "ytegeboijhifmcaagreatdoor", sum := "e74cce024db40a6a5ef098cb887cac3ff271a35ec4bf884a9ca68f16b5bae444", func := "stockyard/stockyardlaw35.SyncplanReasons", spec := "syncplanReasons", inPlace := ["internal/bytealg.CountString", "internal/bytealg.IndexByteString", "internal/bytealg.IndexString", "internal/bytealg.abigen_runtime_cmpstring", "internal/abi.NoEscape", "internal/bytealg.MakeNoZero"], unfollowed := true, recurses := true, named := ["unicode/utf8.first", "unicode/utf8.acceptRanges", "internal/bytealg.MaxLen"], plainKeys := false, apart := false, laid := [("unicode/utf8.acceptRanges", laid_unicode_utf8_acceptRanges), ("unicode/utf8.first", laid_unicode_utf8_first)], narrowed := true }
def SyncplanReasonsUptoSaid : Prop := syncplanReasonsUptoRow.holds Tryz.pinned (OpenSpec.upto syncplanReasonsSpec)

/-- 'stockyardlaw35.SyncplanDetours', WHERE WHAT IT READS IS OF BULK AT MOST 1048576: true; the input reads as it did. -/
def syncplanDetoursUptoRow : OpenClaim := { program := "ytegeboijhifmcaagreatdoor", sum := "e74cce024db40a6a5ef098cb887cac3ff271a35ec4bf884a9ca68f16b5bae444", func := "stockyard/stockyardlaw35.SyncplanDetours", spec := "syncplanDetours", inPlace := ["internal/bytealg.CountString", "internal/bytealg.IndexByteString", "internal/bytealg.IndexString", "internal/bytealg.abigen_runtime_cmpstring", "internal/abi.NoEscape", "internal/bytealg.MakeNoZero"], unfollowed := true, recurses := true, named := ["unicode/utf8.first", "unicode/utf8.acceptRanges", "internal/bytealg.MaxLen"], plainKeys := false, apart := false, laid := [("unicode/utf8.acceptRanges", laid_unicode_utf8_acceptRanges), ("unicode/utf8.first", laid_unicode_utf8_first)], narrowed := true }
def SyncplanDetoursUptoSaid : Prop := syncplanDetoursUptoRow.holds Tryz.pinned (OpenSpec.upto syncplanDetoursSpec)

/-- 'stockyardlaw35.SyncplanShows', WHERE WHAT IT READS IS OF BULK AT MOST 1048576: true; the input reads as it did. -/
def syncplanShowsUptoRow : OpenClaim := { program := "ytegeboijhifmcaagreatdoor", sum := "e74cce024db40a6a5ef098cb887cac3ff271a35ec4bf884a9ca68f16b5bae444", func := "stockyard/stockyardlaw35.SyncplanShows", spec := "syncplanShows", inPlace := ["internal/bytealg.CountString", "internal/bytealg.IndexByteString", "internal/bytealg.IndexString", "internal/bytealg.abigen_runtime_cmpstring", "internal/abi.NoEscape", "internal/bytealg.MakeNoZero"], unfollowed := true, recurses := true, named := ["unicode/utf8.first", "unicode/utf8.acceptRanges", "internal/bytealg.MaxLen"], plainKeys := false, apart := false, laid := [("unicode/utf8.acceptRanges", laid_unicode_utf8_acceptRanges), ("unicode/utf8.first", laid_unicode_utf8_first)], narrowed := true }
def SyncplanShowsUptoSaid : Prop := syncplanShowsUptoRow.holds Tryz.pinned (OpenSpec.upto syncplanShowsSpec)

end Rows
end Go.Proofs.YtegeboijhifmcaaGreatDoor
