/-
  No cell of these rows narrows 'for every input' (looked for: loops, veiled, ifaces, maps, wideKeys, modest, calm, conditions, laid).
  DERIVED. THE GIVEN ROWS OF THIS SEAT. 7 by the template 'for every input the law returns true; each argument reads behind the call as it read before'; 0 by the template 'total and deterministic' (their statements: YtajlckioogalbaaTotals.lean).
  GIVEN WITH THE SEED: the statements are not yours to turn. If you find one false, say at which input.
  Laid BY PROGRAM, IN A SANDBOX (cutbox-rows.mjs): the forced cells as the released guide's own fill.sh prints them over the translation 2d8f98770c0f432d… (all of the seat's roots in one cut). By AI agents, Wed Nov 11 2026. No macro, syntax, notation, axiom, sorry.
-/
import Derived.Test.YtajlckioogalbaaChecked
import GoSem.Claim
import GoSem.ClaimJoined
import GoSem.ClaimMapViews
import Derived.JoinedTies
import Derived.KernelRfl
namespace Go.Proofs.Ytajlckioogalbaa
/- THE CELL 'sum', in the pinned program and in every row, IS THE sha256 OF THE DUMP (.gsa) THAT YtajlckioogalbaaProg.lean LOADS. Nothing in Lean hashes anything: it is a label: what it is worth is what the hold of that sum in a sandbox is worth. -/
noncomputable def Try.pinned : Pinned := { name := "ytajlckioogalbaa", sum := "2d8f98770c0f432db0d576c8552122d39cda2dcc1b0c139d783dd3454ad54105", checked := Try.checked }
namespace Rows
def none {H : Type} : Left H := { results := [], args := [] }

/-- 'stockyardlaw10.KeywordExpands': WHATEVER THE INPUT: true; the input reads as it did. -/
def keywordExpandsSpec : ChangeSpec := { name := "keywordExpands", fn := fun _ => fun
  | [d1, d2] => { results := [.lit (.bool true)], args := [d1, d2] }
  | _ => none }
def keywordExpandsRow : OpenClaim := { program := "ytajlckioogalbaa", sum := "2d8f98770c0f432db0d576c8552122d39cda2dcc1b0c139d783dd3454ad54105", func := "stockyard/stockyardlaw10.KeywordExpands", spec := "keywordExpands", inPlace := ["internal/bytealg.IndexByte"], unfollowed := true, recurses := true, apart := false }
def KeywordExpandsSaid : Prop := keywordExpandsRow.holds Try.pinned (OpenSpec.ofChange keywordExpandsSpec)

/-- ITS FALSE NEIGHBOUR: 'it returns false'. Refute it at one input. -/
def keywordExpandsWrong : ChangeSpec := { name := "keywordExpands", fn := fun _ => fun
  | [d1, d2] => { results := [.lit (.bool false)], args := [d1, d2] }
  | _ => none }
def KeywordExpandsWrongFalsely : Prop := keywordExpandsRow.holds Try.pinned (OpenSpec.ofChange keywordExpandsWrong)

/-- 'stockyardlaw10.KeywordBack': WHATEVER THE INPUT: true; the input reads as it did. -/
def keywordBackSpec : ChangeSpec := { name := "keywordBack", fn := fun _ => fun
  | [d1, d2] => { results := [.lit (.bool true)], args := [d1, d2] }
  | _ => none }
def keywordBackRow : OpenClaim := { program := "ytajlckioogalbaa", sum := "2d8f98770c0f432db0d576c8552122d39cda2dcc1b0c139d783dd3454ad54105", func := "stockyard/stockyardlaw10.KeywordBack", spec := "keywordBack", inPlace := ["internal/bytealg.IndexByte"], unfollowed := true, recurses := true, apart := false }
def KeywordBackSaid : Prop := keywordBackRow.holds Try.pinned (OpenSpec.ofChange keywordBackSpec)

/-- ITS FALSE NEIGHBOUR: 'it returns false'. Refute it at one input. -/
def keywordBackWrong : ChangeSpec := { name := "keywordBack", fn := fun _ => fun
  | [d1, d2] => { results := [.lit (.bool false)], args := [d1, d2] }
  | _ => none }
def KeywordBackWrongFalsely : Prop := keywordBackRow.holds Try.pinned (OpenSpec.ofChange keywordBackWrong)

/-- 'stockyardlaw10.KeywordOccurs': WHATEVER THE INPUT: true; the input reads as it did. -/
def keywordOccursSpec : ChangeSpec := { name := "keywordOccurs", fn := fun _ => fun
  | [d1, d2] => { results := [.lit (.bool true)], args := [d1, d2] }
  | _ => none }
def keywordOccursRow : OpenClaim := { program := "ytajlckioogalbaa", sum := "2d8f98770c0f432db0d576c8552122d39cda2dcc1b0c139d783dd3454ad54105", func := "stockyard/stockyardlaw10.KeywordOccurs", spec := "keywordOccurs", inPlace := ["internal/bytealg.IndexByte"], unfollowed := true, recurses := true, apart := false }
def KeywordOccursSaid : Prop := keywordOccursRow.holds Try.pinned (OpenSpec.ofChange keywordOccursSpec)

/-- ITS FALSE NEIGHBOUR: 'it returns false'. Refute it at one input. -/
def keywordOccursWrong : ChangeSpec := { name := "keywordOccurs", fn := fun _ => fun
  | [d1, d2] => { results := [.lit (.bool false)], args := [d1, d2] }
  | _ => none }
def KeywordOccursWrongFalsely : Prop := keywordOccursRow.holds Try.pinned (OpenSpec.ofChange keywordOccursWrong)

/-- 'stockyardlaw10.KeywordPlaces': WHATEVER THE INPUT: true; the input reads as it did. -/
def keywordPlacesSpec : ChangeSpec := { name := "keywordPlaces", fn := fun _ => fun
  | [d1, d2, d3] => { results := [.lit (.bool true)], args := [d1, d2, d3] }
  | _ => none }
def keywordPlacesRow : OpenClaim := { program := "ytajlckioogalbaa", sum := "2d8f98770c0f432db0d576c8552122d39cda2dcc1b0c139d783dd3454ad54105", func := "stockyard/stockyardlaw10.KeywordPlaces", spec := "keywordPlaces", inPlace := ["internal/bytealg.IndexByte"], unfollowed := true, recurses := true, apart := false }
def KeywordPlacesSaid : Prop := keywordPlacesRow.holds Try.pinned (OpenSpec.ofChange keywordPlacesSpec)

/-- ITS FALSE NEIGHBOUR: 'it returns false'. Refute it at one input. -/
def keywordPlacesWrong : ChangeSpec := { name := "keywordPlaces", fn := fun _ => fun
  | [d1, d2, d3] => { results := [.lit (.bool false)], args := [d1, d2, d3] }
  | _ => none }
def KeywordPlacesWrongFalsely : Prop := keywordPlacesRow.holds Try.pinned (OpenSpec.ofChange keywordPlacesWrong)

/-- 'stockyardlaw10.KeywordOutside': WHATEVER THE INPUT: true; the input reads as it did. -/
def keywordOutsideSpec : ChangeSpec := { name := "keywordOutside", fn := fun _ => fun
  | [d1, d2] => { results := [.lit (.bool true)], args := [d1, d2] }
  | _ => none }
def keywordOutsideRow : OpenClaim := { program := "ytajlckioogalbaa", sum := "2d8f98770c0f432db0d576c8552122d39cda2dcc1b0c139d783dd3454ad54105", func := "stockyard/stockyardlaw10.KeywordOutside", spec := "keywordOutside", inPlace := ["internal/bytealg.IndexByte"], unfollowed := true, recurses := true, apart := false }
def KeywordOutsideSaid : Prop := keywordOutsideRow.holds Try.pinned (OpenSpec.ofChange keywordOutsideSpec)

/-- ITS FALSE NEIGHBOUR: 'it returns false'. Refute it at one input. -/
def keywordOutsideWrong : ChangeSpec := { name := "keywordOutside", fn := fun _ => fun
  | [d1, d2] => { results := [.lit (.bool false)], args := [d1, d2] }
  | _ => none }
def KeywordOutsideWrongFalsely : Prop := keywordOutsideRow.holds Try.pinned (OpenSpec.ofChange keywordOutsideWrong)

/-- 'stockyardlaw10.KeywordCollapses': WHATEVER THE INPUT: true; the input reads as it did. -/
def keywordCollapsesSpec : ChangeSpec := { name := "keywordCollapses", fn := fun _ => fun
  | [d1, d2] => { results := [.lit (.bool true)], args := [d1, d2] }
  | _ => none }
def keywordCollapsesRow : OpenClaim := { program := "ytajlckioogalbaa", sum := "2d8f98770c0f432db0d576c8552122d39cda2dcc1b0c139d783dd3454ad54105", func := "stockyard/stockyardlaw10.KeywordCollapses", spec := "keywordCollapses", inPlace := ["internal/bytealg.IndexByte"], unfollowed := true, recurses := true, apart := false }
def KeywordCollapsesSaid : Prop := keywordCollapsesRow.holds Try.pinned (OpenSpec.ofChange keywordCollapsesSpec)

/-- ITS FALSE NEIGHBOUR: 'it returns false'. Refute it at one input. -/
def keywordCollapsesWrong : ChangeSpec := { name := "keywordCollapses", fn := fun _ => fun
  | [d1, d2] => { results := [.lit (.bool false)], args := [d1, d2] }
  | _ => none }
def KeywordCollapsesWrongFalsely : Prop := keywordCollapsesRow.holds Try.pinned (OpenSpec.ofChange keywordCollapsesWrong)

/-- 'stockyardlaw10.KeywordFinds': WHATEVER THE INPUT: true; the input reads as it did. -/
def keywordFindsSpec : ChangeSpec := { name := "keywordFinds", fn := fun _ => fun
  | [d1, d2] => { results := [.lit (.bool true)], args := [d1, d2] }
  | _ => none }
def keywordFindsRow : OpenClaim := { program := "ytajlckioogalbaa", sum := "2d8f98770c0f432db0d576c8552122d39cda2dcc1b0c139d783dd3454ad54105", func := "stockyard/stockyardlaw10.KeywordFinds", spec := "keywordFinds", inPlace := ["internal/bytealg.IndexByte"], unfollowed := true, recurses := true, apart := false }
def KeywordFindsSaid : Prop := keywordFindsRow.holds Try.pinned (OpenSpec.ofChange keywordFindsSpec)

/-- ITS FALSE NEIGHBOUR: 'it returns false'. Refute it at one input. -/
def keywordFindsWrong : ChangeSpec := { name := "keywordFinds", fn := fun _ => fun
  | [d1, d2] => { results := [.lit (.bool false)], args := [d1, d2] }
  | _ => none }
def KeywordFindsWrongFalsely : Prop := keywordFindsRow.holds Try.pinned (OpenSpec.ofChange keywordFindsWrong)

/- THE SECOND FORM. 'bulk': how many values and letters a reading holds, each counted each time it is reached (what is shared counts as often as it is met; a slice's spare places count too). A statement '..UptoSaid' is the law's where the arguments, and the package variables that the reading takes, are together of bulk at most 1048576: NARROWER than '..Said'. Prove '..Said' where nothing that the law and all that it calls make is longer than what came in: it says more and counts as full. Else prove '..UptoSaid'. A law counts once. -/
mutual
def uptoBulk {H : Type} : DataW H → Nat
  | .lit (.string bytes) => bytes.length + 1
  | .lit _ => 1
  | .nil => 1
  | .ptr d => uptoBulk d + 1
  | .slice elems spare => uptoBulkAll elems + uptoBulkAll spare + 1
  | .agg parts => uptoBulkAll parts + 1
  | .iface _ d => uptoBulk d + 1
  | .map entries => uptoBulkEntries entries + 1
  | .held _ => 1
def uptoBulkAll {H : Type} : List (DataW H) → Nat
  | [] => 0
  | d :: r => uptoBulk d + uptoBulkAll r
def uptoBulkEntries {H : Type} : List (Lit × DataW H) → Nat
  | [] => 0
  | x :: r => uptoBulkEntry x + uptoBulkEntries r
def uptoBulkEntry {H : Type} : Lit × DataW H → Nat
  | (.string bytes, d) => bytes.length + uptoBulk d + 1
  | (_, d) => uptoBulk d + 1
 end
def uptoSmall : (H : Type) → List (DataW H) → Bool := fun _ ds => decide (uptoBulkAll ds ≤ 1048576)
def OpenSpec.upto (s : _root_.Go.ChangeSpec) : _root_.Go.OpenSpec := { _root_.Go.OpenSpec.ofChange s with cond := some uptoSmall }

/-- 'stockyardlaw10.KeywordExpands', WHERE WHAT IT READS IS OF BULK AT MOST 1048576: true; the input reads as it did. -/
def keywordExpandsUptoRow : OpenClaim := { program := "ytajlckioogalbaa", sum := "2d8f98770c0f432db0d576c8552122d39cda2dcc1b0c139d783dd3454ad54105", func := "stockyard/stockyardlaw10.KeywordExpands", spec := "keywordExpands", inPlace := ["internal/bytealg.IndexByte"], unfollowed := true, recurses := true, apart := false, narrowed := true }
def KeywordExpandsUptoSaid : Prop := keywordExpandsUptoRow.holds Try.pinned (OpenSpec.upto keywordExpandsSpec)

/-- 'stockyardlaw10.KeywordBack', WHERE WHAT IT READS IS OF BULK AT MOST 1048576: true; the input reads as it did. -/
def keywordBackUptoRow : OpenClaim := { program := "ytajlckioogalbaa", sum := "2d8f98770c0f432db0d576c8552122d39cda2dcc1b0c139d783dd3454ad54105", func := "stockyard/stockyardlaw10.KeywordBack", spec := "keywordBack", inPlace := ["internal/bytealg.IndexByte"], unfollowed := true, recurses := true, apart := false, narrowed := true }
def KeywordBackUptoSaid : Prop := keywordBackUptoRow.holds Try.pinned (OpenSpec.upto keywordBackSpec)

/-- 'stockyardlaw10.KeywordOccurs', WHERE WHAT IT READS IS OF BULK AT MOST 1048576: true; the input reads as it did. -/
def keywordOccursUptoRow : OpenClaim := { program := "ytajlckioogalbaa", sum := "2d8f98770c0f432db0d576c8552122d39cda2dcc1b0c139d783dd3454ad54105", func := "stockyard/stockyardlaw10.KeywordOccurs", spec := "keywordOccurs", inPlace := ["internal/bytealg.IndexByte"], unfollowed := true, recurses := true, apart := false, narrowed := true }
def KeywordOccursUptoSaid : Prop := keywordOccursUptoRow.holds Try.pinned (OpenSpec.upto keywordOccursSpec)

/-- 'stockyardlaw10.KeywordPlaces', WHERE WHAT IT READS IS OF BULK AT MOST 1048576: true; the input reads as it did. -/
def keywordPlacesUptoRow : OpenClaim := { program := "ytajlckioogalbaa", sum := "2d8f98770c0f432db0d576c8552122d39cda2dcc1b0c139d783dd3454ad54105", func := "stockyard/stockyardlaw10.KeywordPlaces", spec := "keywordPlaces", inPlace := ["internal/bytealg.IndexByte"], unfollowed := true, recurses := true, apart := false, narrowed := true }
def KeywordPlacesUptoSaid : Prop := keywordPlacesUptoRow.holds Try.pinned (OpenSpec.upto keywordPlacesSpec)

/-- 'stockyardlaw10.KeywordOutside', WHERE WHAT IT READS IS OF BULK AT MOST 1048576: true; the input reads as it did. -/
def keywordOutsideUptoRow : OpenClaim := { program := "ytajlckioogalbaa", sum := "2d8f98770c0f432db0d576c8552122d39cda2dcc1b0c139d783dd3454ad54105", func := "stockyard/stockyardlaw10.KeywordOutside", spec := "keywordOutside", inPlace := ["internal/bytealg.IndexByte"], unfollowed := true, recurses := true, apart := false, narrowed := true }
def KeywordOutsideUptoSaid : Prop := keywordOutsideUptoRow.holds Try.pinned (OpenSpec.upto keywordOutsideSpec)

/-- 'stockyardlaw10.KeywordCollapses', WHERE WHAT IT READS IS OF BULK AT MOST 1048576: true; the input reads as it did. -/
def keywordCollapsesUptoRow : OpenClaim := { program := "ytajlckioogalbaa", sum := "2d8f98770c0f432db0d576c8552122d39cda2dcc1b0c139d783dd3454ad54105", func := "stockyard/stockyardlaw10.KeywordCollapses", spec := "keywordCollapses", inPlace := ["internal/bytealg.IndexByte"], unfollowed := true, recurses := true, apart := false, narrowed := true }
def KeywordCollapsesUptoSaid : Prop := keywordCollapsesUptoRow.holds Try.pinned (OpenSpec.upto keywordCollapsesSpec)

/-- 'stockyardlaw10.KeywordFinds', WHERE WHAT IT READS IS OF BULK AT MOST 1048576: true; the input reads as it did. -/
def keywordFindsUptoRow : OpenClaim := { program := "ytajlckioogalbaa", sum := "2d8f98770c0f432db0d576c8552122d39cda2dcc1b0c139d783dd3454ad54105", func := "stockyard/stockyardlaw10.KeywordFinds", spec := "keywordFinds", inPlace := ["internal/bytealg.IndexByte"], unfollowed := true, recurses := true, apart := false, narrowed := true }
def KeywordFindsUptoSaid : Prop := keywordFindsUptoRow.holds Try.pinned (OpenSpec.upto keywordFindsSpec)

end Rows
end Go.Proofs.Ytajlckioogalbaa
