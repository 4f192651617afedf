/-
  DERIVED. GIVEN WITH THE SEED: THE CARDS: each row of YtnblfaagchflaaaDoorRows.lean that lists a variable, with what it lists TIED to the program's text (the seventh form; the later family's looks); each row that meets fmt, with fmt's text TOLD by the authors' own Lean function (tested against real Go, not proved from fmt's source: count such statements apart). THE CARD IS WHAT COUNTS. Prove the row's statement (the work); the ties are given (YtnblfaagchflaaaDoorTie.lean); close each card by the builder's one call (the guide's Derived/Test/ToyasCard.lean, 'card_holds'). Laid BY PROGRAM, IN A SANDBOX (cutbox-door.mjs). By AI agents, Wed Nov 11 2026. No macro, syntax, notation, axiom, sorry.
-/
import Derived.Test.YtnblfaagchflaaaDoorRows
import GoSem.ClaimSeven
namespace Go.Proofs.YtnblfaagchflaaaDoor
namespace Rows

/-- THE TIED CARD OF 'stockyardlaw11.HistoryValids'. -/
def historyValidsCard : Claim7 := { stood := { row := historyValidsRow, standIns := [], harness := (true, "25419fb72fd949dc985a1863c32f1946b3d7a66bfc8da11562af490334486150"), looks := false }, kinds := [], alts := [], laidByText := true, laidKinds := [.data, .pinned], laidTests := true, laidLooks := .later }
def HistoryValidsCardSaid : Prop := Claim7.holds Tryd.pinned (.plain (OpenSpec.ofChange historyValidsSpec)) historyValidsCard

/-- THE SECOND FORM's CARD OF 'stockyardlaw11.HistoryValids'. -/
def historyValidsUptoCard : Claim7 := { stood := { row := historyValidsUptoRow, standIns := [], harness := (true, "25419fb72fd949dc985a1863c32f1946b3d7a66bfc8da11562af490334486150"), looks := false }, kinds := [], alts := [], laidByText := true, laidKinds := [.data, .pinned], laidTests := true, laidLooks := .later }
def HistoryValidsUptoCardSaid : Prop := Claim7.holds Tryd.pinned (.plain (OpenSpec.upto historyValidsSpec)) historyValidsUptoCard
end Rows
end Go.Proofs.YtnblfaagchflaaaDoor
