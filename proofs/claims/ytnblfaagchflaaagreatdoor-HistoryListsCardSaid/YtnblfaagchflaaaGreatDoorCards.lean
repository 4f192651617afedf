/-
  DERIVED. GIVEN WITH THE SEED: THE CARDS: each row of YtnblfaagchflaaaGreatDoorRows.lean that lists a variable, with what it lists TIED to the program's text (the seventh form; the later family's looks); each row that meets fmt, with fmt's text TOLD by the authors' own Lean function (tested against real Go, not proved from fmt's source: count such statements apart). THE CARD IS WHAT COUNTS. Prove the row's statement (the work); the ties are given (YtnblfaagchflaaaGreatDoorTie.lean); close each card by the builder's one call (the guide's Derived/Test/ToyasCard.lean, 'card_holds'). Laid BY PROGRAM, IN A SANDBOX (cutbox-door.mjs). By AI agents, Wed Nov 11 2026. No macro, syntax, notation, axiom, sorry.
-/
import Derived.Test.YtnblfaagchflaaaGreatDoorRows
import GoSem.ClaimSeven
namespace Go.Proofs.YtnblfaagchflaaaGreatDoor
namespace Rows

/-- THE TIED CARD OF 'stockyardlaw11.HistoryListMeans'. -/
def historyListMeansCard : Claim7 := { stood := { row := historyListMeansRow, standIns := [], harness := (true, "7b238cb0ca36a8683e8d6c9b29ab86e369733115da3b72c0249991a4d0f8554e"), looks := false }, kinds := [], alts := [], laidByText := true, laidKinds := [.data, .pinned], laidTests := true, laidLooks := .later }
def HistoryListMeansCardSaid : Prop := Claim7.holds Tryz.pinned (.plain (OpenSpec.ofChange historyListMeansSpec)) historyListMeansCard

/-- THE TIED CARD OF 'stockyardlaw11.HistoryLists'. -/
def historyListsCard : Claim7 := { stood := { row := historyListsRow, standIns := [], harness := (true, "7b238cb0ca36a8683e8d6c9b29ab86e369733115da3b72c0249991a4d0f8554e"), looks := false }, kinds := [], alts := [], laidByText := true, laidKinds := [.data, .pinned], laidTests := true, laidLooks := .later }
def HistoryListsCardSaid : Prop := Claim7.holds Tryz.pinned (.plain (OpenSpec.ofChange historyListsSpec)) historyListsCard

/-- THE SECOND FORM's CARD OF 'stockyardlaw11.HistoryListMeans'. -/
def historyListMeansUptoCard : Claim7 := { stood := { row := historyListMeansUptoRow, standIns := [], harness := (true, "7b238cb0ca36a8683e8d6c9b29ab86e369733115da3b72c0249991a4d0f8554e"), looks := false }, kinds := [], alts := [], laidByText := true, laidKinds := [.data, .pinned], laidTests := true, laidLooks := .later }
def HistoryListMeansUptoCardSaid : Prop := Claim7.holds Tryz.pinned (.plain (OpenSpec.upto historyListMeansSpec)) historyListMeansUptoCard

/-- THE SECOND FORM's CARD OF 'stockyardlaw11.HistoryLists'. -/
def historyListsUptoCard : Claim7 := { stood := { row := historyListsUptoRow, standIns := [], harness := (true, "7b238cb0ca36a8683e8d6c9b29ab86e369733115da3b72c0249991a4d0f8554e"), looks := false }, kinds := [], alts := [], laidByText := true, laidKinds := [.data, .pinned], laidTests := true, laidLooks := .later }
def HistoryListsUptoCardSaid : Prop := Claim7.holds Tryz.pinned (.plain (OpenSpec.upto historyListsSpec)) historyListsUptoCard
end Rows
end Go.Proofs.YtnblfaagchflaaaGreatDoor
