/-
  DERIVED. GIVEN WITH THE SEED: THE CARDS: each row of YteolonjmgojoeaaGreatDoorRows.lean that lists a variable, with what it lists TIED to the program's text (the seventh form; the later family's looks); each row that meets fmt, with fmt's text TOLD by the authors' own Lean function (tested against real Go, not proved from fmt's source: count such statements apart). THE CARD IS WHAT COUNTS. Prove the row's statement (the work); the ties are given (YteolonjmgojoeaaGreatDoorTie.lean); close each card by the builder's one call (the guide's Derived/Test/ToyasCard.lean, 'card_holds'). Laid BY PROGRAM, IN A SANDBOX (cutbox-door.mjs). By AI agents, Wed Nov 11 2026. No macro, syntax, notation, axiom, sorry.
-/
import Derived.Test.YteolonjmgojoeaaGreatDoorRows
import GoSem.ClaimSeven
namespace Go.Proofs.YteolonjmgojoeaaGreatDoor
namespace Rows

/-- THE TIED CARD OF 'stockyardlaw36.WorkspaceEndings'. -/
def workspaceEndingsCard : Claim7 := { stood := { row := workspaceEndingsRow, standIns := [], harness := (true, "c00782aa553c1b8d161a34bbca8b7993e7742f7fa239a22695bcaca87643d82f"), looks := false }, kinds := [], alts := [], laidByText := true, laidKinds := [.data, .data, .data, .data, .pinned], laidTests := true, laidLooks := .later }
def WorkspaceEndingsCardSaid : Prop := Claim7.holds Tryz.pinned (.plain (OpenSpec.ofChange workspaceEndingsSpec)) workspaceEndingsCard

/-- THE SECOND FORM's CARD OF 'stockyardlaw36.WorkspaceEndings'. -/
def workspaceEndingsUptoCard : Claim7 := { stood := { row := workspaceEndingsUptoRow, standIns := [], harness := (true, "c00782aa553c1b8d161a34bbca8b7993e7742f7fa239a22695bcaca87643d82f"), looks := false }, kinds := [], alts := [], laidByText := true, laidKinds := [.data, .data, .data, .data, .pinned], laidTests := true, laidLooks := .later }
def WorkspaceEndingsUptoCardSaid : Prop := Claim7.holds Tryz.pinned (.plain (OpenSpec.upto workspaceEndingsSpec)) workspaceEndingsUptoCard
end Rows
end Go.Proofs.YteolonjmgojoeaaGreatDoor
