/-
  DERIVED. GIVEN WITH THE SEED: THE CARDS: each row of YtlnjaagijaadmaaGreatDoorRows.lean that lists a variable, with what it lists TIED to the program's text (the seventh form; the later family's looks); each row that meets fmt, with fmt's text TOLD by the authors' own Lean function (tested against real Go, not proved from fmt's source: count such statements apart). THE CARD IS WHAT COUNTS. Prove the row's statement (the work); the ties are given (YtlnjaagijaadmaaGreatDoorTie.lean); close each card by the builder's one call (the guide's Derived/Test/ToyasCard.lean, 'card_holds'). Laid BY PROGRAM, IN A SANDBOX (cutbox-door.mjs). By AI agents, Wed Nov 11 2026. No macro, syntax, notation, axiom, sorry.
-/
import Derived.Test.YtlnjaagijaadmaaGreatDoorRows
import GoSem.ClaimSeven
namespace Go.Proofs.YtlnjaagijaadmaaGreatDoor
namespace Rows

/-- THE TIED CARD OF 'stockyardlaw35.SyncplanWanted'. -/
def syncplanWantedCard : Claim7 := { stood := { row := syncplanWantedRow, standIns := [], harness := (true, "9acc0af990dc682d5eedd46f8349690bf0318e1d88eefe6a3ba619f13d9e1aa9"), looks := false }, kinds := [], alts := [], laidByText := true, laidKinds := [.data, .pinned], laidTests := true, laidLooks := .later }
def SyncplanWantedCardSaid : Prop := Claim7.holds Tryz.pinned (.plain (OpenSpec.ofChange syncplanWantedSpec)) syncplanWantedCard

/-- THE SECOND FORM's CARD OF 'stockyardlaw35.SyncplanWanted'. -/
def syncplanWantedUptoCard : Claim7 := { stood := { row := syncplanWantedUptoRow, standIns := [], harness := (true, "9acc0af990dc682d5eedd46f8349690bf0318e1d88eefe6a3ba619f13d9e1aa9"), looks := false }, kinds := [], alts := [], laidByText := true, laidKinds := [.data, .pinned], laidTests := true, laidLooks := .later }
def SyncplanWantedUptoCardSaid : Prop := Claim7.holds Tryz.pinned (.plain (OpenSpec.upto syncplanWantedSpec)) syncplanWantedUptoCard
end Rows
end Go.Proofs.YtlnjaagijaadmaaGreatDoor
