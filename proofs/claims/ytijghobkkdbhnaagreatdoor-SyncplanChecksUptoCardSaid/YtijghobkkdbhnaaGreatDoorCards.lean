/-
  DERIVED. GIVEN WITH THE SEED: THE CARDS: each row of YtijghobkkdbhnaaGreatDoorRows.lean that lists a variable, with what it lists TIED to the program's text (the seventh form; the later family's looks); each row that meets fmt, with fmt's text TOLD by the authors' own Lean function (tested against real Go, not proved from fmt's source: count such statements apart). THE CARD IS WHAT COUNTS. Prove the row's statement (the work); the ties are given (YtijghobkkdbhnaaGreatDoorTie.lean); close each card by the builder's one call (the guide's Derived/Test/ToyasCard.lean, 'card_holds'). Laid BY PROGRAM, IN A SANDBOX (cutbox-door.mjs). By AI agents, Wed Nov 11 2026. No macro, syntax, notation, axiom, sorry.
-/
import Derived.Test.YtijghobkkdbhnaaGreatDoorRows
import GoSem.ClaimSeven
namespace Go.Proofs.YtijghobkkdbhnaaGreatDoor
namespace Rows

/-- THE TIED CARD OF 'stockyardlaw35.SyncplanWanted'. -/
def syncplanWantedCard : Claim7 := { stood := { row := syncplanWantedRow, standIns := [], harness := (true, "c7980945064b11427f1f98d244a3c38c99b6b2db89808e7fe09bcb51767d422a"), looks := false }, kinds := [], alts := [], laidByText := true, laidKinds := [.data, .pinned], laidTests := true, laidLooks := .later }
def SyncplanWantedCardSaid : Prop := Claim7.holds Tryz.pinned (.plain (OpenSpec.ofChange syncplanWantedSpec)) syncplanWantedCard

/-- THE TIED CARD OF 'stockyardlaw35.SyncplanPlans'. -/
def syncplanPlansCard : Claim7 := { stood := { row := syncplanPlansRow, standIns := [], harness := (true, "c7980945064b11427f1f98d244a3c38c99b6b2db89808e7fe09bcb51767d422a"), looks := false }, kinds := [], alts := [], laidByText := true, laidKinds := [.data, .pinned], laidTests := true, laidLooks := .later }
def SyncplanPlansCardSaid : Prop := Claim7.holds Tryz.pinned (.plain (OpenSpec.ofChange syncplanPlansSpec)) syncplanPlansCard

/-- THE TIED CARD OF 'stockyardlaw35.SyncplanChecks'. -/
def syncplanChecksCard : Claim7 := { stood := { row := syncplanChecksRow, standIns := [], harness := (true, "c7980945064b11427f1f98d244a3c38c99b6b2db89808e7fe09bcb51767d422a"), looks := false }, kinds := [], alts := [], laidByText := true, laidKinds := [.data, .pinned], laidTests := true, laidLooks := .later }
def SyncplanChecksCardSaid : Prop := Claim7.holds Tryz.pinned (.plain (OpenSpec.ofChange syncplanChecksSpec)) syncplanChecksCard

/-- THE SECOND FORM's CARD OF 'stockyardlaw35.SyncplanWanted'. -/
def syncplanWantedUptoCard : Claim7 := { stood := { row := syncplanWantedUptoRow, standIns := [], harness := (true, "c7980945064b11427f1f98d244a3c38c99b6b2db89808e7fe09bcb51767d422a"), looks := false }, kinds := [], alts := [], laidByText := true, laidKinds := [.data, .pinned], laidTests := true, laidLooks := .later }
def SyncplanWantedUptoCardSaid : Prop := Claim7.holds Tryz.pinned (.plain (OpenSpec.upto syncplanWantedSpec)) syncplanWantedUptoCard

/-- THE SECOND FORM's CARD OF 'stockyardlaw35.SyncplanPlans'. -/
def syncplanPlansUptoCard : Claim7 := { stood := { row := syncplanPlansUptoRow, standIns := [], harness := (true, "c7980945064b11427f1f98d244a3c38c99b6b2db89808e7fe09bcb51767d422a"), looks := false }, kinds := [], alts := [], laidByText := true, laidKinds := [.data, .pinned], laidTests := true, laidLooks := .later }
def SyncplanPlansUptoCardSaid : Prop := Claim7.holds Tryz.pinned (.plain (OpenSpec.upto syncplanPlansSpec)) syncplanPlansUptoCard

/-- THE SECOND FORM's CARD OF 'stockyardlaw35.SyncplanChecks'. -/
def syncplanChecksUptoCard : Claim7 := { stood := { row := syncplanChecksUptoRow, standIns := [], harness := (true, "c7980945064b11427f1f98d244a3c38c99b6b2db89808e7fe09bcb51767d422a"), looks := false }, kinds := [], alts := [], laidByText := true, laidKinds := [.data, .pinned], laidTests := true, laidLooks := .later }
def SyncplanChecksUptoCardSaid : Prop := Claim7.holds Tryz.pinned (.plain (OpenSpec.upto syncplanChecksSpec)) syncplanChecksUptoCard
end Rows
end Go.Proofs.YtijghobkkdbhnaaGreatDoor
