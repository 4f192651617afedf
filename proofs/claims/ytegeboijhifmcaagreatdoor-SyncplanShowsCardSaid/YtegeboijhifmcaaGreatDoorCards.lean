/-
  DERIVED. GIVEN WITH THE SEED: THE CARDS: each row of YtegeboijhifmcaaGreatDoorRows.lean that lists a variable, with what it lists TIED to the program's text (the seventh form; the later family's looks); each row that meets fmt, with fmt's text TOLD by the authors' own Lean function (tested against real Go, not proved from fmt's source: count such statements apart). THE CARD IS WHAT COUNTS. Prove the row's statement (the work); the ties are given (YtegeboijhifmcaaGreatDoorTie.lean); close each card by the builder's one call (the guide's Derived/Test/ToyasCard.lean, 'card_holds'). Laid BY PROGRAM, IN A SANDBOX (cutbox-door.mjs). By AI agents, Wed Nov 11 2026. No macro, syntax, notation, axiom, sorry.
-/
import Derived.Test.YtegeboijhifmcaaGreatDoorRows
import GoSem.ClaimSeven
namespace Go.Proofs.YtegeboijhifmcaaGreatDoor
namespace Rows

/-- THE TIED CARD OF 'stockyardlaw35.SyncplanThrift'. -/
def syncplanThriftCard : Claim7 := { stood := { row := syncplanThriftRow, standIns := [], harness := (true, "38d06aaebb5bac9c564c7e45c2b0a0e41746a461f47a41acdd7b1253cc1476d8"), looks := false }, kinds := [], alts := [], laidByText := true, laidKinds := [.data, .pinned], laidTests := true, laidLooks := .later }
def SyncplanThriftCardSaid : Prop := Claim7.holds Tryz.pinned (.plain (OpenSpec.ofChange syncplanThriftSpec)) syncplanThriftCard

/-- THE TIED CARD OF 'stockyardlaw35.SyncplanReaches'. -/
def syncplanReachesCard : Claim7 := { stood := { row := syncplanReachesRow, standIns := [], harness := (true, "38d06aaebb5bac9c564c7e45c2b0a0e41746a461f47a41acdd7b1253cc1476d8"), looks := false }, kinds := [], alts := [], laidByText := true, laidKinds := [.data, .pinned], laidTests := true, laidLooks := .later }
def SyncplanReachesCardSaid : Prop := Claim7.holds Tryz.pinned (.plain (OpenSpec.ofChange syncplanReachesSpec)) syncplanReachesCard

/-- THE TIED CARD OF 'stockyardlaw35.SyncplanFits'. -/
def syncplanFitsCard : Claim7 := { stood := { row := syncplanFitsRow, standIns := [], harness := (true, "38d06aaebb5bac9c564c7e45c2b0a0e41746a461f47a41acdd7b1253cc1476d8"), looks := false }, kinds := [], alts := [], laidByText := true, laidKinds := [.data, .pinned], laidTests := true, laidLooks := .later }
def SyncplanFitsCardSaid : Prop := Claim7.holds Tryz.pinned (.plain (OpenSpec.ofChange syncplanFitsSpec)) syncplanFitsCard

/-- THE TIED CARD OF 'stockyardlaw35.SyncplanSafe'. -/
def syncplanSafeCard : Claim7 := { stood := { row := syncplanSafeRow, standIns := [], harness := (true, "38d06aaebb5bac9c564c7e45c2b0a0e41746a461f47a41acdd7b1253cc1476d8"), looks := false }, kinds := [], alts := [], laidByText := true, laidKinds := [.data, .pinned], laidTests := true, laidLooks := .later }
def SyncplanSafeCardSaid : Prop := Claim7.holds Tryz.pinned (.plain (OpenSpec.ofChange syncplanSafeSpec)) syncplanSafeCard

/-- THE TIED CARD OF 'stockyardlaw35.SyncplanAgain'. -/
def syncplanAgainCard : Claim7 := { stood := { row := syncplanAgainRow, standIns := [], harness := (true, "38d06aaebb5bac9c564c7e45c2b0a0e41746a461f47a41acdd7b1253cc1476d8"), looks := false }, kinds := [], alts := [], laidByText := true, laidKinds := [.data, .pinned], laidTests := true, laidLooks := .later }
def SyncplanAgainCardSaid : Prop := Claim7.holds Tryz.pinned (.plain (OpenSpec.ofChange syncplanAgainSpec)) syncplanAgainCard

/-- THE TIED CARD OF 'stockyardlaw35.SyncplanReasons'. -/
def syncplanReasonsCard : Claim7 := { stood := { row := syncplanReasonsRow, standIns := [], harness := (true, "38d06aaebb5bac9c564c7e45c2b0a0e41746a461f47a41acdd7b1253cc1476d8"), looks := false }, kinds := [], alts := [], laidByText := true, laidKinds := [.data, .pinned], laidTests := true, laidLooks := .later }
def SyncplanReasonsCardSaid : Prop := Claim7.holds Tryz.pinned (.plain (OpenSpec.ofChange syncplanReasonsSpec)) syncplanReasonsCard

/-- THE TIED CARD OF 'stockyardlaw35.SyncplanDetours'. -/
def syncplanDetoursCard : Claim7 := { stood := { row := syncplanDetoursRow, standIns := [], harness := (true, "38d06aaebb5bac9c564c7e45c2b0a0e41746a461f47a41acdd7b1253cc1476d8"), looks := false }, kinds := [], alts := [], laidByText := true, laidKinds := [.data, .pinned], laidTests := true, laidLooks := .later }
def SyncplanDetoursCardSaid : Prop := Claim7.holds Tryz.pinned (.plain (OpenSpec.ofChange syncplanDetoursSpec)) syncplanDetoursCard

/-- THE TIED CARD OF 'stockyardlaw35.SyncplanShows'. -/
def syncplanShowsCard : Claim7 := { stood := { row := syncplanShowsRow, standIns := [], harness := (true, "38d06aaebb5bac9c564c7e45c2b0a0e41746a461f47a41acdd7b1253cc1476d8"), looks := false }, kinds := [], alts := [], laidByText := true, laidKinds := [.data, .pinned], laidTests := true, laidLooks := .later }
def SyncplanShowsCardSaid : Prop := Claim7.holds Tryz.pinned (.plain (OpenSpec.ofChange syncplanShowsSpec)) syncplanShowsCard

/-- THE SECOND FORM's CARD OF 'stockyardlaw35.SyncplanThrift'. -/
def syncplanThriftUptoCard : Claim7 := { stood := { row := syncplanThriftUptoRow, standIns := [], harness := (true, "38d06aaebb5bac9c564c7e45c2b0a0e41746a461f47a41acdd7b1253cc1476d8"), looks := false }, kinds := [], alts := [], laidByText := true, laidKinds := [.data, .pinned], laidTests := true, laidLooks := .later }
def SyncplanThriftUptoCardSaid : Prop := Claim7.holds Tryz.pinned (.plain (OpenSpec.upto syncplanThriftSpec)) syncplanThriftUptoCard

/-- THE SECOND FORM's CARD OF 'stockyardlaw35.SyncplanReaches'. -/
def syncplanReachesUptoCard : Claim7 := { stood := { row := syncplanReachesUptoRow, standIns := [], harness := (true, "38d06aaebb5bac9c564c7e45c2b0a0e41746a461f47a41acdd7b1253cc1476d8"), looks := false }, kinds := [], alts := [], laidByText := true, laidKinds := [.data, .pinned], laidTests := true, laidLooks := .later }
def SyncplanReachesUptoCardSaid : Prop := Claim7.holds Tryz.pinned (.plain (OpenSpec.upto syncplanReachesSpec)) syncplanReachesUptoCard

/-- THE SECOND FORM's CARD OF 'stockyardlaw35.SyncplanFits'. -/
def syncplanFitsUptoCard : Claim7 := { stood := { row := syncplanFitsUptoRow, standIns := [], harness := (true, "38d06aaebb5bac9c564c7e45c2b0a0e41746a461f47a41acdd7b1253cc1476d8"), looks := false }, kinds := [], alts := [], laidByText := true, laidKinds := [.data, .pinned], laidTests := true, laidLooks := .later }
def SyncplanFitsUptoCardSaid : Prop := Claim7.holds Tryz.pinned (.plain (OpenSpec.upto syncplanFitsSpec)) syncplanFitsUptoCard

/-- THE SECOND FORM's CARD OF 'stockyardlaw35.SyncplanSafe'. -/
def syncplanSafeUptoCard : Claim7 := { stood := { row := syncplanSafeUptoRow, standIns := [], harness := (true, "38d06aaebb5bac9c564c7e45c2b0a0e41746a461f47a41acdd7b1253cc1476d8"), looks := false }, kinds := [], alts := [], laidByText := true, laidKinds := [.data, .pinned], laidTests := true, laidLooks := .later }
def SyncplanSafeUptoCardSaid : Prop := Claim7.holds Tryz.pinned (.plain (OpenSpec.upto syncplanSafeSpec)) syncplanSafeUptoCard

/-- THE SECOND FORM's CARD OF 'stockyardlaw35.SyncplanAgain'. -/
def syncplanAgainUptoCard : Claim7 := { stood := { row := syncplanAgainUptoRow, standIns := [], harness := (true, "38d06aaebb5bac9c564c7e45c2b0a0e41746a461f47a41acdd7b1253cc1476d8"), looks := false }, kinds := [], alts := [], laidByText := true, laidKinds := [.data, .pinned], laidTests := true, laidLooks := .later }
def SyncplanAgainUptoCardSaid : Prop := Claim7.holds Tryz.pinned (.plain (OpenSpec.upto syncplanAgainSpec)) syncplanAgainUptoCard

/-- THE SECOND FORM's CARD OF 'stockyardlaw35.SyncplanReasons'. -/
def syncplanReasonsUptoCard : Claim7 := { stood := { row := syncplanReasonsUptoRow, standIns := [], harness := (true, "38d06aaebb5bac9c564c7e45c2b0a0e41746a461f47a41acdd7b1253cc1476d8"), looks := false }, kinds := [], alts := [], laidByText := true, laidKinds := [.data, .pinned], laidTests := true, laidLooks := .later }
def SyncplanReasonsUptoCardSaid : Prop := Claim7.holds Tryz.pinned (.plain (OpenSpec.upto syncplanReasonsSpec)) syncplanReasonsUptoCard

/-- THE SECOND FORM's CARD OF 'stockyardlaw35.SyncplanDetours'. -/
def syncplanDetoursUptoCard : Claim7 := { stood := { row := syncplanDetoursUptoRow, standIns := [], harness := (true, "38d06aaebb5bac9c564c7e45c2b0a0e41746a461f47a41acdd7b1253cc1476d8"), looks := false }, kinds := [], alts := [], laidByText := true, laidKinds := [.data, .pinned], laidTests := true, laidLooks := .later }
def SyncplanDetoursUptoCardSaid : Prop := Claim7.holds Tryz.pinned (.plain (OpenSpec.upto syncplanDetoursSpec)) syncplanDetoursUptoCard

/-- THE SECOND FORM's CARD OF 'stockyardlaw35.SyncplanShows'. -/
def syncplanShowsUptoCard : Claim7 := { stood := { row := syncplanShowsUptoRow, standIns := [], harness := (true, "38d06aaebb5bac9c564c7e45c2b0a0e41746a461f47a41acdd7b1253cc1476d8"), looks := false }, kinds := [], alts := [], laidByText := true, laidKinds := [.data, .pinned], laidTests := true, laidLooks := .later }
def SyncplanShowsUptoCardSaid : Prop := Claim7.holds Tryz.pinned (.plain (OpenSpec.upto syncplanShowsSpec)) syncplanShowsUptoCard
end Rows
end Go.Proofs.YtegeboijhifmcaaGreatDoor
