/-
  DERIVED. GIVEN WITH THE SEED: THE CARDS: each row of YtmhmnchdhacdbaaDoorRows.lean that lists a variable, with what it lists TIED to the program's text (the seventh form; the later family's looks); each row that meets fmt, with fmt's text TOLD by the authors' own Lean function (tested against real Go, not proved from fmt's source: count such statements apart). THE CARD IS WHAT COUNTS. Prove the row's statement (the work); the ties are given (YtmhmnchdhacdbaaDoorTie.lean); close each card by the builder's one call (the guide's Derived/Test/ToyasCard.lean, 'card_holds'). Laid BY PROGRAM, IN A SANDBOX (cutbox-door.mjs). By AI agents, Wed Nov 11 2026. No macro, syntax, notation, axiom, sorry.
-/
import Derived.Test.YtmhmnchdhacdbaaDoorRows
import GoSem.ClaimSeven
namespace Go.Proofs.YtmhmnchdhacdbaaDoor
namespace Rows

/-- THE TIED CARD OF 'stockyardlaw11.HistoryAppends'. -/
def historyAppendsCard : Claim7 := { stood := { row := historyAppendsRow, standIns := [], harness := (true, "dc46093d2df815534643bc9afd40aefc1c5afba78380b493c111df62c1aa81fd"), looks := false }, kinds := [], alts := [], laidByText := true, laidKinds := [.data, .pinned], laidTests := true, laidLooks := .later }
def HistoryAppendsCardSaid : Prop := Claim7.holds Tryd.pinned (.plain (OpenSpec.ofChange historyAppendsSpec)) historyAppendsCard

/-- THE TIED CARD OF 'stockyardlaw11.HistoryPlays'. -/
def historyPlaysCard : Claim7 := { stood := { row := historyPlaysRow, standIns := [], harness := (true, "dc46093d2df815534643bc9afd40aefc1c5afba78380b493c111df62c1aa81fd"), looks := false }, kinds := [], alts := [], laidByText := true, laidKinds := [.data, .pinned], laidTests := true, laidLooks := .later }
def HistoryPlaysCardSaid : Prop := Claim7.holds Tryd.pinned (.plain (OpenSpec.ofChange historyPlaysSpec)) historyPlaysCard

/-- THE TIED CARD OF 'stockyardlaw11.HistoryValids'. -/
def historyValidsCard : Claim7 := { stood := { row := historyValidsRow, standIns := [], harness := (true, "dc46093d2df815534643bc9afd40aefc1c5afba78380b493c111df62c1aa81fd"), looks := false }, kinds := [], alts := [], laidByText := true, laidKinds := [.data, .pinned], laidTests := true, laidLooks := .later }
def HistoryValidsCardSaid : Prop := Claim7.holds Tryd.pinned (.plain (OpenSpec.ofChange historyValidsSpec)) historyValidsCard

/-- THE SECOND FORM's CARD OF 'stockyardlaw11.HistoryAppends'. -/
def historyAppendsUptoCard : Claim7 := { stood := { row := historyAppendsUptoRow, standIns := [], harness := (true, "dc46093d2df815534643bc9afd40aefc1c5afba78380b493c111df62c1aa81fd"), looks := false }, kinds := [], alts := [], laidByText := true, laidKinds := [.data, .pinned], laidTests := true, laidLooks := .later }
def HistoryAppendsUptoCardSaid : Prop := Claim7.holds Tryd.pinned (.plain (OpenSpec.upto historyAppendsSpec)) historyAppendsUptoCard

/-- THE SECOND FORM's CARD OF 'stockyardlaw11.HistoryPlays'. -/
def historyPlaysUptoCard : Claim7 := { stood := { row := historyPlaysUptoRow, standIns := [], harness := (true, "dc46093d2df815534643bc9afd40aefc1c5afba78380b493c111df62c1aa81fd"), looks := false }, kinds := [], alts := [], laidByText := true, laidKinds := [.data, .pinned], laidTests := true, laidLooks := .later }
def HistoryPlaysUptoCardSaid : Prop := Claim7.holds Tryd.pinned (.plain (OpenSpec.upto historyPlaysSpec)) historyPlaysUptoCard

/-- THE SECOND FORM's CARD OF 'stockyardlaw11.HistoryValids'. -/
def historyValidsUptoCard : Claim7 := { stood := { row := historyValidsUptoRow, standIns := [], harness := (true, "dc46093d2df815534643bc9afd40aefc1c5afba78380b493c111df62c1aa81fd"), looks := false }, kinds := [], alts := [], laidByText := true, laidKinds := [.data, .pinned], laidTests := true, laidLooks := .later }
def HistoryValidsUptoCardSaid : Prop := Claim7.holds Tryd.pinned (.plain (OpenSpec.upto historyValidsSpec)) historyValidsUptoCard
end Rows
end Go.Proofs.YtmhmnchdhacdbaaDoor
