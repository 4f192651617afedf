/- SyncplanShows: for every input the statement returns true and leaves its arguments as they were. No conditions. -/
import Derived.Test.YtegeboijhifmcaaGreatDoorMgs43
set_option linter.unusedVariables false
set_option linter.unusedSimpArgs false
namespace Go.Proofs.YtegeboijhifmcaaGreatDoor.syncplanShowsRow
open Go.ChangeShapes Go.WideShapes Go.ChangeAt Go.RowKit Go.Proofs.YtegeboijhifmcaaGreatDoor.cardBase
open Go.ChangeMaps (open_string shut_string)
theorem plain (f:FuncId)(fn:Func)(hf:Tryz.pinned.checked.prog.funcNamed "stockyard/stockyardlaw35.SyncplanShows" = some f)(hfn:Tryz.pinned.checked.prog.funcs[f]? = some fn):
  false=Tryz.pinned.checked.prog.looks []∧∀(j:Nat) t,fn.params[j]? = some t→Tryz.pinned.checked.prog.wantsStandIn t=false:=by
 obtain rfl:f=10:=Option.some.inj ((show Tryz.prog.funcNamed "stockyard/stockyardlaw35.SyncplanShows" = some 10 by kernel_rfl).symm.trans hf) |>.symm
 obtain rfl:fn=Tryz.f10:=(Option.some.inj (Tryz.func10.symm.trans hfn)).symm
 refine⟨by kernel_rfl,fun j t ht=>?_⟩
 rw[Tryz.params10] at ht;obtain rfl:t=22:=by simpa using Array.mem_of_getElem? ht
 exact (show Tryz.prog.wantsStandIn 22=false by kernel_rfl)
theorem card:Rows.SyncplanShowsCardSaid:=
 Claim7.holds_tied_plain_at .later [] _ _ _ _ said (fun _ h=>by cases h) (by kernel_rfl) (fun _ h=>by cases h) syncplanShows_row_tie rfl ⟨rfl,rfl⟩ (by kernel_rfl) rfl plain (by kernel_rfl)
end Go.Proofs.YtegeboijhifmcaaGreatDoor.syncplanShowsRow
namespace Go.Proofs.YtegeboijhifmcaaGreatDoor
theorem syncplanShows_holds:Rows.SyncplanShowsCardSaid:=syncplanShowsRow.card
#print axioms syncplanShows_holds
end Go.Proofs.YtegeboijhifmcaaGreatDoor
