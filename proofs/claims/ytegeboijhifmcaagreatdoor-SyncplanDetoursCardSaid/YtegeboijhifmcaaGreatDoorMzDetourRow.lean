/- SyncplanDetours: for every input the statement returns true and leaves its arguments as they were. No conditions. -/
import Derived.Test.YtegeboijhifmcaaGreatDoorMzDetourS
set_option linter.unusedVariables false
set_option linter.unusedSimpArgs false
namespace Go.Proofs.YtegeboijhifmcaaGreatDoor.syncplanDetoursRow
open Go.ChangeShapes Go.WideShapes Go.ChangeAt Go.RowKit Go.Proofs.YtegeboijhifmcaaGreatDoor.cardBase
open Go.ChangeMaps (open_string shut_string)
theorem plain (f:FuncId)(fn:Func)(hf:Tryz.pinned.checked.prog.funcNamed "stockyard/stockyardlaw35.SyncplanDetours" = some f)(hfn:Tryz.pinned.checked.prog.funcs[f]? = some fn):
  false=Tryz.pinned.checked.prog.looks []∧∀(j:Nat) t,fn.params[j]? = some t→Tryz.pinned.checked.prog.wantsStandIn t=false:=by
 obtain rfl:f=9:=Option.some.inj ((show Tryz.prog.funcNamed "stockyard/stockyardlaw35.SyncplanDetours" = some 9 by kernel_rfl).symm.trans hf) |>.symm
 obtain rfl:fn=Tryz.f9:=(Option.some.inj (Tryz.func9.symm.trans hfn)).symm
 refine⟨by kernel_rfl,fun j t ht=>?_⟩
 rw[Tryz.params9] at ht;obtain rfl:t=22:=by simpa using Array.mem_of_getElem? ht
 exact (show Tryz.prog.wantsStandIn 22=false by kernel_rfl)
theorem card:Rows.SyncplanDetoursCardSaid:=
 Claim7.holds_tied_plain_at .later [] _ _ _ _ said (fun _ h=>by cases h) (by kernel_rfl) (fun _ h=>by cases h) syncplanDetours_row_tie rfl ⟨rfl,rfl⟩ (by kernel_rfl) rfl plain (by kernel_rfl)
end Go.Proofs.YtegeboijhifmcaaGreatDoor.syncplanDetoursRow
namespace Go.Proofs.YtegeboijhifmcaaGreatDoor
theorem syncplanDetours_holds:Rows.SyncplanDetoursCardSaid:=syncplanDetoursRow.card
#print axioms syncplanDetours_holds
end Go.Proofs.YtegeboijhifmcaaGreatDoor
