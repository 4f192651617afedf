/- SyncplanPlans, the second form: for every input whose bulk is at most 1048576 the statement returns true and leaves its arguments as they were. -/
import Derived.Test.YtijghobkkdbhnaaGreatDoorMgw46
set_option linter.unusedVariables false
set_option linter.unusedSimpArgs false
namespace Go.Proofs.YtijghobkkdbhnaaGreatDoor.syncplanPlansRow
open Go.ChangeShapes Go.WideShapes Go.ChangeAt Go.RowKit Go.Proofs.YtijghobkkdbhnaaGreatDoor.cardBase
open Go.ChangeMaps (open_string shut_string)
theorem plain (f:FuncId)(fn:Func)(hf:Tryz.pinned.checked.prog.funcNamed "stockyard/stockyardlaw35.SyncplanPlans" = some f)(hfn:Tryz.pinned.checked.prog.funcs[f]? = some fn):
  false=Tryz.pinned.checked.prog.looks []∧∀(j:Nat) t,fn.params[j]? = some t→Tryz.pinned.checked.prog.wantsStandIn t=false:=by
 obtain rfl:f=4:=Option.some.inj ((show Tryz.prog.funcNamed "stockyard/stockyardlaw35.SyncplanPlans" = some 4 by kernel_rfl).symm.trans hf) |>.symm
 obtain rfl:fn=Tryz.f4:=(Option.some.inj (Tryz.func4.symm.trans hfn)).symm
 refine⟨by kernel_rfl,fun j t ht=>?_⟩
 rw[Tryz.params4] at ht;have hm:t=22∨t=28:=by simpa using Array.mem_of_getElem? ht
 rcases hm with rfl | rfl
 ·exact (show Tryz.prog.wantsStandIn 22=false by kernel_rfl)
 ·exact (show Tryz.prog.wantsStandIn 28=false by kernel_rfl)
theorem card:Rows.SyncplanPlansUptoCardSaid:=
 Claim7.holds_tied_plain_at .later [] _ _ _ _ said (fun _ h=>by cases h) (by kernel_rfl) (fun _ h=>by cases h) syncplanPlansUpto_row_tie rfl ⟨rfl,rfl⟩ (by kernel_rfl) rfl plain (by kernel_rfl)
end Go.Proofs.YtijghobkkdbhnaaGreatDoor.syncplanPlansRow
namespace Go.Proofs.YtijghobkkdbhnaaGreatDoor
theorem syncplanPlans_holds:Rows.SyncplanPlansUptoCardSaid:=syncplanPlansRow.card
#print axioms syncplanPlans_holds
