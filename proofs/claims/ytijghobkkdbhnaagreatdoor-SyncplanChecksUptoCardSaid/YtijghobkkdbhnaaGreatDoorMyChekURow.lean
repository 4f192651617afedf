/- SyncplanChecks, the second form: for every input whose bulk is at most 1048576 the statement returns true and leaves its arguments as they were. -/
import Derived.Test.YtijghobkkdbhnaaGreatDoorMcw47
set_option linter.unusedVariables false
set_option linter.unusedSimpArgs false
namespace Go.Proofs.YtijghobkkdbhnaaGreatDoor.syncplanChecksRow
open Go.ChangeShapes Go.WideShapes Go.ChangeAt Go.RowKit Go.Proofs.YtijghobkkdbhnaaGreatDoor.cardBase
open Go.ChangeMaps (open_string shut_string)
theorem plain (f:FuncId)(fn:Func)(hf:Tryz.pinned.checked.prog.funcNamed "stockyard/stockyardlaw35.SyncplanChecks" = some f)(hfn:Tryz.pinned.checked.prog.funcs[f]? = some fn):
  false=Tryz.pinned.checked.prog.looks []∧∀(j:Nat) t,fn.params[j]? = some t→Tryz.pinned.checked.prog.wantsStandIn t=false:=by
 obtain rfl:f=5:=Option.some.inj ((show Tryz.prog.funcNamed "stockyard/stockyardlaw35.SyncplanChecks" = some 5 by kernel_rfl).symm.trans hf) |>.symm
 obtain rfl:fn=Tryz.f5:=(Option.some.inj (Tryz.func5.symm.trans hfn)).symm
 refine⟨by kernel_rfl,fun j t ht=>?_⟩
 rw[Tryz.params5] at ht;have hm:t=22∨t=43:=by simpa using Array.mem_of_getElem? ht
 rcases hm with rfl | rfl
 ·exact (show Tryz.prog.wantsStandIn 22=false by kernel_rfl)
 ·exact (show Tryz.prog.wantsStandIn 43=false by kernel_rfl)
theorem card:Rows.SyncplanChecksUptoCardSaid:=
 Claim7.holds_tied_plain_at .later [] _ _ _ _ said (fun _ h=>by cases h) (by kernel_rfl) (fun _ h=>by cases h) syncplanChecksUpto_row_tie rfl ⟨rfl,rfl⟩ (by kernel_rfl) rfl plain (by kernel_rfl)
end Go.Proofs.YtijghobkkdbhnaaGreatDoor.syncplanChecksRow
namespace Go.Proofs.YtijghobkkdbhnaaGreatDoor
theorem syncplanChecks_holds:Rows.SyncplanChecksUptoCardSaid:=syncplanChecksRow.card
#print axioms syncplanChecks_holds
