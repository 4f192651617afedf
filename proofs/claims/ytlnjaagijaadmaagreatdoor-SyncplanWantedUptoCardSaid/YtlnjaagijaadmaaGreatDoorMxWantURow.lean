/- SyncplanWanted, the second form: for every input whose bulk is at most 1048576 the statement returns true and leaves its arguments as they were. -/
import Derived.Test.YtlnjaagijaadmaaGreatDoorMvw44
set_option linter.unusedVariables false
set_option linter.unusedSimpArgs false
namespace Go.Proofs.YtlnjaagijaadmaaGreatDoor.syncplanWantedRow
open Go.ChangeShapes Go.WideShapes Go.ChangeAt Go.RowKit Go.Proofs.YtlnjaagijaadmaaGreatDoor.cardBase
open Go.ChangeMaps (open_string shut_string)
theorem plain (f:FuncId)(fn:Func)(hf:Tryz.pinned.checked.prog.funcNamed "stockyard/stockyardlaw35.SyncplanWanted" = some f)(hfn:Tryz.pinned.checked.prog.funcs[f]? = some fn):
  false=Tryz.pinned.checked.prog.looks []/\∀(j:Nat) t,fn.params[j]? = some t->Tryz.pinned.checked.prog.wantsStandIn t=false:=by
 obtain rfl:f=3:=Option.some.inj ((show Tryz.prog.funcNamed "stockyard/stockyardlaw35.SyncplanWanted" = some 3 by kernel_rfl).symm.trans hf) |>.symm
 obtain rfl:fn=Tryz.f3:=(Option.some.inj (Tryz.func3.symm.trans hfn)).symm
 refine⟨by kernel_rfl,fun j t ht=>?_⟩
 rw[Tryz.params3] at ht;have hm:t=22\/t=23:=by simpa using Array.mem_of_getElem? ht
 rcases hm with rfl | rfl
 ·exact (show Tryz.prog.wantsStandIn 22=false by kernel_rfl)
 ·exact (show Tryz.prog.wantsStandIn 23=false by kernel_rfl)
theorem card:Rows.SyncplanWantedUptoCardSaid:=
 Claim7.holds_tied_plain_at .later [] _ _ _ _ said (fun _ h=>by cases h) (by kernel_rfl) (fun _ h=>by cases h) syncplanWantedUpto_row_tie rfl ⟨rfl,rfl⟩ (by kernel_rfl) rfl plain (by kernel_rfl)
end Go.Proofs.YtlnjaagijaadmaaGreatDoor.syncplanWantedRow
namespace Go.Proofs.YtlnjaagijaadmaaGreatDoor
theorem syncplanWanted_holds:Rows.SyncplanWantedUptoCardSaid:=syncplanWantedRow.card
#print axioms syncplanWanted_holds
