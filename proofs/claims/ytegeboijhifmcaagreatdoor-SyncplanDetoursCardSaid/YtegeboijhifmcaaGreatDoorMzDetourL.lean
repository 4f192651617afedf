/- A part of the proof. -/
import Derived.Test.YtegeboijhifmcaaGreatDoorMzDtW
set_option linter.unusedVariables false
set_option linter.unusedSimpArgs false
set_option maxRecDepth 100000
namespace Go.Proofs.YtegeboijhifmcaaGreatDoor.syncplanDetoursRow
open Go.Proofs.Tryz
open Go.ChangeShapes Go.WideShapes Go.ChangeAt Go.RowKit Go.Proofs.YtegeboijhifmcaaGreatDoor.cardBase
open Go.ChangeMaps (open_string shut_string)
theorem contract (H:Type)(enc:TypeId×Value→H)(W:World)(base:Nat)(args:Array Value)(ds gs:List (DataW H))(before:List MemPlace)
  (hval0:∀(j:Nat) t v,Tryz.f9.params[j]? = some t→args[j]? = some v→Value.okWide prog W .any base t v)
  (hW:DataW.Whole enc prog Tryz.f9.params.toList Rows.syncplanDetoursSpec.vars false W args.toList ds gs before) (ts:List TypeId) (hwt:(DataW.weightsEach prog (Tryz.f9.params.toList++ts) (ds++gs)).all (·≤reachBytes)=true) (hsh:W.ShapedOpen prog):
  Calls prog 9 args W fun e W'=>∃ v,e=.returned v∧Rows.syncplanDetoursSpec.post enc prog Tryz.f9 false true false false W args v W':=by
 have he:Env W:=env_of hsh;have hW':=hW;have hval:∀(j:Nat) t v,Tryz.f9.params[j]? = some t→args[j]? = some v→Value.okWide prog W .any base t v:=hval0;obtain⟨p,q,hA0,hV,rfl,hfz,hnd⟩:=hW;have hA:DataW.TrodAll enc prog W 0 (fun _=>true) true Tryz.f9.params.toList args.toList ds p:=hA0;rw[Tryz.params9] at hA hval;obtain⟨v0,vs0,d0,ds0,p0,q0,hargs,rfl,rfl,h0,r0⟩:=trodAll_cons hA;obtain⟨rfl,rfl,rfl⟩:=trodAll_nil r0;obtain rfl:args=#[v0]:=by cases args;simp_all
 obtain⟨rfl,rfl⟩:=trodVars_none hV;have k0:=h0;have lt0:∀ x∈p0,x.block<W.heap.size:=by obtain⟨m,hm⟩:=k0;exact DataW.trod_lt m _ _ _ hm
 obtain⟨l0,A0,c0,rfl,b0,z0⟩:=zps underlying22 underlying3 (by kernel_rfl) (hval 0 22 v0 rfl rfl) h0
 clear hA0 hval0;refine (zr8 l0 A0 c0 W he b0 z0).mono fun e W' ⟨he,bel⟩=>?_;subst he;exact⟨_,rfl,_,_,_,[],_,[],hW',trodAll_mk1 (shut_bool underlying4 _),(trodAll_cons_mk (Below.trod laidOut (by kernel_rfl) (of_decide_eq_true (by kernel_rfl)) k0 bel lt0) trodAll_mk0),rfl,bel.frame _,fun h=>by cases h⟩
theorem laid_met (os:Os):laidMet prog Rows.syncplanDetoursRow.laid ((laidWorld os).forCall (fun _ _=>0) ⟨#[],#[.slice none 0 0],[]⟩).memory:=
 laidMet_of_run' 8 (by kernel_rfl) (by kernel_rfl)
theorem reads (os:Os){H:Type}(enc:TypeId×Value→H):∃ places,DataW.whole enc prog ((laidWorld os).forCall (fun _ _=>0) ⟨#[],#[.slice none 0 0],[]⟩).memory Tryz.f9.params.toList Rows.syncplanDetoursSpec.vars false (#[.slice none 0 0]:Array Value).toList 8=some ([.nil],[],places):=
 ⟨[],by kernel_rfl⟩
theorem lifted (os:Os)(started:os.Started)(H:Type)(enc:TypeId×Value→H)(F:Stop.Interp):
  ReturnsInHanded {} Tryz.checked os 9 .any ((OpenSpec.ofChange Rows.syncplanDetoursSpec).preRow enc prog Tryz.f9 Rows.syncplanDetoursRow.domain false Rows.syncplanDetoursRow.laid) (((OpenSpec.ofChange Rows.syncplanDetoursSpec).at F).post enc prog Tryz.f9 false true false false):=by
 obtain⟨places,hx⟩:=reads os enc;refine returnsInHanded_of_row (C:=Tryz.checked) (s:=OpenSpec.ofChange Rows.syncplanDetoursSpec) own started (by kernel_rfl) func9
  (witness_row_at (enc:=enc) (C:=Tryz.checked) false (laidWorld os) #[.slice none 0 0] rfl (by kernel_rfl) (by kernel_rfl) (by kernel_rfl)
   (OpenSpec.preRow_of_cond 8 hx (by kernel_rfl) (fun k hk=>by cases hk) (by kernel_rfl) (laid_met os))) ?_
 intro W base args ds gs before hval hW _ _ hwt _ hsh _;exact contract H enc W base args ds gs before hval hW _ hwt hsh
end Go.Proofs.YtegeboijhifmcaaGreatDoor.syncplanDetoursRow
