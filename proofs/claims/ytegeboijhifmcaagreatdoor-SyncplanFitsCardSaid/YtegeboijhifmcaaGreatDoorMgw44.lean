/- A part of the proof. -/
import Derived.Test.YtegeboijhifmcaaGreatDoorMgw43
set_option linter.unusedVariables false
set_option linter.unusedSimpArgs false
set_option maxHeartbeats 8000000
set_option maxRecDepth 100000
namespace Go.Proofs.YtegeboijhifmcaaGreatDoor
open Go.Proofs.Tryz
open Go.RowKit
theorem zpq (L:List Int)(A:Option Addr)(c:Nat)(w:World)(he:Env w)(hL:Row w 1 (.slice A L.length c) L.length (L.map fun(n:Int)=>.int .i64 n))(hA:∀ ad,A=some ad→ad.block<w.heap.size):
  Calls prog 5 #[.slice A L.length c] w fun e w'=>e=.returned (.bool true)∧Below w.heap.size w w':=by
 have HMD:=hd_ (zpo L A c w he hL hA);have HKN:=hd_ (fun X (hX:Env X)=>zne X hX);clear he hL hA;go_enter func5,ntmps5;go_wp2_with fail;refine HMD.out.mono ?_;rintro e w1 ⟨dv,dr,mv,hv,ov,tv,U,g,D,k,es,ch,hs,op,dt,rfl,hsc,hat,-,-,-,hb1,hen,Aq,cq,rfl⟩;dsimp only;obtain⟨Ad,cd,rfl,-⟩:=id hat.revs;obtain⟨Am,cm,rfl,-⟩:=id hat.ents.1;obtain⟨Ah,chh,rfl,-⟩:=id hat.havs;obtain⟨Ao,co,rfl,-⟩:=id hat.opn;obtain⟨At,ct,rfl,-⟩:=id hat.drt;have HS:=hd_ (zqe (dr:=.slice Aq 0 cq) hsc hat hen);clear HMD hsc hat hen;go_upto_region 2 with fail;have HB2:=hd_ (zcf hb1 (.cells #[.slice Ad D.length cd,.slice Aq 0 cq,.slice Am es.length cm,.int .i64 ch,.slice Ah hs.length chh,.slice Ao op.length co,.slice At dt.length ct] 31));have HS2:=hd_ (HS.out.under ((Below.refl w1.heap.size w1).alloc (Nat.le_refl _) (.cells #[.slice Ad D.length cd,.slice Aq 0 cq,.slice Am es.length cm,.int .i64 ch,.slice Ah hs.length chh,.slice Ao op.length co,.slice At dt.length ct] 31)));have HX2:=hd_ (z0l w1 [.slice Ad D.length cd,.slice Aq 0 cq,.slice Am es.length cm,.int .i64 ch,.slice Ah hs.length chh,.slice Ao op.length co,.slice At dt.length ct] 31);clear HS hb1;generalize w1.alloc (.cells #[.slice Ad D.length cd,.slice Aq 0 cq,.slice Am es.length cm,.int .i64 ch,.slice Ah hs.length chh,.slice Ao op.length co,.slice At dt.length ct] 31)=W2 at HB2 HS2 HX2 ⊢;generalize w1.heap.size=g3 at HX2 ⊢;obtain⟨x0,x1,x2,x3,x4,x5,x6⟩:=zqf HX2.out;have HPL:=hd_ (HS2.out.plan ch hs op dt (.slice Ah hs.length chh) (.slice Ao op.length co) (.slice At dt.length ct) HS2.out.hv HS2.out.hl HS2.out.at_.havs HS2.out.at_.opn HS2.out.at_.drt HS2.out.opl HS2.out.dtl);go_wp2_with fail;refine HPL.out.mono ?_;rintro e w3 ⟨pv,rfl,hp3,hb3⟩;dsimp only;have HB3:=hd_ (z0r HB2.out hb3);have HS3:=hd_ (HS2.out.under hb3);have HX3:=hd_ (HX2.out.below hb3 HX2.out.lt);have HP3:=hd_ hp3;clear hp3 hb3 HPL x0 x1 x2 x3 x4 x5 x6 HX2 HB2 HS2;obtain⟨x0,x1,x2,x3,x4,x5,x6⟩:=zqf HX3.out;have HRS:=hd_ (zn4 HS3.out.hv HS3.out.wok (by have:=HS3.out.hl;omega) HS3.out.wl HS3.out.at_.havs HP3.out)
 go_wp2_with fail;refine HRS.out.mono ?_;rintro e w4 ⟨rv,rfl,hr4,hb4⟩;dsimp only;have HB4:=hd_ (z0r HB3.out hb4);have HS4:=hd_ (HS3.out.under hb4);have HX4:=hd_ (HX3.out.below hb4 HX3.out.lt);have HP4:=hd_ (HP3.out.below hb4);have HR4:=hd_ hr4;clear hr4 hb4 HRS x0 x1 x2 x3 x4 x5 x6 HX3 HB3 HS3 HP3;go_wp2_with fail;refine (HKN.out _ HS4.out.env).mono ?_;rintro e w5 ⟨rfl,hb5⟩;dsimp only;have HB5:=hd_ (z0r HB4.out hb5);have HS5:=hd_ (HS4.out.under hb5);have HX5:=hd_ (HX4.out.below hb5 HX4.out.lt);have HP5:=hd_ (HP4.out.below hb5);have HR5:=hd_ (HR4.out.below hb5);clear hb5 HKN HX4 HB4 HS4 HP4 HR4;obtain⟨x0,x1,x2,x3,x4,x5,x6⟩:=zqf HX5.out;have HCK:=hd_ (zn5 HS5.out.hv HS5.out.wok (by have:=HS5.out.hl;omega) HS5.out.wl HS5.out.at_.havs HP5.out)
 have HHC:=hd_ (fun X (hX:Below w5.heap.size w5 X)=>zn6 (zpy HS5.out.hv HS5.out.wok) (zpp HS5.out.hl HS5.out.wl) (HR5.out.below hX));go_wp2_with fail;refine HCK.out.mono ?_;rintro e w6 ⟨rfl,hb6⟩;dsimp only;have HB6:=hd_ (z0r HB5.out hb6);have HH6:=hd_ (HHC.out w6 hb6);clear hb6 HCK HHC x0 x1 x2 x3 x4 x5 x6;go_wp2_with fail;refine HH6.out.mono ?_;rintro e w7 ⟨rfl,hb7⟩;dsimp only;have HB7:=hd_ (z0r HB6.out hb7);clear hb7 HH6;go_wp2_with fail;go_ret;exact⟨rfl,HB7.out⟩
end Go.Proofs.YtegeboijhifmcaaGreatDoor
/- SyncplanFits: for every input the statement returns true and leaves its arguments as they were. No conditions. -/
namespace Go.Proofs.YtegeboijhifmcaaGreatDoor.syncplanFitsRow
open Go.Proofs.Tryz
open Go.ChangeShapes Go.WideShapes Go.ChangeAt Go.RowKit Go.Proofs.YtegeboijhifmcaaGreatDoor.cardBase
open Go.ChangeMaps (open_string shut_string)
theorem contract (H:Type)(enc:TypeId×Value→H)(W:World)(base:Nat)(args:Array Value)(ds gs:List (DataW H))(before:List MemPlace)
  (hval0:∀(j:Nat) t v,Tryz.f5.params[j]? = some t→args[j]? = some v→Value.okWide prog W .any base t v)
  (hW:DataW.Whole enc prog Tryz.f5.params.toList Rows.syncplanFitsSpec.vars false W args.toList ds gs before) (ts:List TypeId) (hwt:(DataW.weightsEach prog (Tryz.f5.params.toList++ts) (ds++gs)).all (·≤reachBytes)=true) (hsh:W.ShapedOpen prog):
  Calls prog 5 args W fun e W'=>∃ v,e=.returned v∧Rows.syncplanFitsSpec.post enc prog Tryz.f5 false true false false W args v W':=by
 have he:Env W:=env_of hsh;have hW':=hW;have hval:∀(j:Nat) t v,Tryz.f5.params[j]? = some t→args[j]? = some v→Value.okWide prog W .any base t v:=hval0;obtain⟨p,q,hA0,hV,rfl,hfz,hnd⟩:=hW;have hA:DataW.TrodAll enc prog W 0 (fun _=>true) true Tryz.f5.params.toList args.toList ds p:=hA0;rw[Tryz.params5] at hA hval;obtain⟨v0,vs0,d0,ds0,p0,q0,hargs,rfl,rfl,h0,r0⟩:=trodAll_cons hA;obtain⟨rfl,rfl,rfl⟩:=trodAll_nil r0;obtain rfl:args=#[v0]:=by cases args;simp_all
 obtain⟨rfl,rfl⟩:=trodVars_none hV;have k0:=h0;have lt0:∀ x∈p0,x.block<W.heap.size:=by obtain⟨m,hm⟩:=k0;exact DataW.trod_lt m _ _ _ hm
 obtain⟨l0,A0,c0,rfl,b0,z0⟩:=zps underlying22 underlying3 (by kernel_rfl) (hval 0 22 v0 rfl rfl) h0
 clear hA0 hval0;refine (zpq l0 A0 c0 W he b0 z0).mono fun e W' ⟨he,bel⟩=>?_;subst he;exact⟨_,rfl,_,_,_,[],_,[],hW',trodAll_mk1 (shut_bool underlying4 _),(trodAll_cons_mk (Below.trod laidOut (by kernel_rfl) (of_decide_eq_true (by kernel_rfl)) k0 bel lt0) trodAll_mk0),rfl,bel.frame _,fun h=>by cases h⟩
theorem laid_met (os:Os):laidMet prog Rows.syncplanFitsRow.laid ((laidWorld os).forCall (fun _ _=>0) ⟨#[],#[.slice none 0 0],[]⟩).memory:=
 laidMet_of_run' 8 (by kernel_rfl) (by kernel_rfl)
theorem reads (os:Os){H:Type}(enc:TypeId×Value→H):∃ places,DataW.whole enc prog ((laidWorld os).forCall (fun _ _=>0) ⟨#[],#[.slice none 0 0],[]⟩).memory Tryz.f5.params.toList Rows.syncplanFitsSpec.vars false (#[.slice none 0 0]:Array Value).toList 8=some ([.nil],[],places):=
 ⟨[],by kernel_rfl⟩
theorem lifted (os:Os)(started:os.Started)(H:Type)(enc:TypeId×Value→H)(F:Stop.Interp):
  ReturnsInHanded {} Tryz.checked os 5 .any ((OpenSpec.ofChange Rows.syncplanFitsSpec).preRow enc prog Tryz.f5 Rows.syncplanFitsRow.domain false Rows.syncplanFitsRow.laid) (((OpenSpec.ofChange Rows.syncplanFitsSpec).at F).post enc prog Tryz.f5 false true false false):=by
 obtain⟨places,hx⟩:=reads os enc;refine returnsInHanded_of_row (C:=Tryz.checked) (s:=OpenSpec.ofChange Rows.syncplanFitsSpec) own started (by kernel_rfl) func5
  (witness_row_at (enc:=enc) (C:=Tryz.checked) false (laidWorld os) #[.slice none 0 0] rfl (by kernel_rfl) (by kernel_rfl) (by kernel_rfl)
   (OpenSpec.preRow_of_cond 8 hx (by kernel_rfl) (fun k hk=>by cases hk) (by kernel_rfl) (laid_met os))) ?_
 intro W base args ds gs before hval hW _ _ hwt _ hsh _;exact contract H enc W base args ds gs before hval hW _ hwt hsh
end Go.Proofs.YtegeboijhifmcaaGreatDoor.syncplanFitsRow
/- SyncplanFits: for every input the statement returns true and leaves its arguments as they were. No conditions. -/
namespace Go.Proofs.YtegeboijhifmcaaGreatDoor.syncplanFitsRow
open Go.Proofs.Tryz
open Go.ChangeShapes Go.WideShapes Go.ChangeAt Go.RowKit Go.Proofs.YtegeboijhifmcaaGreatDoor.cardBase
open Go.ChangeMaps (open_string shut_string)
theorem said:Rows.SyncplanFitsSaid:=
 OpenClaim.holds_of_cond 5 Tryz.f5 rfl rfl rfl rfl rfl rfl rfl ⟨rfl,rfl,rfl,rfl,rfl⟩ rfl rfl rfl rfl rfl (by as_aux_lemma=>kernel_rfl) func5 (by
   unfold joinedFacts;simp only[Bool.and_eq_true]
   repeat' apply And.intro
   all_goals (as_aux_lemma=>kernel_rfl))
  (of_decide_eq_true (by as_aux_lemma=>kernel_rfl)) (by unfold Func.isWrapper;first | (rw[if_pos (by decide +kernel)];kernel_rfl) | (rw[if_neg (by decide +kernel)];exact⟨rfl,rfl⟩))
  (fun os started H enc _ F=>by rw[OpenClaim.pre_eq_preRow];exact lifted os started H enc F)
end Go.Proofs.YtegeboijhifmcaaGreatDoor.syncplanFitsRow
