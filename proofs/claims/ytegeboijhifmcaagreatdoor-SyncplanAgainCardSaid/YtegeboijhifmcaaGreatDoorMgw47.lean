/- A part of the proof. -/
import Derived.Test.YtegeboijhifmcaaGreatDoorMgw43
import Derived.Test.YtegeboijhifmcaaGreatDoorMzSaQ
set_option linter.unusedVariables false
set_option linter.unusedSimpArgs false
set_option maxHeartbeats 8000000
set_option maxRecDepth 100000
namespace Go.Proofs.YtegeboijhifmcaaGreatDoor
open Go.Proofs.Tryz
open Go.RowKit
theorem zqk (L:List Int)(A:Option Addr)(c:Nat)(w:World)(he:Env w)(hL:Row w 1 (.slice A L.length c) L.length (L.map fun(n:Int)=>.int .i64 n))(hA:∀ ad,A=some ad→ad.block<w.heap.size):
  Calls prog 7 #[.slice A L.length c] w fun e w'=>e=.returned (.bool true)∧Below w.heap.size w w':=by
 have HMD:=hd_ (zpo L A c w he hL hA);have HKN:=hd_ (fun X (hX:Env X)=>zne X hX);clear he hL hA;go_enter func7,ntmps7;go_wp2_with fail;refine HMD.out.mono ?_;rintro e w1 ⟨dv,dr,mv,hv,ov,tv,U,g,D,k,es,ch,hs,op,dt,rfl,hsc,hat,-,-,-,hb1,hen,Aq,cq,rfl⟩;dsimp only;obtain⟨Ad,cd,rfl,-⟩:=id hat.revs;obtain⟨Am,cm,rfl,-⟩:=id hat.ents.1;obtain⟨Ah,chh,rfl,-⟩:=id hat.havs;obtain⟨Ao,co,rfl,-⟩:=id hat.opn;obtain⟨At,ct,rfl,-⟩:=id hat.drt;have HS:=hd_ (zqe (dr:=.slice Aq 0 cq) hsc hat hen);clear HMD hsc hat hen;go_upto_region 2 with fail;have HB2:=hd_ (zcf hb1 (.cells #[.slice Ad D.length cd,.slice Aq 0 cq,.slice Am es.length cm,.int .i64 ch,.slice Ah hs.length chh,.slice Ao op.length co,.slice At dt.length ct] 31));have HS2:=hd_ (HS.out.under ((Below.refl w1.heap.size w1).alloc (Nat.le_refl _) (.cells #[.slice Ad D.length cd,.slice Aq 0 cq,.slice Am es.length cm,.int .i64 ch,.slice Ah hs.length chh,.slice Ao op.length co,.slice At dt.length ct] 31)));have HX2:=hd_ (z0l w1 [.slice Ad D.length cd,.slice Aq 0 cq,.slice Am es.length cm,.int .i64 ch,.slice Ah hs.length chh,.slice Ao op.length co,.slice At dt.length ct] 31);clear HS hb1;generalize w1.alloc (.cells #[.slice Ad D.length cd,.slice Aq 0 cq,.slice Am es.length cm,.int .i64 ch,.slice Ah hs.length chh,.slice Ao op.length co,.slice At dt.length ct] 31)=W2 at HB2 HS2 HX2 ⊢;generalize w1.heap.size=g3 at HX2 ⊢;obtain⟨x0,x1,x2,x3,x4,x5,x6⟩:=zqf HX2.out;have HPL:=hd_ (HS2.out.plan ch hs op dt (.slice Ah hs.length chh) (.slice Ao op.length co) (.slice At dt.length ct) HS2.out.hv HS2.out.hl HS2.out.at_.havs HS2.out.at_.opn HS2.out.at_.drt HS2.out.opl HS2.out.dtl);go_wp2_with fail;refine HPL.out.mono ?_;rintro e w3 ⟨pv,rfl,hp,hb3⟩;dsimp only;obtain⟨Ap,cp,rfl,-⟩:=id hp;have HB3:=hd_ (z0r HB2.out hb3);have HS3:=hd_ (HS2.out.under hb3);have HX3:=hd_ (HX2.out.below hb3 HX2.out.lt);have HP3:=hd_ hp;clear hb3 HB2 HS2 HX2 HPL hp x0 x1 x2 x3 x4 x5 x6;obtain⟨x0,x1,x2,x3,x4,x5,x6⟩:=zqf HX3.out;have HRS:=hd_ (zn4 HS3.out.hv HS3.out.wok (by have:=HS3.out.hl;omega) HS3.out.wl HS3.out.at_.havs HP3.out)
 go_wp2_with fail;refine HRS.out.mono ?_;rintro e w4 ⟨rv,rfl,hr,hb4⟩;dsimp only;obtain⟨Ar,cr,rfl,-⟩:=id hr;have HB4:=hd_ (z0r HB3.out hb4);have HS4:=hd_ (HS3.out.under hb4);have HX4:=hd_ (HX3.out.below hb4 HX3.out.lt);have HP4:=hd_ (HP3.out.below hb4);have HR4:=hd_ hr;clear hb4 HB3 HS3 HX3 HRS HP3 hr x0 x1 x2 x3 x4 x5 x6;obtain⟨x0,x1,x2,x3,x4,x5,x6⟩:=zqf HX4.out;have HOKR:=hd_ (zpy (op:=op) (dt:=dt) HS4.out.hv (HS4.out.wok (m:=ch)));have HRN:Hid ((z4y hs (zf9 hs (zfk D (zdt es) ch) op dt)).length≤100):=hd_ (by
  have a:=zjj hs (zf9 hs (zfk D (zdt es) ch) op dt);have b:=zn0 (hs:=hs) (ws:=zfk D (zdt es) ch) (op:=op) (dt:=dt);have d:(zfk D (zdt es) ch).length≤6:=zfp;have:=HS4.out.hl;omega)
 have HPN:Hid ((zf9 hs (zfk D (zdt es) ch) op dt).length≤1000):=hd_ (Nat.le_trans zn0 (by have:=HS4.out.hl;have:=HS4.out.wl (m:=ch);omega))
 have HQL:=hd_ (zn3 (dr:=.slice Aq 0 cq) HS4.out.ok ch HS4.out.env HS4.out.at_.revs HS4.out.at_.ents HR4.out HOKR.out HRN.out HS4.out.at_.opn HS4.out.at_.drt HS4.out.opl HS4.out.dtl);rw[zqa HS4.out.hv HS4.out.wok] at HQL;go_wp2_with fail;refine HQL.out.mono ?_;rintro e w5 ⟨qv,rfl,hq,hb5⟩;dsimp only;have HB5:=hd_ (z0r HB4.out hb5);have HS5:=hd_ (HS4.out.under hb5);have HX5:=hd_ (HX4.out.below hb5 HX4.out.lt);have HP5:=hd_ (HP4.out.below hb5);have HR5:=hd_ (HR4.out.below hb5);have HQ5:=hd_ hq;clear hb5 HB4 HS4 HX4 HQL HP4 HR4 hq x0 x1 x2 x3 x4 x5 x6 HOKR HRN;generalize z4y hs (zf9 hs (zfk D (zdt es) ch) op dt)=re at HR5 ⊢;generalize zf9 hs (zfk D (zdt es) ch) op dt=pl at HP5 HQ5 HPN ⊢;have hpn:=HPN.out;go_wp2_with fail;go_loopw [11,12] (fun lv i wr=>∃(k:Nat) (A3:Option Addr) (c3:Nat),lv=.slice A3 ((pl.take k).filter fun x:Syn=>z3o x.kind).length c3∧i=.int .i64 k∧k≤pl.length∧Hid (Below w5.heap.size w5 wr∧wr.ownsRow w5.heap.size 48 5 (.slice A3 ((pl.take k).filter fun x:Syn=>z3o x.kind).length c3) ((pl.take k).filter fun x:Syn=>z3o x.kind).length (((pl.take k).filter fun x:Syn=>z3o x.kind).flatMap Syn.cells))) (fun _ i _=>pl.length - (intOf i).toNat)
 case atStart=>exact⟨0,none,0,rfl,rfl,Nat.zero_le _,Below.refl _ _,World.ownsRow_nil _ _ _ _⟩
 case round =>
  obtain⟨k,A3,c3,rfl,rfl,hk,HI⟩:=hrel;by_cases hlt:k<pl.length
  ·obtain⟨ad,rfl,hab,hx⟩:=z4z.at_ (HP5.out.below HI.out.1) hlt;have HTK:=hd_ (show (pl.take (k+1)).filter (fun x:Syn=>z3o x.kind)=(pl.take k).filter (fun x:Syn=>z3o x.kind)++if z3o pl[k].kind=true then [pl[k]] else [] from by
    rw[List.take_succ_eq_append_getElem hlt,List.filter_append];by_cases h:z3o pl[k].kind=true
    ·rw[if_pos h,List.filter_cons_of_pos (by simpa using h),List.filter_nil]
    ·rw[if_neg h,List.filter_cons_of_neg (by simpa using h),List.filter_nil])
   have hz:(k:Int)<(pl.length:Int):=by omega
   have hfl:((pl.take k).filter fun x:Syn=>z3o x.kind).length≤1000:=Nat.le_trans (List.length_filter_le _ _) (by rw[List.length_take];omega)
   generalize (pl.take k).filter (fun x:Syn=>z3o x.kind)=fl at HI hfl HTK;generalize pl[k]=x at hx HTK;have HID:=hd_ (zqb x wr);have HX9:=hd_ hx;obtain⟨x0,x1,x2,x3,x4⟩:=hx;rcases Bool.eq_false_or_eq_true (z3o x.kind) with hst | hst
   ·rw[hst] at HID;have HST:=hd_ hst;clear hab hst;go_wp2_with fail;refine HID.out.mono ?_;rintro e v1 ⟨rfl,hv⟩;have HB1:=hd_ (HI.out.1.trans (hv.mono HI.out.1.size));have HX1:=zqh HX9.out (z50.lt HX9.out) hv;have HO1:=hd_ (z0n HI.out.2 hv);clear hv x0 x1 x2 x3 x4 HID;obtain⟨x0,x1,x2,x3,x4⟩:=HX1;have HOX:=hd_ (z0n HO1.out ((Below.refl v1.heap.size v1).alloc (Nat.le_refl _) (.cells #[.int .i64 x.kind,.string x.path,.int .i64 x.num,.string x.frm,.string x.dst] 48)));have HLX:=hd_ (HB1.out.alloc HB1.out.size (.cells #[.int .i64 x.kind,.string x.path,.int .i64 x.num,.string x.frm,.string x.dst] 48));have hrow:=z0i v1 [.int .i64 x.kind,.string x.path,.int .i64 x.num,.string x.frm,.string x.dst] 48 5 1 rfl (by decide) _ rfl
    go_wp2_with (at_builtin;refine z0k rfl rfl zit HOX.out rfl hrow rfl HLX.out HLX.out.size (ziu x) (by omega) (by unfold maxLen;omega) ?_;intro A9 c9 w9 hown9 hbl9)
    have HN:=hd_ (And.intro hbl9 hown9);clear hown9 hbl9 hrow;go_wp2_with fail;go_roundw
    case rel =>
     refine⟨k+1,A9,c9,by rw[HTK.out,if_pos HST.out,List.length_append];rfl,by go_num,by omega,?_⟩
     rw[HTK.out,if_pos HST.out,List.length_append,List.length_singleton,z56];exact HN.out
    case measure=>simp [intOf];omega
   ·rw[hst] at HID;have HST:Hid (¬ z3o x.kind=true):=hd_ (by rw[hst];decide)
    clear hab hst;go_wp2_with fail;refine HID.out.mono ?_;rintro e v1 ⟨rfl,hv⟩;have HB1:=hd_ (And.intro (HI.out.1.trans (hv.mono HI.out.1.size)) (z0n HI.out.2 hv));clear hv x0 x1 x2 x3 x4 HID;go_wp2_with fail;go_roundw
    case rel =>
     refine⟨k+1,A3,c3,by rw[HTK.out,if_neg HST.out,List.append_nil],by go_num,by omega,?_⟩
     rw[HTK.out,if_neg HST.out,List.append_nil];exact HB1.out
    case measure=>simp [intOf];omega
  ·have hz:¬((k:Int)<(pl.length:Int)):=by omega
   have hke:k=pl.length:=by omega
   have hfe:(pl.take k).filter (fun x:Syn=>z3o x.kind)=pl.filter fun x:Syn=>z3o x.kind:=by rw[hke,List.take_length]
   rw[hfe] at HI ⊢;have HLV:Hid (z4z wr (.slice A3 (pl.filter fun x:Syn=>z3o x.kind).length c3) (pl.filter fun x:Syn=>z3o x.kind)):=hd_ (Row.of_own HI.out.2);have HB0:=hd_ HI.out.1;have HKW:=hd_ (HKN.out _ (HS5.out.under HB0.out).env);clear hke hfe HI;go_wp2_with fail;refine HKW.out.mono ?_;rintro e v1 ⟨rfl,hv⟩;have HSM:=hd_ (znd _ _ _ _ ((HQ5.out.below HB0.out).below hv) (HLV.out.below hv));have HB1:=hd_ (z0r (z0r HB5.out HB0.out) hv);clear hv HKW HLV;go_wp2_with fail;refine HSM.out.mono ?_;rintro e v2 ⟨rfl,hv⟩;have HB2:=hd_ (z0r HB1.out hv);clear hv HSM;go_wp2_with fail;go_ret;exact⟨rfl,HB2.out⟩
end Go.Proofs.YtegeboijhifmcaaGreatDoor
/- SyncplanAgain: for every input the statement returns true and leaves its arguments as they were. No conditions. -/
namespace Go.Proofs.YtegeboijhifmcaaGreatDoor.syncplanAgainRow
open Go.Proofs.Tryz
open Go.ChangeShapes Go.WideShapes Go.ChangeAt Go.RowKit Go.Proofs.YtegeboijhifmcaaGreatDoor.cardBase
open Go.ChangeMaps (open_string shut_string)
theorem contract (H:Type)(enc:TypeId×Value→H)(W:World)(base:Nat)(args:Array Value)(ds gs:List (DataW H))(before:List MemPlace)
  (hval0:∀(j:Nat) t v,Tryz.f7.params[j]? = some t→args[j]? = some v→Value.okWide prog W .any base t v)
  (hW:DataW.Whole enc prog Tryz.f7.params.toList Rows.syncplanAgainSpec.vars false W args.toList ds gs before) (ts:List TypeId) (hwt:(DataW.weightsEach prog (Tryz.f7.params.toList++ts) (ds++gs)).all (·≤reachBytes)=true) (hsh:W.ShapedOpen prog):
  Calls prog 7 args W fun e W'=>∃ v,e=.returned v∧Rows.syncplanAgainSpec.post enc prog Tryz.f7 false true false false W args v W':=by
 have he:Env W:=env_of hsh;have hW':=hW;have hval:∀(j:Nat) t v,Tryz.f7.params[j]? = some t→args[j]? = some v→Value.okWide prog W .any base t v:=hval0;obtain⟨p,q,hA0,hV,rfl,hfz,hnd⟩:=hW;have hA:DataW.TrodAll enc prog W 0 (fun _=>true) true Tryz.f7.params.toList args.toList ds p:=hA0;rw[Tryz.params7] at hA hval;obtain⟨v0,vs0,d0,ds0,p0,q0,hargs,rfl,rfl,h0,r0⟩:=trodAll_cons hA;obtain⟨rfl,rfl,rfl⟩:=trodAll_nil r0;obtain rfl:args=#[v0]:=by cases args;simp_all
 obtain⟨rfl,rfl⟩:=trodVars_none hV;have k0:=h0;have lt0:∀ x∈p0,x.block<W.heap.size:=by obtain⟨m,hm⟩:=k0;exact DataW.trod_lt m _ _ _ hm
 obtain⟨l0,A0,c0,rfl,b0,z0⟩:=zps underlying22 underlying3 (by kernel_rfl) (hval 0 22 v0 rfl rfl) h0
 clear hA0 hval0;refine (zqk l0 A0 c0 W he b0 z0).mono fun e W' ⟨he,bel⟩=>?_;subst he;exact⟨_,rfl,_,_,_,[],_,[],hW',trodAll_mk1 (shut_bool underlying4 _),(trodAll_cons_mk (Below.trod laidOut (by kernel_rfl) (of_decide_eq_true (by kernel_rfl)) k0 bel lt0) trodAll_mk0),rfl,bel.frame _,fun h=>by cases h⟩
theorem laid_met (os:Os):laidMet prog Rows.syncplanAgainRow.laid ((laidWorld os).forCall (fun _ _=>0) ⟨#[],#[.slice none 0 0],[]⟩).memory:=
 laidMet_of_run' 8 (by kernel_rfl) (by kernel_rfl)
theorem reads (os:Os){H:Type}(enc:TypeId×Value→H):∃ places,DataW.whole enc prog ((laidWorld os).forCall (fun _ _=>0) ⟨#[],#[.slice none 0 0],[]⟩).memory Tryz.f7.params.toList Rows.syncplanAgainSpec.vars false (#[.slice none 0 0]:Array Value).toList 8=some ([.nil],[],places):=
 ⟨[],by kernel_rfl⟩
theorem lifted (os:Os)(started:os.Started)(H:Type)(enc:TypeId×Value→H)(F:Stop.Interp):
  ReturnsInHanded {} Tryz.checked os 7 .any ((OpenSpec.ofChange Rows.syncplanAgainSpec).preRow enc prog Tryz.f7 Rows.syncplanAgainRow.domain false Rows.syncplanAgainRow.laid) (((OpenSpec.ofChange Rows.syncplanAgainSpec).at F).post enc prog Tryz.f7 false true false false):=by
 obtain⟨places,hx⟩:=reads os enc;refine returnsInHanded_of_row (C:=Tryz.checked) (s:=OpenSpec.ofChange Rows.syncplanAgainSpec) own started (by kernel_rfl) func7
  (witness_row_at (enc:=enc) (C:=Tryz.checked) false (laidWorld os) #[.slice none 0 0] rfl (by kernel_rfl) (by kernel_rfl) (by kernel_rfl)
   (OpenSpec.preRow_of_cond 8 hx (by kernel_rfl) (fun k hk=>by cases hk) (by kernel_rfl) (laid_met os))) ?_
 intro W base args ds gs before hval hW _ _ hwt _ hsh _;exact contract H enc W base args ds gs before hval hW _ hwt hsh
end Go.Proofs.YtegeboijhifmcaaGreatDoor.syncplanAgainRow
/- SyncplanAgain: for every input the statement returns true and leaves its arguments as they were. No conditions. -/
namespace Go.Proofs.YtegeboijhifmcaaGreatDoor.syncplanAgainRow
open Go.Proofs.Tryz
open Go.ChangeShapes Go.WideShapes Go.ChangeAt Go.RowKit Go.Proofs.YtegeboijhifmcaaGreatDoor.cardBase
open Go.ChangeMaps (open_string shut_string)
theorem said:Rows.SyncplanAgainSaid:=
 OpenClaim.holds_of_cond 7 Tryz.f7 rfl rfl rfl rfl rfl rfl rfl ⟨rfl,rfl,rfl,rfl,rfl⟩ rfl rfl rfl rfl rfl (by as_aux_lemma=>kernel_rfl) func7 (by
   unfold joinedFacts;simp only[Bool.and_eq_true]
   repeat' apply And.intro
   all_goals (as_aux_lemma=>kernel_rfl))
  (of_decide_eq_true (by as_aux_lemma=>kernel_rfl)) (by unfold Func.isWrapper;first | (rw[if_pos (by decide +kernel)];kernel_rfl) | (rw[if_neg (by decide +kernel)];exact⟨rfl,rfl⟩))
  (fun os started H enc _ F=>by rw[OpenClaim.pre_eq_preRow];exact lifted os started H enc F)
end Go.Proofs.YtegeboijhifmcaaGreatDoor.syncplanAgainRow
