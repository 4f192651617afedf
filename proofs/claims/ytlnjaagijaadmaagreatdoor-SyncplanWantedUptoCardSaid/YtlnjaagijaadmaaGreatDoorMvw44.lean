/- A part. -/
import Derived.Test.YtlnjaagijaadmaaGreatDoorMvw43
import Derived.Test.YtlnjaagijaadmaaGreatDoorMvw42
import Derived.Test.YtlnjaagijaadmaaGreatDoorCards
import Derived.Test.YtlnjaagijaadmaaGreatDoorTie
import Derived.Deep.DeepHandedRow
import Derived.Lib.LaidTab
import Derived.Lib.SmallJoins
set_option linter.unusedVariables false
set_option linter.unusedSimpArgs false
set_option maxHeartbeats 16000000
set_option maxRecDepth 100000
namespace Go.Proofs.YtlnjaagijaadmaaGreatDoor
open Go.Proofs.Tryz
open Go.RowKit
structure Sc (X:zW)(D:List Rev)(es:List zdk)(ch:Int)(hs:List Hav)(op dt:List zA)(dv dr mv hv ov tv:zV):Prop where
 at_:zrs X D es hs op dt dv mv hv ov tv
 env:Env X
 ok:PlOk D es
 hv:z81 hs
 hl:hs.length<=6
 h6:∀ x∈hs,x.kt∈z8e
 opl:op.length<=1000
 dtl:dt.length<=1000
 top:0<=zir D/\zir D<=100
section
variable {X X' : zW} {D : List Rev} {k : Nat} {es : List zdk} {ch : Int} {hs : List Hav} {op dt : List zA} {dv dr mv hv ov tv : zV}
theorem sc_of (h:ScOk D k es ch hs op dt)(ha:zrs X D es hs op dt dv mv hv ov tv)(he:Env X):Sc X D es ch hs op dt dv dr mv hv ov tv:=
 ⟨ha,he,plOk_of h.dp (by omega) h.k8 h.es,h.hv,h.hl,h.h6,by have:=h.opl;omega,by have:=h.dtl;omega,zrt h.chg⟩
theorem Sc.ku (h:Sc X D es ch hs op dt dv dr mv hv ov tv)(hb:zB X X'):Sc X' D es ch hs op dt dv dr mv hv ov tv:=
 ⟨h.at_.kw hb,h.env.kw hb,h.ok,h.hv,h.hl,h.h6,h.opl,h.dtl,h.top⟩
theorem Sc.plan (h:Sc X D es ch hs op dt dv dr mv hv ov tv)(m:Int)(hs':List Hav)(op' dt':List zA)(hv' ov' tv':zV)(h1:z81 hs')(h2:hs'.length<=6)(h3:z5s X hv' hs')(h4:z20 X ov' op')(h5:z20 X tv' dt')(h6:op'.length<=1000)(h7:dt'.length<=1000):
  Calls prog 33 #[.agg #[dv,dr],mv,zI m,hv',ov',tv'] X (zog X (z8a hs' (z8j D (zdy es) m) op' dt')):=
 zpy h.ok m h.env h.at_.revs h.at_.ents h3 h1 (by omega) h4 h5 h6 h7
end
theorem zrw {X:zW}{g:Nat}{ch:Int}{dv dr mv hv ov tv:zV}(h:Blk X g 31 [dv,dr,mv,zI ch,hv,ov,tv]):X.cell? ⟨g,0,none⟩=some dv/\X.cell? ⟨g,1,none⟩=some dr/\X.cell? ⟨g,2,none⟩=some mv/\X.cell? ⟨g,3,none⟩=some (zI ch)/\X.cell? ⟨g,4,none⟩=some hv/\X.cell? ⟨g,5,none⟩=some ov/\X.cell? ⟨g,6,none⟩=some tv:=
 ⟨h.cell 0,h.cell 1,h.cell 2,h.cell 3,h.cell 4,h.cell 5,h.cell 6⟩
structure EsOk (es:List zdk):Prop where
 len:es.length<=32
 sz:∀ x∈es,zmr x
 fit:(∀ x∈es,zbw x.l.1 x.r.1=0)->∀ p∈z8e,zdz es p
theorem zst {es:List zdk}(hl:es.length<=32)(h:∀ x∈es,SmN 1048576 x.l.1.kp/\SmN 1048576 x.r.1.kp/\∀ q∈x.hs,SmN 1048576 q.1.kp):EsOk es:=
 ⟨hl,fun x hx q hq=>sz_of (by decide) (h x hx).1 (h x hx).2.1 ((h x hx).2.2 q hq),fun hR p hp x hx=>fit_of (by decide) (hR x hx) (h x hx).2.1 (few_six p hp)⟩
theorem zsu:EsOk []:=zst (by decide) (fun x hx=>by cases hx)
def smB (l:List zA):Bool:=l.all fun x=>decide (x.size<=1048576)
theorem zsv {l:List zA}(h:smB l=true):SmN 1048576 l:=fun x hx=>of_decide_eq_true (ZB.1 h x hx)
theorem maps_sm:∀ k<8,decide ((zeb k).length<=32) && (zeb k).all (fun x=>smB x.l.kp && smB x.r.kp && x.hs.all fun q=>smB q.kp)=true:=by decide +kernel
theorem zsw {es:List zdk}{k:Nat}(hk:k<8)(h:es.map zdk.pl=zeb k):EsOk es:=by
 have hm:=maps_sm k hk;rw[<- h] at hm;simp only[Zw,decide_eq_true_eq,Zk] at hm
 refine zst hm.1 fun x hx=>?_;have:=ZB.1 hm.2 _ (ZJ hx);simp only[Zw] at this
 exact⟨zsv this.1.1,zsv this.1.2,fun q hq=>zsv (ZB.1 this.2 _ (ZJ hq))⟩
theorem zsx (w:zW):zdo w (zL none 0 0) []:=⟨Row.nil_ w 5,fun x hx=>by cases hx⟩
theorem zsy (L:List Int)(A:zP)(c:Nat)(l:List zdk)(A1:zP)(c1:Nat)(w:zW)(he:Env w)(hL:Row w 1 (zL A L.length c) L.length (L.map fun(n:Int)=>zI n))(hA:∀ ad,A=some ad->ad.block<w.heap.size)
  (hl1:zdo w (zL A1 l.length c1) l) (hs1:∀ x∈l,SmN 1048576 x.l.1.kp/\SmN 1048576 x.r.1.kp/\∀ q∈x.hs,SmN 1048576 q.1.kp):
  Calls prog 3 #[zL A L.length c,zL A1 l.length c1] w fun e w'=>e=.returned (.bool true)/\zB w w':=by
 have HMD:=hd_ (zrv L A c w he hL hA);have HKN:=hd_ (fun X (hX:Env X)=>zq7 X hX);have HL1:=hd_ hl1;have HS1:=hd_ hs1;clear he hL hA hl1 hs1;by_cases h6:6<l.length
 ·have q6:decide ((6:Int)<(l.length:Int))=true:=by simp;omega
  have q7:(6:Int)<(l.length:Int):=by omega
  clear HMD HKN HL1 HS1;go_enter func3,ntmps3;go_wp2_with fail;go_ret;exact⟨rfl,Zb _ _⟩
 have q6:decide ((6:Int)<(l.length:Int))=false:=by simp;omega
 have q7:¬(6:Int)<(l.length:Int):=by omega
 have HEO:Hid (EsOk l):=hd_ (zst (by omega) HS1)
 clear h6 HS1;go_enter func3,ntmps3;go_wp2_with fail;refine HMD.mono ?_;rintro e w1 ⟨dv,dr,mv,hv,ov,tv,U,g,D,k,es,ch,hs,op,dt,rfl,hsc,hat,-,-,-,hb1,hen,Aq,cq,rfl⟩;dsimp only;obtain⟨Ad,cd,rfl,-⟩:=id hat.revs;obtain⟨Am,cm,rfl,-⟩:=id hat.ents.1;obtain⟨Ah,chh,rfl,-⟩:=id hat.havs;obtain⟨Ao,co,rfl,-⟩:=id hat.opn;obtain⟨At,ct,rfl,-⟩:=id hat.drt;have HS:=hd_ (sc_of (dr:=zL Aq 0 cq) hsc hat hen);have HDP:Hid (zoo D 30/\EsOk es):=hd_ (Zi hsc.dp (zsw hsc.k8 hsc.es));clear HMD hsc hat hen;go_upto_region 3 with fail;have HB2:=hd_ (z0t hb1 (zC #[zL Ad D.length cd,zL Aq 0 cq,zL Am es.length cm,zI ch,zL Ah hs.length chh,zL Ao op.length co,zL At dt.length ct] 31));have HS2:=hd_ (HS.ku ((Zb w1.heap.size w1).alloc (Zd _) (zC #[zL Ad D.length cd,zL Aq 0 cq,zL Am es.length cm,zI ch,zL Ah hs.length chh,zL Ao op.length co,zL At dt.length ct] 31)));have HX2:=hd_ (z0l w1 [zL Ad D.length cd,zL Aq 0 cq,zL Am es.length cm,zI ch,zL Ah hs.length chh,zL Ao op.length co,zL At dt.length ct] 31);clear HS hb1 q6 q7;generalize w1.alloc (zC #[zL Ad D.length cd,zL Aq 0 cq,zL Am es.length cm,zI ch,zL Ah hs.length chh,zL Ao op.length co,zL At dt.length ct] 31)=W2 at HB2 HS2 HX2 |-;generalize w1.heap.size=g3 at HX2 |-;have HC:=hd_ (zsn l _ W2 (HL1.kw HB2) HEO.len HEO.sz);go_wp2_with fail;refine HC.mono ?_;rintro e w3 ⟨i,err,rfl,-,hb3⟩;dsimp only;have HB3:=hd_ (z0r HB2 hb3);have HS3:=hd_ (HS2.ku hb3);have HX3:=hd_ (HX2.kw hb3 HX2.lt);have HL3:Hid (zdo w3 (zL A1 l.length c1) l):=hd_ (HL1.kw HB3);clear hb3 HB2 HS2 HX2 HC HL1;by_cases h72:err=72
 focus
  subst h72;have HV:Hid (zdo w3 (zL none 0 0) []/\EsOk []):=hd_ ⟨zsx w3,zsu⟩
 rotate_left
 focus
  have q72:(err == (72:Int))=false:=by simp;exact h72
  have HV:Hid (zdo w3 (zL A1 l.length c1) l/\EsOk l):=hd_ ⟨HL3,HEO⟩;clear h72
 all_goals
  clear HL3 HEO;obtain⟨x0,x1,x2,x3,x4,x5,x6⟩:=zrw HX3.out;have HC:=hd_ (zn4 D es ch _ (zL Aq 0 cq) _ w3 HS3.env HS3.at_.revs HS3.at_.ents (by have:=HS3.out.ok.len;omega) HS3.ok.six HDP.2.len HDP.2.sz HDP.2.fit)
  go_wp2_with fail;refine HC.mono ?_;rintro e w4 ⟨v4,e4,l4,rfl,hv4,hb4,hp4⟩;dsimp only;have HB4:=hd_ (z0r HB3 hb4);have HS4:=hd_ (HS3.ku hb4);have HX4:=hd_ (HX3.kw hb4 HX3.lt);have HV4:=hd_ (Zi (HV.out.1.kw hb4) HV.out.2);have H4:=hd_ (Zi hv4 hp4);clear hb4 HB3 HS3 HX3 HC HV hv4 hp4 x0 x1 x2 x3 x4 x5 x6;obtain⟨x0,x1,x2,x3,x4,x5,x6⟩:=zrw HX4.out;have HC:=hd_ (zss D 30 es ch _ (zL Aq 0 cq) _ w4 HS4.env HS4.at_.revs HS4.at_.ents HDP.1 HS4.ok.len HDP.2.len HDP.2.sz HDP.2.fit);go_wp2_with fail;refine HC.mono ?_;rintro e w5 ⟨v5,e5,l5,rfl,hv5,hb5,hp5⟩;dsimp only;obtain⟨rfl,rfl⟩:=zn0 H4.out.2 hp5;have HB5:=hd_ (z0r HB4 hb5);have HS5:=hd_ (HS4.ku hb5);have HX5:=hd_ (HX4.kw hb5 HX4.lt);have HV5:=hd_ (Zi (HV4.out.1.kw hb5) HV4.out.2);have H5:=hd_ (Zi (H4.out.1.kw hb5) hv5);clear hb5 HB4 HS4 HX4 HC HV4 hv5 hp5 H4 x0 x1 x2 x3 x4 x5 x6;obtain⟨x0,x1,x2,x3,x4,x5,x6⟩:=zrw HX5.out;have HC:=hd_ (zn4 D _ ch _ (zL Aq 0 cq) _ w5 HS5.env HS5.at_.revs HV5.1 (by have:=HS5.out.ok.len;omega) HS5.ok.six HV5.2.len HV5.2.sz HV5.2.fit)
  go_wp2_with fail;refine HC.mono ?_;rintro e w6 ⟨v6,e6,l6,rfl,hv6,hb6,hp6⟩;dsimp only;have HB6:=hd_ (z0r HB5 hb6);have HS6:=hd_ (HS5.ku hb6);have HX6:=hd_ (HX5.kw hb6 HX5.lt);have HV6:=hd_ (Zi (HV5.out.1.kw hb6) HV5.out.2);have H6:=hd_ (Zi (H5.out.1.kw hb6) (H5.out.2.kw hb6));have H7:=hd_ (Zi hv6 hp6);clear hb6 HB5 HS5 HX5 HC HV5 H5 hv6 hp6 x0 x1 x2 x3 x4 x5 x6;obtain⟨x0,x1,x2,x3,x4,x5,x6⟩:=zrw HX6.out;have HC:=hd_ (zss D 30 _ ch _ (zL Aq 0 cq) _ w6 HS6.env HS6.at_.revs HV6.1 HDP.1 HS6.ok.len HV6.2.len HV6.2.sz HV6.2.fit);go_wp2_with fail;refine HC.mono ?_;rintro e w7 ⟨v7,e7,l7,rfl,hv7,hb7,hp7⟩;dsimp only;obtain⟨rfl,rfl⟩:=zn0 H7.out.2 hp7;have HB7:=hd_ (z0r HB6 hb7);have HE7:=hd_ (HS6.env.kw hb7);have H8:=hd_ (Zi (H6.out.1.kw hb7) (H6.out.2.kw hb7));have H9:=hd_ (Zi (H7.out.1.kw hb7) hv7);clear hb7 HB6 HS6 HX6 HC HV6 H6 H7 hv7 hp7 x0 x1 x2 x3 x4 x5 x6;have q1:(e4 == e4)=true:=beq_self_eq_true e4;have q2:(e6 == e6)=true:=beq_self_eq_true e6;have HC:=hd_ (HKN w7 HE7);go_wp2_with fail;refine HC.mono ?_;rintro e w8 ⟨rfl,hb8⟩;have HB8:=hd_ (z0r HB7 hb8);have HA8:=hd_ (Zi (H8.out.1.kw hb8) (H8.out.2.kw hb8));have HR8:=hd_ (Zi (H9.out.1.kw hb8) (H9.out.2.kw hb8));clear hb8 HB7 HE7 H8 H9 HC;have HC:=hd_ (zq5 _ _ _ w8 HA8.1 HA8.2);go_wp2_with fail;refine HC.mono ?_;rintro e w9 ⟨rfl,hb9⟩;have HB9:=hd_ (z0r HB8 hb9);have HR9:=hd_ (Zi (HR8.out.1.kw hb9) (HR8.out.2.kw hb9));clear hb9 HB8 HA8 HR8 HC;have HC:=hd_ (zq5 _ _ _ w9 HR9.1 HR9.2);go_wp2_with fail;refine HC.mono ?_;rintro e w10 ⟨rfl,hb10⟩;have HB10:=hd_ (z0r HB9 hb10);clear hb10 HC;go_wp2_with fail;go_ret;exact⟨rfl,HB10⟩
end Go.Proofs.YtlnjaagijaadmaaGreatDoor
/- The world of the witness: the listed tables hold what their initialisers lay. -/
namespace Go.Proofs.YtlnjaagijaadmaaGreatDoor.cardBase
open Go.Proofs.Tryz
open Go.ChangeShapes Go.WideShapes Go.ChangeAt Go.RowKit
theorem own:ownKnob prog.godebug=none:=by kernel_rfl
theorem laidOut:laidOutB prog=true:=by kernel_rfl
def lay0:Obj->Obj
 | .cells _ t frozen=>.cells #[.int .u8 128,.int .u8 191,.int .u8 160,.int .u8 191,.int .u8 128,.int .u8 159,.int .u8 144,.int .u8 191,.int .u8 128,.int .u8 143,.int .u8 0,.int .u8 0,.int .u8 0,.int .u8 0,.int .u8 0,.int .u8 0,.int .u8 0,.int .u8 0,.int .u8 0,.int .u8 0,.int .u8 0,.int .u8 0,.int .u8 0,.int .u8 0,.int .u8 0,.int .u8 0,.int .u8 0,.int .u8 0,.int .u8 0,.int .u8 0,.int .u8 0,.int .u8 0] t frozen
 | o=>o
def lay1:Obj->Obj
 | .cells _ t frozen=>.cells (Go.Pinned.utf8FirstZ.map fun(n:Nat)=>Value.int .u8 (n:Int)).toArray t frozen
 | o=>o
noncomputable def laidWorld (os:Os):zW:=
 { World.holding prog os ⟨#[],#[],[]⟩ with heap:=(((World.holding prog os ⟨#[],#[],[]⟩).heap.modify 2 lay0).modify 1 lay1) }
end Go.Proofs.YtlnjaagijaadmaaGreatDoor.cardBase
/- SyncplanWanted, the second form: for every input whose bulk is at most 1048576 the statement returns true and leaves its arguments as they were. -/
namespace Go.Proofs.YtlnjaagijaadmaaGreatDoor.syncplanWantedRow
open Go.Proofs.Tryz
open Go.ChangeShapes Go.WideShapes Go.ChangeAt Go.RowKit Go.Proofs.YtlnjaagijaadmaaGreatDoor.cardBase
open Go.ChangeMaps (open_string shut_string)
theorem contract (H:Type)(enc:TypeId×zV->H)(W:zW)(base:Nat)(args:Array zV)(ds gs:List (DataW H))(before:List MemPlace)
  (hval0:∀(j:Nat) t v,Tryz.f3.params[j]? = some t->args[j]? = some v->Value.okWide prog W .any base t v)
  (hW:DataW.Whole enc prog Tryz.f3.params.toList Rows.syncplanWantedSpec.vars false W args.toList ds gs before) (ts:List TypeId) (hwt:(DataW.weightsEach prog (Tryz.f3.params.toList++ts) (ds++gs)).all (·<=reachBytes)=true) (hsh:W.ShapedOpen prog) (hk:Rows.uptoSmall H (ds++gs)=true):
  Calls prog 3 args W fun e W'=>∃ v,e=.returned v/\Rows.syncplanWantedSpec.post enc prog Tryz.f3 false true false false W args v W':=by
 have he:Env W:=env_of hsh;have hW':=hW;have hval:∀(j:Nat) t v,Tryz.f3.params[j]? = some t->args[j]? = some v->Value.okWide prog W .any base t v:=hval0;obtain⟨p,q,hA0,hV,rfl,hfz,hnd⟩:=hW;have hA:DataW.TrodAll enc prog W 0 (fun _=>true) true Tryz.f3.params.toList args.toList ds p:=hA0;rw[Tryz.params3] at hA hval;obtain⟨v0,vs0,d0,ds0,p0,q0,hargs,rfl,rfl,h0,r0⟩:=trodAll_cons hA;obtain⟨v1,vs1,d1,ds1,p1,q1,rfl,rfl,rfl,h1,r1⟩:=trodAll_cons r0;obtain⟨rfl,rfl,rfl⟩:=trodAll_nil r1;obtain rfl:args=#[v0,v1]:=by cases args;simp_all
 obtain⟨rfl,rfl⟩:=trodVars_none hV;have k0:=h0;have lt0:∀ x∈p0,x.block<W.heap.size:=by obtain⟨m,hm⟩:=k0;exact DataW.trod_lt m _ _ _ hm
 obtain⟨l0,A0,c0,rfl,b0,z0⟩:=zt0 underlying22 underlying3 (by kernel_rfl) (hval 0 22 v0 rfl rfl) h0
 have k1:=h1;have lt1:∀ x∈p1,x.block<W.heap.size:=by obtain⟨m,hm⟩:=k1;exact DataW.trod_lt m _ _ _ hm
 have hbk:Rows.uptoBulk d1<=1048576:=by
  simp only[Rows.uptoSmall,decide_eq_true_eq,List.cons_append,Yc,ZM,Rows.uptoBulkAll] at hk
  omega
 obtain⟨l1,A1,c1,rfl,b1,s1⟩:=upto.ents_arg (hval 1 23 v1 rfl rfl) h1 hbk;clear hA0 hval0;refine (zsy l0 A0 c0 l1 A1 c1 W he b0 z0 b1 s1).mono fun e W' ⟨he,bel⟩=>?_;subst he;exact⟨_,rfl,_,_,_,[],_,[],hW',trodAll_mk1 (shut_bool underlying4 _),(trodAll_cons_mk (Below.trod laidOut (by kernel_rfl) (of_decide_eq_true (by kernel_rfl)) k0 bel lt0) (trodAll_cons_mk (Below.trod laidOut (by kernel_rfl) (of_decide_eq_true (by kernel_rfl)) k1 bel lt1) trodAll_mk0)),rfl,bel.frame _,fun h=>by cases h⟩
theorem laid_met (os:Os):laidMet prog Rows.syncplanWantedUptoRow.laid ((laidWorld os).forCall (fun _ _=>0) ⟨#[],#[zL none 0 0,zL none 0 0],[]⟩).memory:=
 laidMet_of_run' 8 (by kernel_rfl) (by kernel_rfl)
theorem reads (os:Os){H:Type}(enc:TypeId×zV->H):∃ places,DataW.whole enc prog ((laidWorld os).forCall (fun _ _=>0) ⟨#[],#[zL none 0 0,zL none 0 0],[]⟩).memory Tryz.f3.params.toList Rows.syncplanWantedSpec.vars false (#[zL none 0 0,zL none 0 0]:Array zV).toList 8=some ([.nil,.nil],[],places):=
 ⟨[],by kernel_rfl⟩
theorem lifted (os:Os)(started:os.Started)(H:Type)(enc:TypeId×zV->H)(F:Stop.Interp):
  ReturnsInHanded {} Tryz.checked os 3 .any ((Rows.OpenSpec.upto Rows.syncplanWantedSpec).preRow enc prog Tryz.f3 Rows.syncplanWantedUptoRow.domain false Rows.syncplanWantedUptoRow.laid) (((Rows.OpenSpec.upto Rows.syncplanWantedSpec).at F).post enc prog Tryz.f3 false true false false):=by
 obtain⟨places,hx⟩:=reads os enc;refine returnsInHanded_of_row (C:=Tryz.checked) (s:=Rows.OpenSpec.upto Rows.syncplanWantedSpec) own started (by kernel_rfl) func3
  (witness_row_at (enc:=enc) (C:=Tryz.checked) false (laidWorld os) #[zL none 0 0,zL none 0 0] rfl (by kernel_rfl) (by kernel_rfl) (by kernel_rfl)
   (OpenSpec.preRow_of_cond 8 hx (by kernel_rfl) (fun k hk=>by cases hk;kernel_rfl) (by kernel_rfl) (laid_met os))) ?_
 intro W base args ds gs before hval hW _ hcond hwt _ hsh _;exact contract H enc W base args ds gs before hval hW _ hwt hsh (hcond _ rfl)
end Go.Proofs.YtlnjaagijaadmaaGreatDoor.syncplanWantedRow
/- SyncplanWanted, the second form: for every input whose bulk is at most 1048576 the statement returns true and leaves its arguments as they were. -/
namespace Go.Proofs.YtlnjaagijaadmaaGreatDoor.syncplanWantedRow
open Go.Proofs.Tryz
open Go.ChangeShapes Go.WideShapes Go.ChangeAt Go.RowKit Go.Proofs.YtlnjaagijaadmaaGreatDoor.cardBase
open Go.ChangeMaps (open_string shut_string)
theorem said:Rows.SyncplanWantedUptoSaid:=
 OpenClaim.holds_of_cond 3 Tryz.f3 rfl rfl rfl rfl rfl rfl rfl ⟨rfl,rfl,rfl,rfl,rfl⟩ rfl rfl rfl rfl rfl (by as_aux_lemma=>kernel_rfl) func3 (by
   unfold joinedFacts;simp only[Zw]
   repeat' apply Zi
   all_goals (as_aux_lemma=>kernel_rfl))
  (of_decide_eq_true (by as_aux_lemma=>kernel_rfl)) (by unfold Func.isWrapper;first | (rw[if_pos (by decide +kernel)];kernel_rfl) | (rw[if_neg (by decide +kernel)];exact⟨rfl,rfl⟩))
  (fun os started H enc _ F=>by rw[OpenClaim.pre_eq_preRow];exact lifted os started H enc F)
end Go.Proofs.YtlnjaagijaadmaaGreatDoor.syncplanWantedRow
