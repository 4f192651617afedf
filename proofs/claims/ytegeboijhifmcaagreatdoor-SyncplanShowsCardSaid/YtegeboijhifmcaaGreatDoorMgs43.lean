/- A part of the proof. -/
import Derived.Test.YtegeboijhifmcaaGreatDoorMsWfD
import Derived.Test.YtegeboijhifmcaaGreatDoorMgs42
import Derived.Test.YtegeboijhifmcaaGreatDoorCards
import Derived.Test.YtegeboijhifmcaaGreatDoorTie
import Derived.Deep.DeepHandedRow
import Derived.Lib.LaidTab
import Derived.Lib.SmallJoins
set_option linter.unusedVariables false
set_option linter.unusedSimpArgs false
set_option maxHeartbeats 8000000
set_option maxRecDepth 100000
namespace Go.Proofs.YtegeboijhifmcaaGreatDoor
open Go.Proofs.Tryz
open Go.RowKit
structure Sc (X:World)(D:List Rev)(es:List zd8)(ch:Int)(hs:List Hav)(op dt:List ByteArray)(dv dr mv hv ov tv:Value):Prop where
 at_:zpl X D es hs op dt dv mv hv ov tv
 env:Env X
 ok:PlOk D es
 hv:zf0 hs
 hl:hs.length≤6
 h6:∀ x∈hs,x.path∈zff
 opl:op.length≤1000
 dtl:dt.length≤1000
 top:0≤zli D∧zli D≤100
section
variable {X X' : World} {D : List Rev} {k : Nat} {es : List zd8} {ch : Int} {hs : List Hav} {op dt : List ByteArray} {dv dr mv hv ov tv : Value}
theorem zqe (h:ScOk D k es ch hs op dt)(ha:zpl X D es hs op dt dv mv hv ov tv)(he:Env X):Sc X D es ch hs op dt dv dr mv hv ov tv:=
 ⟨ha,he,plOk_of h.dp (by omega) h.k8 h.es,h.hv,h.hl,h.h6,by have:=h.opl;omega,by have:=h.dtl;omega,zpm h.chg⟩
theorem Sc.under (h:Sc X D es ch hs op dt dv dr mv hv ov tv)(hb:Below X.heap.size X X'):Sc X' D es ch hs op dt dv dr mv hv ov tv:=
 ⟨h.at_.below hb,h.env.below hb,h.ok,h.hv,h.hl,h.h6,h.opl,h.dtl,h.top⟩
theorem Sc.wl (h:Sc X D es ch hs op dt dv dr mv hv ov tv){m:Int}:(zfk D (zdt es) m).length≤100:=by
 have:(zfk D (zdt es) m).length≤6:=zfp;omega
theorem Sc.plan (h:Sc X D es ch hs op dt dv dr mv hv ov tv)(m:Int)(hs':List Hav)(op' dt':List ByteArray)(hv' ov' tv':Value)(h1:zf0 hs')(h2:hs'.length≤6)(h3:z4b X hv' hs')(h4:Strs X ov' op')(h5:Strs X tv' dt')(h6:op'.length≤1000)(h7:dt'.length≤1000):
  Calls prog 12 #[.agg #[dv,dr],mv,.int .i64 m,hv',ov',tv'] X (zl9 X (zf9 hs' (zfk D (zdt es) m) op' dt')):=
 zn3 h.ok m h.env h.at_.revs h.at_.ents h3 h1 (by omega) h4 h5 h6 h7
theorem Sc.wanted (h:Sc X D es ch hs op dt dv dr mv hv ov tv)(m:Int):Calls prog 13 #[.agg #[dv,dr],mv,.int .i64 m] X (zfz X (zfk D (zdt es) m)):=
 zn2 h.ok m h.env h.at_.revs h.at_.ents
end
theorem zqf {X:World}{g:Nat}{ch:Int}{dv dr mv hv ov tv:Value}(h:Blk X g 31 [dv,dr,mv,.int .i64 ch,hv,ov,tv]):X.cell? ⟨g,0,none⟩=some dv∧X.cell? ⟨g,1,none⟩=some dr∧X.cell? ⟨g,2,none⟩=some mv∧X.cell? ⟨g,3,none⟩=some (.int .i64 ch)∧X.cell? ⟨g,4,none⟩=some hv∧X.cell? ⟨g,5,none⟩=some ov∧X.cell? ⟨g,6,none⟩=some tv:=
 ⟨h.cell 0,h.cell 1,h.cell 2,h.cell 3,h.cell 4,h.cell 5,h.cell 6⟩
theorem zrr (L:List Int)(A:Option Addr)(c:Nat)(w:World)(he:Env w)(hL:Row w 1 (.slice A L.length c) L.length (L.map fun(n:Int)=>.int .i64 n))(hA:∀ ad,A=some ad→ad.block<w.heap.size):
  Calls prog 10 #[.slice A L.length c] w fun e w'=>e=.returned (.bool true)∧Below w.heap.size w w':=by
 have HMD:=hd_ (zpo L A c w he hL hA);have HKN:=hd_ (fun X (hX:Env X)=>zne X hX);clear he hL hA;go_enter func10,ntmps10;go_wp2_with fail;refine HMD.out.mono ?_;rintro e w1 ⟨dv,dr,mv,hv,ov,tv,U,g,D,k,es,ch,hs,op,dt,rfl,hsc,hat,-,-,-,hb1,hen,Aq,cq,rfl⟩;dsimp only;obtain⟨Ad,cd,rfl,-⟩:=id hat.revs;obtain⟨Am,cm,rfl,-⟩:=id hat.ents.1;obtain⟨Ah,chh,rfl,-⟩:=id hat.havs;obtain⟨Ao,co,rfl,-⟩:=id hat.opn;obtain⟨At,ct,rfl,-⟩:=id hat.drt;have HS:=hd_ (zqe (dr:=.slice Aq 0 cq) hsc hat hen);have HK8:=hd_ (And.intro hsc.k8 hsc.es);clear HMD hsc hat hen;go_upto_region 2 with fail;have HB2:=hd_ (zcf hb1 (.cells #[.slice Ad D.length cd,.slice Aq 0 cq,.slice Am es.length cm,.int .i64 ch,.slice Ah hs.length chh,.slice Ao op.length co,.slice At dt.length ct] 31));have HS2:=hd_ (HS.out.under ((Below.refl w1.heap.size w1).alloc (Nat.le_refl _) (.cells #[.slice Ad D.length cd,.slice Aq 0 cq,.slice Am es.length cm,.int .i64 ch,.slice Ah hs.length chh,.slice Ao op.length co,.slice At dt.length ct] 31)));have HX2:=hd_ (z0l w1 [.slice Ad D.length cd,.slice Aq 0 cq,.slice Am es.length cm,.int .i64 ch,.slice Ah hs.length chh,.slice Ao op.length co,.slice At dt.length ct] 31);clear HS hb1;generalize w1.alloc (.cells #[.slice Ad D.length cd,.slice Aq 0 cq,.slice Am es.length cm,.int .i64 ch,.slice Ah hs.length chh,.slice Ao op.length co,.slice At dt.length ct] 31)=W2 at HB2 HS2 HX2 ⊢;generalize w1.heap.size=g3 at HX2 ⊢;obtain⟨x0,x1,x2,x3,x4,x5,x6⟩:=zqf HX2.out;have HWN:=hd_ (HS2.out.wanted ch);go_wp2_with fail;refine HWN.out.mono ?_;rintro e w3 ⟨wv,rfl,hw,hb3⟩;dsimp only;obtain⟨Aw,cw,rfl,-⟩:=id hw;have HB3:=hd_ (z0r HB2.out hb3);have HS3:=hd_ (HS2.out.under hb3);have HX3:=hd_ (HX2.out.below hb3 HX2.out.lt);have HW3:=hd_ hw;clear hb3 HB2 HS2 HX2 HWN hw x0 x1 x2 x3 x4 x5 x6;have HKW:=hd_ (HKN.out _ HS3.out.env);obtain⟨x0,x1,x2,x3,x4,x5,x6⟩:=zqf HX3.out;go_wp2_with fail;refine HKW.out.mono ?_;rintro e w4 ⟨rfl,hb4⟩;dsimp only;have HB4:=hd_ (z0r HB3.out hb4);have HS4:=hd_ (HS3.out.under hb4);have HX4:=hd_ (HX3.out.below hb4 HX3.out.lt)
 have HW4:=hd_ (HW3.out.below hb4);clear hb4 HB3 HS3 HX3 HKW HW3 x0 x1 x2 x3 x4 x5 x6 HKN;obtain⟨N,hN0,hN6,hNl,hNT⟩:=zrq D (zdt es) ch;have HWL:Hid ((zfk D (zdt es) ch).length≤1000):=hd_ (by have:=HS4.out.wl (m:=ch);omega)
 generalize zfk D (zdt es) ch=ws at HW4 hN6 hNT HWL ⊢;have hwn:=HWL.out;have HN0:=hd_ hN0;have HN6:=hd_ hN6;have HNL:=hd_ hNl;have HNT:=hd_ hNT;clear hN0 hN6 hNl hNT;go_wp2_with fail;refine (zll _).mono ?_;rintro e v0 ⟨rfl,hv0⟩;dsimp only;rw[hv0];have ha:Below w4.heap.size w4 (w4.alloc (.cells (zff.map Value.string).toArray 9)):=(Below.refl _ _).alloc (Nat.le_refl _) _;have HB6:=hd_ (z0r HB4.out ha);have HS6:=hd_ (HS4.out.under ha);have HX6:=hd_ (HX4.out.below ha HX4.out.lt);have HW6:=hd_ (HW4.out.below ha);have HG6:=hd_ (z0l w4 (zff.map Value.string) 9);clear hv0 ha HB4 HS4 HX4 HW4;generalize w4.alloc (.cells (zff.map Value.string).toArray 9)=W6 at HB6 HS6 HX6 HW6 HG6 ⊢;generalize w4.heap.size=gP at HG6 ⊢;go_wp2_with fail;go_loopw [7,9] (fun nv i wr=>∃ k:Nat,nv=.int .i64 (N k)∧i=.int .i64 k∧k≤6∧Hid (Below W6.heap.size W6 wr)) (fun _ i _=>6 - (intOf i).toNat)
 case atStart=>exact⟨0,by rw[HN0.out];rfl,rfl,by omega,Below.refl _ _⟩
 case round =>
  obtain⟨k,rfl,rfl,hk,HI⟩:=hrel;have hnk:N k≤k:=HNL.out k;by_cases hlt:k<6
  ·have hk6:k<zff.length:=hlt;have HT:=hd_ (HNT.out k hk6);have hq:W6.cell? ⟨gP,k,none⟩=some (.string (zff[k]'hk6)):=by rw[HG6.out.cell k,List.getElem?_map,List.getElem?_eq_getElem hk6];rfl
   have hz:(k:Int)<6:=by omega
   have HPM:Hid (zff[k]'hk6∈zff):=hd_ (List.getElem_mem hk6);generalize zff[k]'hk6=p at hq HT HPM;have HQ6:=hd_ hq;have HQC:Hid (∀ X,Below W6.heap.size W6 X→X.cell? ⟨g3,0,none⟩=some (.slice Ad D.length cd)∧X.cell? ⟨g3,1,none⟩=some (.slice Aq 0 cq)∧X.cell? ⟨g3,3,none⟩=some (.int .i64 ch)∧X.cell? ⟨gP,k,none⟩=some (.string p)):=hd_ fun X hX=>⟨(HX6.out.below hX HX6.out.lt).cell 0,(HX6.out.below hX HX6.out.lt).cell 1,(HX6.out.below hX HX6.out.lt).cell 3,(hX.cell (p:=⟨gP,k,none⟩) HG6.out.lt).trans HQ6.out⟩;have HQM:Hid (∀ X,Below W6.heap.size W6 X→X.cell? ⟨g3,2,none⟩=some (.slice Am es.length cm)):=hd_ fun X hX=>(HX6.out.below hX HX6.out.lt).cell 2;have HA6:Hid (∀ X,Below W6.heap.size W6 X→Calls prog 27 #[.agg #[.slice Ad D.length cd,.slice Aq 0 cq],.string p,.int .i64 ch] X fun e w'=>e=.returned (.tuple #[.agg #[.string (zec (z30 D p (fun v:Rev=>decide (v.chg≤ch)))).path,.int .i64 (zec (z30 D p (fun v:Rev=>decide (v.chg≤ch)))).num,.int .i64 (zec (z30 D p (fun v:Rev=>decide (v.chg≤ch)))).chg,.int .i64 (zec (z30 D p (fun v:Rev=>decide (v.chg≤ch)))).act,.int .i64 (zec (z30 D p (fun v:Rev=>decide (v.chg≤ch)))).ty.base,.bool (zec (z30 D p (fun v:Rev=>decide (v.chg≤ch)))).ty.k,.bool (zec (z30 D p (fun v:Rev=>decide (v.chg≤ch)))).ty.l,.bool (zec (z30 D p (fun v:Rev=>decide (v.chg≤ch)))).ty.x,.int .u64 (zec (z30 D p (fun v:Rev=>decide (v.chg≤ch)))).sum,.int .i64 (zec (z30 D p (fun v:Rev=>decide (v.chg≤ch)))).size,.string (zec (z30 D p (fun v:Rev=>decide (v.chg≤ch)))).frm,.int .i64 (zec (z30 D p (fun v:Rev=>decide (v.chg≤ch)))).fnum],.bool (z30 D p (fun v:Rev=>decide (v.chg≤ch))).isSome])∧Below X.heap.size X w'):=hd_ fun X hX=>at_any D p ch (.slice Ad D.length cd) (.slice Aq 0 cq) X (HS6.out.under hX).at_.revs (by have:=HS6.out.ok.len;omega)
   have HF6:Hid (∀ X,Below W6.heap.size W6 X→Calls prog 28 #[.slice Am es.length cm,.string p] X (zc3 X (zdt es p))):=hd_ fun X hX=>zro es _ p X (HS6.out.under hX).env (HS6.out.under hX).at_.ents HS6.out.ok.shw.map (HS6.out.ok.shw.fits p HPM.out) (zft p HPM.out).2;have HBK:Hid (∀ s,zdt es p=some s→∀ X,Below W6.heap.size W6 X→Calls prog 29 #[.slice Am es.length cm,.string s] X fun e w'=>e=.returned (.tuple #[.string p,.bool true])∧Below X.heap.size X w'):=hd_ fun s hs X hX=>by
    obtain⟨q1,q2,q3,q4⟩:=bwd_ok HK8.out.1 HK8.out.2 HPM.out hs;have h:=zrp es (.slice Am es.length cm) s X (HS6.out.under hX).env (HS6.out.under hX).at_.ents HS6.out.ok.shw.map q2 q3 (by omega)
    rw[q1] at h;exact h
   generalize z30 D p (fun v:Rev=>decide (v.chg≤ch))=o at HT HA6;generalize zdt es p=u at HT HF6 HBK;have HT2:Hid (((o.isSome && u.isSome && z2v (zec o).act)=false∧N (k+1)=N k) ∨
 ((o.isSome && u.isSome && z2v (zec o).act)=true∧N (k+1)=N k+1∧u=some (u.getD ⟨#[]⟩)∧∃ hn:N k<ws.length,ws[N k]'hn=⟨p,(zec o).num,u.getD ⟨#[]⟩⟩)):=HT
   have HF7:Hid (∀ X,Below W6.heap.size W6 X→Calls prog 28 #[.slice Am es.length cm,.string p] X fun e w'=>e=.returned (.tuple #[.string (u.getD ⟨#[]⟩),.bool u.isSome])∧Below X.heap.size X w'):=HF6;have HBK2:Hid (u=some (u.getD ⟨#[]⟩)→∀ X,Below W6.heap.size W6 X→Calls prog 29 #[.slice Am es.length cm,.string (u.getD ⟨#[]⟩)] X fun e w'=>e=.returned (.tuple #[.string p,.bool true])∧Below X.heap.size X w'):=hd_ fun h=>HBK.out _ h;generalize u.getD ⟨#[]⟩=s at HT2 HF7 HBK2;generalize hb2:u.isSome=b2 at HT2 HF7;generalize hb1:o.isSome=b1 at HT2 HA6;generalize zec o=r at HT2 HA6;clear hb1 hb2 hq HT HF6 HBK HQ6;go_upto_region 10 with fail;refine shR10 _ (by kernel_rfl) _ wr g3 gP k D.length cd cq Ad Aq ch p r b1 (fun X hX=>HQC.out X (HI.out.trans (hX.mono HI.out.size))) hz (fun X hX=>HA6.out X (HI.out.trans (hX.mono HI.out.size))) ?_
   intro eV eW eX eY eZ fa fd fe ff fg fh fj g10 v1 hb10 hv1;have H10:=hd_ hb10;have HB1:=hd_ (HI.out.trans (hv1.mono HI.out.size));clear hb10 hv1 HA6;go_upto_region 11 with fail;refine shR11 _ (by kernel_rfl) _ v1 g3 gP k _ p s b2 (HQM.out v1 HB1.out) (HQC.out v1 HB1.out).2.2.2 hz (fun X hX=>HF7.out X (HB1.out.trans (hX.mono HB1.out.size))) ?_
   intro fk fm fp fq ft fu fv fw fx fy v2 hv2;have HB2:=hd_ (HB1.out.trans (hv2.mono HB1.out.size));have H10b:=hd_ (H10.out.below hv2 H10.out.lt);clear hv2 HB1 H10 HF7;go_upto_region 12 with fail;refine shR12 _ (by kernel_rfl) _ v2 g10 b1 b2 r (H10b.out.cell 3) ?_
   intro fA fB fC fD fE fF fG fH fI fJ fK fL fM fN fO;generalize (b1 && b2 && z2v r.act)=bo at HT2 ⊢;rcases HT2.out with⟨rfl,e2⟩ | ⟨rfl,e2,hu,hn,hw⟩
   ·have HE2:=hd_ e2;clear e2 HT2 HBK2;go_wp2_with fail;go_roundw
    case rel=>exact⟨k+1,by rw[HE2.out],by go_num,by omega,HB2⟩
    case measure=>simp [intOf];omega
   ·have HE2:=hd_ e2;have HBU:=hd_ (HBK2.out hu);obtain⟨a5,hA5,-,hy⟩:=z4b.at_ (HW6.out.below HB2.out) hn;subst hA5;rw[hw] at hy;have HY:=hd_ hy;clear e2 hu HT2 HBK2 hy hw;go_upto_region 13 with fail;refine shR13 _ (by kernel_rfl) _ v2 g10 gP k (N k) ws.length cw a5 ⟨p,r.num,s⟩ HY.out (H10b.out.cell 1) (HQC.out v2 HB2.out).2.2.2 hz hn ?_
    intro fQ fR fS fT fU fV fW fX fY fZ ga gb gf gg gh gi gj gm v3 hv3;have HB3:=hd_ (HB2.out.trans (hv3.mono HB2.out.size));clear hv3 HB2 HY H10b;have m0:=HQM.out v3 HB3.out;dsimp only;go_wp2_with fail;refine (HBU.out v3 HB3.out).mono ?_;rintro e v4 ⟨rfl,hv4⟩;dsimp only;have HB4:=hd_ (HB3.out.trans (hv4.mono HB3.out.size));have y0:=(HQC.out v4 HB4.out).2.2.2;have qp:(p.toList == p.toList)=true:=beq_self_eq_true _;clear hv4 HB3 HBU m0;go_wp2_with fail;go_roundw
    case rel=>exact⟨k+1,by rw[HE2.out];go_num,by go_num,by omega,HB4⟩
    case measure=>simp [intOf];omega
  ·have hke:k=6:=by omega
   have hz:¬((k:Int)<6):=by omega
   have hqe:((N k:Int) == (ws.length:Int))=true:=by rw[hke,HN6.out];simp
   have HB1:=hd_ (z0r HB6.out HI.out);clear HI hke;go_wp2_with fail;go_ret;exact⟨rfl,HB1.out⟩
end Go.Proofs.YtegeboijhifmcaaGreatDoor
/- The world of the witness: the listed tables hold what their initialisers lay. -/
namespace Go.Proofs.YtegeboijhifmcaaGreatDoor.cardBase
open Go.Proofs.Tryz
open Go.ChangeShapes Go.WideShapes Go.ChangeAt Go.RowKit
theorem own:ownKnob prog.godebug=none:=by kernel_rfl
theorem laidOut:laidOutB prog=true:=by kernel_rfl
def lay0:Obj→Obj
 | .cells _ t frozen=>.cells #[.int .u8 128,.int .u8 191,.int .u8 160,.int .u8 191,.int .u8 128,.int .u8 159,.int .u8 144,.int .u8 191,.int .u8 128,.int .u8 143,.int .u8 0,.int .u8 0,.int .u8 0,.int .u8 0,.int .u8 0,.int .u8 0,.int .u8 0,.int .u8 0,.int .u8 0,.int .u8 0,.int .u8 0,.int .u8 0,.int .u8 0,.int .u8 0,.int .u8 0,.int .u8 0,.int .u8 0,.int .u8 0,.int .u8 0,.int .u8 0,.int .u8 0,.int .u8 0] t frozen
 | o=>o
def lay1:Obj→Obj
 | .cells _ t frozen=>.cells (Go.Pinned.utf8FirstZ.map fun(n:Nat)=>Value.int .u8 (n:Int)).toArray t frozen
 | o=>o
noncomputable def laidWorld (os:Os):World:=
 { World.holding prog os ⟨#[],#[],[]⟩ with heap:=(((World.holding prog os ⟨#[],#[],[]⟩).heap.modify 2 lay0).modify 1 lay1) }
end Go.Proofs.YtegeboijhifmcaaGreatDoor.cardBase
/- SyncplanShows: for every input the statement returns true and leaves its arguments as they were. No conditions. -/
namespace Go.Proofs.YtegeboijhifmcaaGreatDoor.syncplanShowsRow
open Go.Proofs.Tryz
open Go.ChangeShapes Go.WideShapes Go.ChangeAt Go.RowKit Go.Proofs.YtegeboijhifmcaaGreatDoor.cardBase
open Go.ChangeMaps (open_string shut_string)
theorem contract (H:Type)(enc:TypeId×Value→H)(W:World)(base:Nat)(args:Array Value)(ds gs:List (DataW H))(before:List MemPlace)
  (hval0:∀(j:Nat) t v,Tryz.f10.params[j]? = some t→args[j]? = some v→Value.okWide prog W .any base t v)
  (hW:DataW.Whole enc prog Tryz.f10.params.toList Rows.syncplanShowsSpec.vars false W args.toList ds gs before) (ts:List TypeId) (hwt:(DataW.weightsEach prog (Tryz.f10.params.toList++ts) (ds++gs)).all (·≤reachBytes)=true) (hsh:W.ShapedOpen prog):
  Calls prog 10 args W fun e W'=>∃ v,e=.returned v∧Rows.syncplanShowsSpec.post enc prog Tryz.f10 false true false false W args v W':=by
 have he:Env W:=env_of hsh;have hW':=hW;have hval:∀(j:Nat) t v,Tryz.f10.params[j]? = some t→args[j]? = some v→Value.okWide prog W .any base t v:=hval0;obtain⟨p,q,hA0,hV,rfl,hfz,hnd⟩:=hW;have hA:DataW.TrodAll enc prog W 0 (fun _=>true) true Tryz.f10.params.toList args.toList ds p:=hA0;rw[Tryz.params10] at hA hval;obtain⟨v0,vs0,d0,ds0,p0,q0,hargs,rfl,rfl,h0,r0⟩:=trodAll_cons hA;obtain⟨rfl,rfl,rfl⟩:=trodAll_nil r0;obtain rfl:args=#[v0]:=by cases args;simp_all
 obtain⟨rfl,rfl⟩:=trodVars_none hV;have k0:=h0;have lt0:∀ x∈p0,x.block<W.heap.size:=by obtain⟨m,hm⟩:=k0;exact DataW.trod_lt m _ _ _ hm
 obtain⟨l0,A0,c0,rfl,b0,z0⟩:=zps underlying22 underlying3 (by kernel_rfl) (hval 0 22 v0 rfl rfl) h0
 clear hA0 hval0;refine (zrr l0 A0 c0 W he b0 z0).mono fun e W' ⟨he,bel⟩=>?_;subst he;exact⟨_,rfl,_,_,_,[],_,[],hW',trodAll_mk1 (shut_bool underlying4 _),(trodAll_cons_mk (Below.trod laidOut (by kernel_rfl) (of_decide_eq_true (by kernel_rfl)) k0 bel lt0) trodAll_mk0),rfl,bel.frame _,fun h=>by cases h⟩
theorem laid_met (os:Os):laidMet prog Rows.syncplanShowsRow.laid ((laidWorld os).forCall (fun _ _=>0) ⟨#[],#[.slice none 0 0],[]⟩).memory:=
 laidMet_of_run' 8 (by kernel_rfl) (by kernel_rfl)
theorem reads (os:Os){H:Type}(enc:TypeId×Value→H):∃ places,DataW.whole enc prog ((laidWorld os).forCall (fun _ _=>0) ⟨#[],#[.slice none 0 0],[]⟩).memory Tryz.f10.params.toList Rows.syncplanShowsSpec.vars false (#[.slice none 0 0]:Array Value).toList 8=some ([.nil],[],places):=
 ⟨[],by kernel_rfl⟩
theorem lifted (os:Os)(started:os.Started)(H:Type)(enc:TypeId×Value→H)(F:Stop.Interp):
  ReturnsInHanded {} Tryz.checked os 10 .any ((OpenSpec.ofChange Rows.syncplanShowsSpec).preRow enc prog Tryz.f10 Rows.syncplanShowsRow.domain false Rows.syncplanShowsRow.laid) (((OpenSpec.ofChange Rows.syncplanShowsSpec).at F).post enc prog Tryz.f10 false true false false):=by
 obtain⟨places,hx⟩:=reads os enc;refine returnsInHanded_of_row (C:=Tryz.checked) (s:=OpenSpec.ofChange Rows.syncplanShowsSpec) own started (by kernel_rfl) func10
  (witness_row_at (enc:=enc) (C:=Tryz.checked) false (laidWorld os) #[.slice none 0 0] rfl (by kernel_rfl) (by kernel_rfl) (by kernel_rfl)
   (OpenSpec.preRow_of_cond 8 hx (by kernel_rfl) (fun k hk=>by cases hk) (by kernel_rfl) (laid_met os))) ?_
 intro W base args ds gs before hval hW _ _ hwt _ hsh _;exact contract H enc W base args ds gs before hval hW _ hwt hsh
end Go.Proofs.YtegeboijhifmcaaGreatDoor.syncplanShowsRow
/- SyncplanShows: for every input the statement returns true and leaves its arguments as they were. No conditions. -/
namespace Go.Proofs.YtegeboijhifmcaaGreatDoor.syncplanShowsRow
open Go.Proofs.Tryz
open Go.ChangeShapes Go.WideShapes Go.ChangeAt Go.RowKit Go.Proofs.YtegeboijhifmcaaGreatDoor.cardBase
open Go.ChangeMaps (open_string shut_string)
theorem said:Rows.SyncplanShowsSaid:=
 OpenClaim.holds_of_cond 10 Tryz.f10 rfl rfl rfl rfl rfl rfl rfl ⟨rfl,rfl,rfl,rfl,rfl⟩ rfl rfl rfl rfl rfl (by as_aux_lemma=>kernel_rfl) func10 (by
   unfold joinedFacts;simp only[Bool.and_eq_true]
   repeat' apply And.intro
   all_goals (as_aux_lemma=>kernel_rfl))
  (of_decide_eq_true (by as_aux_lemma=>kernel_rfl)) (by unfold Func.isWrapper;first | (rw[if_pos (by decide +kernel)];kernel_rfl) | (rw[if_neg (by decide +kernel)];exact⟨rfl,rfl⟩))
  (fun os started H enc _ F=>by rw[OpenClaim.pre_eq_preRow];exact lifted os started H enc F)
end Go.Proofs.YtegeboijhifmcaaGreatDoor.syncplanShowsRow
