/- A part. -/
import Derived.Test.YtijghobkkdbhnaaGreatDoorMgw34
import Derived.Test.YtijghobkkdbhnaaGreatDoorMgw33
import Derived.Test.YtijghobkkdbhnaaGreatDoorMgw29
import Derived.Test.YtijghobkkdbhnaaGreatDoorMgw35
set_option linter.unusedVariables false
set_option linter.unusedSimpArgs false
set_option maxHeartbeats 16000000
set_option maxRecDepth 100000
namespace Go.Proofs.YtijghobkkdbhnaaGreatDoor
open Go.Proofs.Tryz
open Go.RowKit
def zib (w:World)(e:Ending)(w':World):Prop:=(∃ n:Int,e=.returned (.int .i64 n))∧Below w.heap.size w w'
theorem zic (d:Dep)(c:Chg)(dv dr:Value)(Ae Ac:Option Addr)(ce cc i:Nat)(w:World)(he:Env w)(hR:z45 w dv d.revs)(hl:d.revs.length≤100000)(hE:z47 w (.slice Ae c.edits.length ce) c.edits)(hi:i<c.edits.length)(hel:c.edits.length≤100000)
  (hsz:∀ e∈c.edits,e.path.size≤2000000∧0≤e.base∧e.base≤1000000):
  Calls prog 157 #[.agg #[dv,dr],.agg #[.int .i64 c.num,.string c.client,.string c.text,.slice Ae c.edits.length ce,.slice Ac c.recs.length cc],.int .i64 i] w (zib w):=by
 obtain⟨Ar,cr,rfl,-⟩:=id hR;have HR:=hd_ hR;have HE:=hd_ hE;have HEN:=hd_ he;have HLIVE:=hd_ (fun p X (hX:Below w.heap.size w X)=>zi9 d.revs p (.slice Ar d.revs.length cr) dr X (HR.out.below hX) (by omega))
 have HSZ:=hd_ hsz;clear hR hE he hsz;have hb0:Below w.heap.size w ((w.alloc (.cells #[.slice Ar d.revs.length cr,dr] 27)).alloc (.cells #[.int .i64 c.num,.string c.client,.string c.text,.slice Ae c.edits.length ce,.slice Ac c.recs.length cc] 105)):=((Below.refl _ _).alloc (Nat.le_refl _) _).alloc (by simp) _
 have hC:Blk ((w.alloc (.cells #[.slice Ar d.revs.length cr,dr] 27)).alloc (.cells #[.int .i64 c.num,.string c.client,.string c.text,.slice Ae c.edits.length ce,.slice Ac c.recs.length cc] 105)) (w.heap.size+1) 105 [.int .i64 c.num,.string c.client,.string c.text,.slice Ae c.edits.length ce,.slice Ac c.recs.length cc]:=by
  have h1:=z0l (w.alloc (.cells #[.slice Ar d.revs.length cr,dr] 27)) [.int .i64 c.num,.string c.client,.string c.text,.slice Ae c.edits.length ce,.slice Ac c.recs.length cc] 105;simp only[World.size_alloc] at h1
  exact h1
 have hD:Blk ((w.alloc (.cells #[.slice Ar d.revs.length cr,dr] 27)).alloc (.cells #[.int .i64 c.num,.string c.client,.string c.text,.slice Ae c.edits.length ce,.slice Ac c.recs.length cc] 105)) w.heap.size 27 [.slice Ar d.revs.length cr,dr]:=(z0l w _ _).alloc _;have hld0:=fun X (hX:Below w.heap.size w X)=>z47.at_ (HE.out.below hX) hi;have HXM0:=hd_ (HSZ.out _ (List.getElem_mem hi));generalize c.edits[i]=x at hld0 HXM0;have HXM:Hid (x.path.size≤2000000):=hd_ HXM0.out.1;have HLD:=hd_ hld0;clear hld0;have HT8:=hd_ (fun T hT R g3 g4 g7 W hR hD hC hX hRR=>weT8 T hT R d.revs c x Ar Ae Ac dr cr ce cc g3 g4 g7 W hR hl hD hC hX hRR);go_enter func157,ntmps157;go_upto_region 1 with fail;generalize (w.alloc (.cells #[.slice Ar d.revs.length cr,dr] 27)).alloc (.cells #[.int .i64 c.num,.string c.client,.string c.text,.slice Ae c.edits.length ce,.slice Ac c.recs.length cc] 105)=W1 at hb0 hC hD ⊢;obtain⟨k0,k1,k2,k3,k4⟩:=zi4 hC;obtain⟨ad,rfl,hab,hld⟩:=HLD.out _ hb0;have hiz:(i:Int)<(c.edits.length:Int):=by omega
 obtain⟨x0,x1,x2,x3,x4,x5,x6,x7,x8,x9,x10,x11⟩:=hld;have hX:=z0l W1 [.string x.path,.int .i64 x.act,.int .i64 x.ty.base,.bool x.ty.k,.bool x.ty.l,.bool x.ty.x,.int .u64 x.sum,.int .i64 x.size,.int .i64 x.base,.string x.frm,.int .i64 x.fnum,.int .i64 x.fence] 100;have hA1:=hb0.alloc hb0.size (.cells #[.string x.path,.int .i64 x.act,.int .i64 x.ty.base,.bool x.ty.k,.bool x.ty.l,.bool x.ty.x,.int .u64 x.sum,.int .i64 x.size,.int .i64 x.base,.string x.frm,.int .i64 x.fnum,.int .i64 x.fence] 100);have HC1:=hd_ (hC.alloc (.cells #[.string x.path,.int .i64 x.act,.int .i64 x.ty.base,.bool x.ty.k,.bool x.ty.l,.bool x.ty.x,.int .u64 x.sum,.int .i64 x.size,.int .i64 x.base,.string x.frm,.int .i64 x.fnum,.int .i64 x.fence] 100));have HD1:=hd_ (hD.alloc (.cells #[.string x.path,.int .i64 x.act,.int .i64 x.ty.base,.bool x.ty.k,.bool x.ty.l,.bool x.ty.x,.int .u64 x.sum,.int .i64 x.size,.int .i64 x.base,.string x.frm,.int .i64 x.fnum,.int .i64 x.fence] 100));go_upto_region 2 with fail;clear x0 x1 x2 x3 x4 x5 x6 x7 x8 x9 x10 x11 k0 k1 k2 k3 k4 hC hD hb0;generalize W1.alloc (.cells #[.string x.path,.int .i64 x.act,.int .i64 x.ty.base,.bool x.ty.k,.bool x.ty.l,.bool x.ty.x,.int .u64 x.sum,.int .i64 x.size,.int .i64 x.base,.string x.frm,.int .i64 x.fnum,.int .i64 x.fence] 100)=W2 at hX hA1 HC1 HD1 ⊢;generalize W1.heap.size=g7 at hX ⊢;have HX1:=hd_ hX;have HW1:=hd_ hA1;clear hX hA1;obtain⟨c0,c1,c2,c3,c4,c5,c6,c7,c8,c9,c10,c11⟩:=z84 HX1.out;cases hdp:z2q x.path.data.toList 2 with
 | none =>
  have HPN:=hd_ (z97 x.path W2 (HEN.out.below HW1.out) HXM.out hdp);clear hdp;go_wp2_with fail;refine HPN.out.mono ?_;rintro e w2 ⟨rfl,hb2⟩;have HB2:=hd_ hb2;clear hb2;go_wp2_with fail;go_ret;exact⟨⟨_,rfl⟩,z0r HW1.out HB2.out⟩
 | some ps =>
  have HPS:=hd_ (z96 x.path ps W2 (HEN.out.below HW1.out) HXM.out hdp);have hA2:Below W2.heap.size W2 (W2.alloc (.cells (z71 ps).toArray 9)):=(Below.refl _ _).alloc (Nat.le_refl _) _;clear hdp;go_wp2_with fail;refine HPS.out.mono ?_;rintro e w2 ⟨rfl,rfl⟩;have HX2:=hd_ (HX1.out.below hA2 HX1.out.lt);have HC2:=hd_ (HC1.out.below hA2 HC1.out.lt);have HD2:=hd_ (HD1.out.below hA2 HD1.out.lt);have HW2:=hd_ (z0r HW1.out hA2);clear hA2 c0 c1 c2 c3 c4 c5 c6 c7 c8 c9 c10 c11;generalize W2.alloc (.cells (z71 ps).toArray 9)=w2 at HX2 HC2 HD2 HW2 ⊢;generalize Value.slice (some ⟨W2.heap.size,0,none⟩) ps.length ps.length=pv;obtain⟨c0,c1,c2,c3,c4,c5,c6,c7,c8,c9,c10,c11⟩:=z84 HX2.out;by_cases h200:200<x.path.size
  case pos =>
   have q:decide ((200:Int)<(x.path.size:Int))=true:=by simp;omega
   clear h200;go_wp2_with fail;go_ret;exact⟨⟨_,rfl⟩,HW2.out⟩
  have q:decide ((200:Int)<(x.path.size:Int))=false:=by simp;omega
  clear h200;go_upto_region 5 with fail;clear q;go_cut [49] (fun v wx=>∃ bb,v=.bool bb∧Hid (Below w2.heap.size w2 wx))
  case first =>
   by_cases h0:i=0
   ·have d0:decide (0<i)=false:=by simp;omega
    have d1:decide ((0:Int)<(i:Int))=false:=by simp;omega
    clear h0;go_quiet (fail)
    go_wp2_with fail;go_meet
    exact⟨false,rfl,hd_ (z0p (Below.refl _ _) _)⟩
   ·obtain⟨j,rfl⟩:∃ j,i=j+1:=⟨i - 1,by omega⟩
    have hj:j<c.edits.length:=by omega
    obtain⟨ad2,had,hab2,hld2⟩:=z47.at_ (HE.out.below HW2.out) hj;injection had with had
    subst had;have HSY:=hd_ (HSZ.out _ (List.getElem_mem hj));generalize c.edits[j]=y at hld2 HSY;have e0:=hld2.1;obtain⟨k0,k1,k2,k3,k4⟩:=zi4 HC2.out;have d0:decide (0<j+1)=true:=by simp
    have d1:decide ((0:Int)<((j+1:Nat):Int))=true:=decide_eq_true (by omega)
    have d2:decide ((0:Int)<(j:Int)+1)=true:=decide_eq_true (by omega)
    have hwp:IntKind.i64.wrap (j:Int)=(j:Int):=by rw[IntKind.wrap_i64];omega
    have hjz:(j:Int)<(c.edits.length:Int):=by omega
    have HOR:=hd_ (fun X (hX:Below w2.heap.size w2 X)=>zhx y.path x.path X (HEN.out.below (z0r HW2.out hX)) HSY.out.1 HXM.out);clear hld2 h0;refine wp_region_noPanic ?_;first
     | go_region_law (go_simp;go_at_call 93;refine (HOR.out _ (Below.refl _ _).drew).mono ?_;rintro e w5 ⟨n,rfl,hb5,hn⟩;have HB5:=hd_ ((Below.refl w2.heap.size w2).drew.trans hb5);clear hb5 hn)
     | fail
    all_goals
     refine NoPanic.normal ?_;go_wp2_with fail;go_meet
     exact⟨decide (0≤n),rfl,HB5⟩
  case rest =>
   obtain⟨bb,rfl,HBB⟩:=hcut;have HW3:=hd_ (z0r HW2.out HBB.out);have HX3:=hd_ (HX2.out.below HBB.out HX2.out.lt);have HD3:=hd_ (HD2.out.below HBB.out HD2.out.lt);have HC3:=hd_ (HC2.out.below HBB.out HC2.out.lt);cases bb with
   | true =>
    go_wp2_with fail;go_ret;exact⟨⟨_,rfl⟩,HW3.out⟩
   | false =>
    clear HBB;generalize wc=w30 at HW3 HX3 HD3 HC3 ⊢;obtain⟨d0,d1,-,-⟩:=box2 HD3.out;obtain⟨c0,c1,c2,c3,c4,c5,c6,c7,c8,c9,c10,c11⟩:=z84 HX3.out;have HLV1:=hd_ (HLIVE.out x.path w30 HW3.out);go_upto_region 7 with fail;go_cut [10,11] (fun v10 v11 wx=>∃(lv:Bool) (ln:Int),v10=.bool lv∧v11=.int .i64 ln∧Hid (Below w30.heap.size w30 wx))
    case first =>
     go_wp2_with fail;refine HLV1.out.mono ?_;rintro e w3 ⟨rfl,hb3⟩;have HB3:=hd_ hb3;clear hb3;go_wp2_with fail;go_meet
     exact⟨_,_,rfl,rfl,HB3⟩
    case rest =>
     obtain⟨lv,ln,rfl,rfl,HV⟩:=hcut;have hk:=‹∀(a:Act) (w:World),Code.wp _ _ _ a w→_›;refine hk _ _ (HT8.out _ (by kernel_rfl) _ _ _ _ _ (HR.out.below (z0r HW3.out HV.out)) (HD3.out.below HV.out HD3.out.lt) (HC3.out.below HV.out HC3.out.lt) (HX3.out.below HV.out HX3.out.lt) (fun n w' hb=>⟨⟨n,rfl⟩,z0r (z0r HW3.out HV.out) hb⟩) _ _ _ _ _ _ _ _ _ _ _ _ _ _ _ _ _ _ _ _ _ _ _ _ _ _ _ _ _ _ _ _ _ _ _ _ _ _ _ _ _ _ _ _ _ _ _ _ _ _ _ _ _ _ _ _ _ _ _ _ _ _ _ _ _ _ _ _ _ _ _ _ _ _ _ _ _ _ _ _ _ _ _ _ _ _ _ _ _ _ _ _ _ _ _ _ _ _ _ _ _ _ _ _ _ _ _ _ _ _ _ _ _ _ _ _ _ _ _ _ _ _ _ _ _ _ _ _ _ _ _ _ _ _ _ _ _ _ _ _ _ _ _ lv ln HXM0.out.2)
section
variable {u0 u1 u2 u3 u4 u5 u6 u7 u8 u9 gz gA gC gD gE gF gG gH gI gJ gK gL gM gN gO gP gQ gR gT gV gW gX gY gZ i6 i7 i8 ia ib ic ie ig ii ij ik il im io ip iq ir iu iv iw ix iy iz iA iB iC iD iE : Value}
def mvB (x y:Edt):Bool:=(decide (x.act=5) && decide (y.act=4) && decide (y.frm=x.path)) || (decide (x.act=4) && decide (y.act=5) && decide (y.path=x.frm))
theorem movedR5 (ops:Array Oper)(hops:Tryz.f158.body.bind (zcn 5)=some ops)(Q:Exit→Act→World→Prop)(g3 g7:Nat)(x y:Edt)(V:World)
  (h3:Blk V g3 100 [.string x.path,.int .i64 x.act,.int .i64 x.ty.base,.bool x.ty.k,.bool x.ty.l,.bool x.ty.x,.int .u64 x.sum,.int .i64 x.size,.int .i64 x.base,.string x.frm,.int .i64 x.fnum,.int .i64 x.fence]) (h7:Blk V g7 100 [.string y.path,.int .i64 y.act,.int .i64 y.ty.base,.bool y.ty.k,.bool y.ty.l,.bool y.ty.x,.int .u64 y.sum,.int .i64 y.size,.int .i64 y.base,.string y.frm,.int .i64 y.fnum,.int .i64 y.fence])
  (hQ:∀(er et eu ez eA eB eC eD eE eF eG eH eI eJ eK eL eM eN eO eP eQ eR eS eT eU eV eW eX eY eZ fd:Value),Q .normal ⟨#[u0,u1,u2,.pointer (some ⟨g3,0,none⟩),u4,u5,u6,.pointer (some ⟨g7,0,none⟩),u8,u9,gz,gA,gC,gD,gE,er,et,eu,ez,eA,eB,eC,eD,eE,eF,eG,eH,eI,eJ,eK,eL,eM,eN,eO,eP,eQ,eR,eS,eT,eU,eV,eW,eX,eY,eZ,fd,.bool (mvB x y),io,ip,iq,ir,iu,iv,iw,ix,iy,iz,iA,iB,iC,iD,iE],[]⟩ V):
  (Code.region 5 ops false).wp prog Q ⟨#[u0,u1,u2,.pointer (some ⟨g3,0,none⟩),u4,u5,u6,.pointer (some ⟨g7,0,none⟩),u8,u9,gz,gA,gC,gD,gE,gF,gG,gH,gI,gJ,gK,gL,gM,gN,gO,gP,gQ,gR,gT,gV,gW,gX,gY,gZ,i6,i7,i8,ia,ib,ic,ie,ig,ii,ij,ik,il,im,io,ip,iq,ir,iu,iv,iw,ix,iy,iz,iA,iB,iC,iD,iE],[]⟩ V:=by
 simp only[Tryz.f158,Option.bind_some,zcn] at hops
 simp at hops
 subst hops;have HQ:=hd_ hQ;clear hQ;obtain⟨a0,a1,a2,a3,a4,a5,a6,a7,a8,a9,a10,a11⟩:=z84 h3;obtain⟨b0,b1,b2,b3,b4,b5,b6,b7,b8,b9,b10,b11⟩:=z84 h7;have HE:Hid (mvB x y=((decide (x.act=5) && decide (y.act=4) && decide (y.frm=x.path)) || (decide (x.act=4) && decide (y.act=5) && decide (y.path=x.frm)))):=hd_ rfl;by_cases c5:x.act=5
 ·have q5:(x.act == 5)=true:=by simpa using c5
  have q4:(x.act == 4)=false:=by rw[c5];rfl
  by_cases y4:y.act=4
  ·have r4:(y.act == 4)=true:=by simpa using y4
   have sq:=zec y.frm x.path;by_cases yp:y.frm=x.path
   ·rw[decide_eq_true yp] at sq;have e:mvB x y=true:=by rw[HE.out];simp [c5,y4,yp]
    rw[e] at HQ;clear c5 y4 yp e;go_wp2_with fail;exact HQ.out ..
   ·rw[decide_eq_false yp] at sq;have e:mvB x y=false:=by rw[HE.out];simp [c5,y4,yp]
    rw[e] at HQ;clear c5 y4 yp e;go_wp2_with fail;exact HQ.out ..
  ·have r4:(y.act == 4)=false:=by simpa using y4
   have e:mvB x y=false:=by rw[HE.out];simp [c5,y4]
   rw[e] at HQ;clear c5 y4 e;go_wp2_with fail;exact HQ.out ..
 ·have q5:(x.act == 5)=false:=by simpa using c5
  by_cases c4:x.act=4
  ·have q4:(x.act == 4)=true:=by simpa using c4
   by_cases y5:y.act=5
   ·have r5:(y.act == 5)=true:=by simpa using y5
    have sq:=zec y.path x.frm;by_cases yp:y.path=x.frm
    ·rw[decide_eq_true yp] at sq;have e:mvB x y=true:=by rw[HE.out];simp [c5,c4,y5,yp]
     rw[e] at HQ;clear c5 c4 y5 yp e;go_wp2_with fail;exact HQ.out ..
    ·rw[decide_eq_false yp] at sq;have e:mvB x y=false:=by rw[HE.out];simp [c5,c4,y5,yp]
     rw[e] at HQ;clear c5 c4 y5 yp e;go_wp2_with fail;exact HQ.out ..
   ·have r5:(y.act == 5)=false:=by simpa using y5
    have e:mvB x y=false:=by rw[HE.out];simp [c5,c4,y5]
    rw[e] at HQ;clear c5 c4 y5 e;go_wp2_with fail;exact HQ.out ..
  ·have q4:(x.act == 4)=false:=by simpa using c4
   have e:mvB x y=false:=by rw[HE.out];simp [c5,c4]
   rw[e] at HQ;clear c5 c4 e;go_wp2_with fail;exact HQ.out ..
theorem zif (es:List Edt)(x:Edt)(k:Nat)(h:k<es.length):zid (es.take (k+1)) x=zid (es.take k) x+(if mvB x es[k] then 1 else 0):=by
 unfold zid;rw[List.take_succ_eq_append_getElem h,List.countP_append,List.countP_cons,List.countP_nil,Nat.zero_add];rfl
theorem zig (es:List Edt)(x:Edt)(k:Nat):zid (es.take k) x≤k:=by
 unfold zid;have:=List.countP_le_length (p:=fun y:Edt=>(decide (x.act=5) && decide (y.act=4) && decide (y.frm=x.path)) || (decide (x.act=4) && decide (y.act=5) && decide (y.path=x.frm))) (l:=es.take k);rw[List.length_take] at this;omega
theorem zih (es:List Edt)(num:Int)(cl tx:ByteArray)(Ae Ac:Option Addr)(nc ce cc:Nat)(x:Edt)(w:World)(hE:z47 w (.slice Ae es.length ce) es)(hl:es.length≤100000):
  Calls prog 158 #[.agg #[.int .i64 num,.string cl,.string tx,.slice Ae es.length ce,.slice Ac nc cc],.agg #[.string x.path,.int .i64 x.act,.int .i64 x.ty.base,.bool x.ty.k,.bool x.ty.l,.bool x.ty.x,.int .u64 x.sum,.int .i64 x.size,.int .i64 x.base,.string x.frm,.int .i64 x.fnum,.int .i64 x.fence]] w fun e w'=>e=.returned (.bool (zie es x))∧Below w.heap.size w w':=by
 have HE:=hd_ hE;clear hE;have hb0:Below w.heap.size w ((w.alloc (.cells #[.int .i64 num,.string cl,.string tx,.slice Ae es.length ce,.slice Ac nc cc] 105)).alloc (.cells #[.string x.path,.int .i64 x.act,.int .i64 x.ty.base,.bool x.ty.k,.bool x.ty.l,.bool x.ty.x,.int .u64 x.sum,.int .i64 x.size,.int .i64 x.base,.string x.frm,.int .i64 x.fnum,.int .i64 x.fence] 100)):=((Below.refl _ _).alloc (Nat.le_refl _) _).alloc (by simp) _
 have hV:Blk ((w.alloc (.cells #[.int .i64 num,.string cl,.string tx,.slice Ae es.length ce,.slice Ac nc cc] 105)).alloc (.cells #[.string x.path,.int .i64 x.act,.int .i64 x.ty.base,.bool x.ty.k,.bool x.ty.l,.bool x.ty.x,.int .u64 x.sum,.int .i64 x.size,.int .i64 x.base,.string x.frm,.int .i64 x.fnum,.int .i64 x.fence] 100)) (w.heap.size+1) 100 [.string x.path,.int .i64 x.act,.int .i64 x.ty.base,.bool x.ty.k,.bool x.ty.l,.bool x.ty.x,.int .u64 x.sum,.int .i64 x.size,.int .i64 x.base,.string x.frm,.int .i64 x.fnum,.int .i64 x.fence]:=by
  have h1:=z0l (w.alloc (.cells #[.int .i64 num,.string cl,.string tx,.slice Ae es.length ce,.slice Ac nc cc] 105)) [.string x.path,.int .i64 x.act,.int .i64 x.ty.base,.bool x.ty.k,.bool x.ty.l,.bool x.ty.x,.int .u64 x.sum,.int .i64 x.size,.int .i64 x.base,.string x.frm,.int .i64 x.fnum,.int .i64 x.fence] 100;simp only[World.size_alloc] at h1
  exact h1
 have hB:Blk ((w.alloc (.cells #[.int .i64 num,.string cl,.string tx,.slice Ae es.length ce,.slice Ac nc cc] 105)).alloc (.cells #[.string x.path,.int .i64 x.act,.int .i64 x.ty.base,.bool x.ty.k,.bool x.ty.l,.bool x.ty.x,.int .u64 x.sum,.int .i64 x.size,.int .i64 x.base,.string x.frm,.int .i64 x.fnum,.int .i64 x.fence] 100)) w.heap.size 105 [.int .i64 num,.string cl,.string tx,.slice Ae es.length ce,.slice Ac nc cc]:=(z0l w _ _).alloc _;go_enter func158,ntmps158;go_upto_region 1 with fail;generalize (w.alloc (.cells #[.int .i64 num,.string cl,.string tx,.slice Ae es.length ce,.slice Ac nc cc] 105)).alloc (.cells #[.string x.path,.int .i64 x.act,.int .i64 x.ty.base,.bool x.ty.k,.bool x.ty.l,.bool x.ty.x,.int .u64 x.sum,.int .i64 x.size,.int .i64 x.base,.string x.frm,.int .i64 x.fnum,.int .i64 x.fence] 100)=W1 at hb0 hV hB ⊢;obtain⟨d0,d1,d2,d3,d4⟩:=zi4 hB;have HV:=hd_ hV;have Hb0:=hd_ hb0;clear hb0 hV hB;go_wp2_with fail;clear d0 d1 d2 d3 d4;go_loopw [5,11] (fun n s wr=>∃ k:Nat,s=.int .i64 k∧n=.int .i64 (zid (es.take k) x)∧k≤es.length∧Hid (Below W1.heap.size W1 wr)) (fun _ s _=>es.length - (intOf s).toNat)
 case atStart=>exact⟨0,rfl,by rw[List.take_zero];rfl,Nat.zero_le _,Below.refl _ _⟩
 case round =>
  obtain⟨k,rfl,rfl,hk,HI⟩:=hrel;by_cases hlt:k<es.length
  ·obtain⟨ad,rfl,hab,hld⟩:=z47.at_ (HE.out.below (z0r Hb0.out HI.out)) hlt;have HN:=hd_ (zif es x k hlt);have hle:=zig es x k;generalize es[k]=y at hld HN;obtain⟨x0,x1,x2,x3,x4,x5,x6,x7,x8,x9,x10,x11⟩:=hld;have hY:=z0l wr [.string y.path,.int .i64 y.act,.int .i64 y.ty.base,.bool y.ty.k,.bool y.ty.l,.bool y.ty.x,.int .u64 y.sum,.int .i64 y.size,.int .i64 y.base,.string y.frm,.int .i64 y.fnum,.int .i64 y.fence] 100;have hA1:=HI.out.alloc HI.out.size (.cells #[.string y.path,.int .i64 y.act,.int .i64 y.ty.base,.bool y.ty.k,.bool y.ty.l,.bool y.ty.x,.int .u64 y.sum,.int .i64 y.size,.int .i64 y.base,.string y.frm,.int .i64 y.fnum,.int .i64 y.fence] 100);go_upto_region 5 with fail;clear x0 x1 x2 x3 x4 x5 x6 x7 x8 x9 x10 x11;generalize wr.alloc (.cells #[.string y.path,.int .i64 y.act,.int .i64 y.ty.base,.bool y.ty.k,.bool y.ty.l,.bool y.ty.x,.int .u64 y.sum,.int .i64 y.size,.int .i64 y.base,.string y.frm,.int .i64 y.fnum,.int .i64 y.fence] 100)=V1 at hY hA1 ⊢;generalize wr.heap.size=g7 at hY ⊢;have HA1:=hd_ hA1;have HY:=hd_ hY;clear hY hA1;refine movedR5 _ (by kernel_rfl) _ (w.heap.size+1) g7 x y V1 (HV.out.below HA1.out HV.out.lt) HY.out ?_
   intro er et eu ez eA eB eC eD eE eF eG eH eI eJ eK eL eM eN eO eP eQ eR eS eT eU eV eW eX eY eZ fd;cases hm:mvB x y
   ·rw[hm] at HN;clear hm;go_wp2_with fail;go_roundw
    case rel=>exact⟨k+1,by go_num,by rw[HN.out];simp,by omega,HA1.out⟩
    case measure=>simp [intOf];omega
   ·rw[hm] at HN;clear hm;go_wp2_with fail;go_roundw
    case rel=>exact⟨k+1,by go_num,by rw[HN.out];simp,by omega,HA1.out⟩
    case measure=>simp [intOf];omega
  ·have hke:k=es.length:=by omega
   subst hke;obtain⟨a0,a1,a2,a3,a4,a5,a6,a7,a8,a9,a10,a11⟩:=z84 (HV.out.below HI.out HV.out.lt);have HMB:Hid (zie es x=(decide (zid es x=1) || (decide (x.act≠5) && decide (x.act≠4)))):=hd_ rfl;have HB:=hd_ (z0r Hb0.out HI.out);rw[List.take_length];generalize zid es x=m at HMB ⊢;by_cases h1:m=1
   ·have HV:Hid (zie es x=true):=hd_ (by rw[HMB.out];simp [h1])
    subst h1;go_wp2_with fail;go_ret;exact⟨z0w HV.out.symm,HB.out⟩
   ·have q1:((m:Int) == 1)=false:=by simp;omega
    by_cases h5:x.act=5
    ·have q5:(x.act != 5)=false:=by simpa using h5
     have HV:Hid (zie es x=false):=hd_ (by rw[HMB.out];simp [h1,h5])
     clear h1 h5;go_wp2_with fail;go_ret;exact⟨z0w HV.out.symm,HB.out⟩
    ·have q5:(x.act != 5)=true:=by simpa using h5
     by_cases h4:x.act=4
     ·have q4:(x.act != 4)=false:=by simpa using h4
      have HV:Hid (zie es x=false):=hd_ (by rw[HMB.out];simp [h1,h5,h4])
      clear h1 h5 h4;go_wp2_with fail;go_ret;exact⟨z0w HV.out.symm,HB.out⟩
     ·have q4:(x.act != 4)=true:=by simpa using h4
      have HV:Hid (zie es x=true):=hd_ (by rw[HMB.out];simp [h1,h5,h4])
      clear h1 h5 h4;go_wp2_with fail;go_ret;exact⟨z0w HV.out.symm,HB.out⟩
end
theorem zii (D:List Rev)(es:List Edt)(num:Int)(Ar Aq Ae:Option Addr)(cr cq ce:Nat)(w:World)(he:Env w)(hR:z45 w (.slice Ar D.length cr) D)(hl:D.length≤1000)(hE:z47 w (.slice Ae es.length ce) es)(hel:es.length≤6)
  (hsz:∀ e∈es,e.path.size≤2000000∧0≤e.base∧e.base≤1000000):
  Calls prog 102 #[.agg #[.slice Ar D.length cr,.slice Aq 0 cq],.agg #[.int .i64 num,.string ⟨#[]⟩,.string ⟨#[]⟩,.slice Ae es.length ce,.slice none 0 0]] w (zib w):=by
 have hb0:Below w.heap.size w ((w.alloc (.cells #[.slice Ar D.length cr,.slice Aq 0 cq] 27)).alloc (.cells #[.int .i64 num,.string ⟨#[]⟩,.string ⟨#[]⟩,.slice Ae es.length ce,.slice none 0 0] 105)):=((Below.refl _ _).alloc (Nat.le_refl _) _).alloc (by simp) _
 have hC:Blk ((w.alloc (.cells #[.slice Ar D.length cr,.slice Aq 0 cq] 27)).alloc (.cells #[.int .i64 num,.string ⟨#[]⟩,.string ⟨#[]⟩,.slice Ae es.length ce,.slice none 0 0] 105)) (w.heap.size+1) 105 [.int .i64 num,.string ⟨#[]⟩,.string ⟨#[]⟩,.slice Ae es.length ce,.slice none 0 0]:=by
  have h1:=z0l (w.alloc (.cells #[.slice Ar D.length cr,.slice Aq 0 cq] 27)) [.int .i64 num,.string ⟨#[]⟩,.string ⟨#[]⟩,.slice Ae es.length ce,.slice none 0 0] 105;simp only[World.size_alloc] at h1
  exact h1
 have hD:Blk ((w.alloc (.cells #[.slice Ar D.length cr,.slice Aq 0 cq] 27)).alloc (.cells #[.int .i64 num,.string ⟨#[]⟩,.string ⟨#[]⟩,.slice Ae es.length ce,.slice none 0 0] 105)) w.heap.size 27 [.slice Ar D.length cr,.slice Aq 0 cq]:=(z0l w _ _).alloc _;have HRV:=hd_ (fun X (hX:Below w.heap.size w X)=>z45.below hR hX);have HEV:=hd_ (fun X (hX:Below w.heap.size w X)=>z47.below hE hX);have HED:=hd_ (fun(i:Nat) (hi:i<es.length) X (hX:Below w.heap.size w X)=>zic ⟨D,[]⟩ ⟨num,⟨#[]⟩,⟨#[]⟩,es,[]⟩ _ (.slice Aq 0 cq) Ae none ce 0 i X (he.below hX) (z45.below hR hX) (by show D.length≤100000;omega) (z47.below hE hX) hi (by show es.length≤100000;omega) hsz)
 have HMV:=hd_ (fun(x:Edt) X (hX:Below w.heap.size w X)=>zih es num ⟨#[]⟩ ⟨#[]⟩ Ae none 0 ce 0 x X (z47.below hE hX) (by omega))
 clear he hR hE hsz;go_enter func102,ntmps102;go_upto_region 1 with fail;generalize (w.alloc (.cells #[.slice Ar D.length cr,.slice Aq 0 cq] 27)).alloc (.cells #[.int .i64 num,.string ⟨#[]⟩,.string ⟨#[]⟩,.slice Ae es.length ce,.slice none 0 0] 105)=W1 at hb0 hC hD ⊢;have HA:=hd_ hb0;have HC:=hd_ hC;have HD:=hd_ hD;have HX:Hid (∀ X,Below W1.heap.size W1 X→(X.cell? ⟨w.heap.size,0,none⟩=some (.slice Ar D.length cr)∧X.cell? ⟨w.heap.size,1,none⟩=some (.slice Aq 0 cq))∧X.cell? ⟨w.heap.size+1,0,none⟩=some (.int .i64 num)∧X.cell? ⟨w.heap.size+1,1,none⟩=some (.string ⟨#[]⟩)∧X.cell? ⟨w.heap.size+1,2,none⟩=some (.string ⟨#[]⟩)∧X.cell? ⟨w.heap.size+1,3,none⟩=some (.slice Ae es.length ce)∧X.cell? ⟨w.heap.size+1,4,none⟩=some (.slice none 0 0)):=hd_ fun X hX=>by
  have h1:=HD.out.below hX HD.out.lt;have h2:=HC.out.below hX HC.out.lt;exact⟨⟨h1.cell 0,h1.cell 1⟩,h2.cell 0,h2.cell 1,h2.cell 2,h2.cell 3,h2.cell 4⟩
 have HRT:Hid (∀(n:Int) X,Below W1.heap.size W1 X→zib w (.returned (.int .i64 n)) X):=hd_ fun n X hX=>⟨⟨n,rfl⟩,z0r HA.out hX⟩;clear hb0 hC hD;obtain⟨⟨d0,d1⟩,k0,k1,k2,k3,k4⟩:=HX.out W1 (Below.refl _ _);by_cases h0:es.length=0
 ·have q0:((es.length:Int) == 0)=true:=by simpa using h0
  clear h0;go_wp2_with fail;go_ret;exact HRT.out _ _ (Below.refl _ _)
 have q0:((es.length:Int) == 0)=false:=by simpa using h0
 have q64:decide ((64:Int)<(es.length:Int))=false:=by simp;omega
 by_cases h1:num≤0
 ·have q1:decide (num≤0)=true:=by simpa using h1
  clear h1 h0;go_wp2_with fail;go_ret;exact HRT.out _ _ (Below.refl _ _)
 have q1:decide (num≤0)=false:=by simpa using h1
 by_cases h2:1073741824<num
 ·have q2:decide (1073741824<num)=true:=by simpa using h2
  clear h2 h1 h0;go_wp2_with fail;go_ret;exact HRT.out _ _ (Below.refl _ _)
 have q2:decide (1073741824<num)=false:=by simpa using h2
 clear h2 h1 h0;go_wp2_with fail;clear d0 d1 k0 k1 k2 k3 k4 q0 q64 q1 q2;go_loopw [39] (fun i wr=>∃ k:Nat,i=.int .i64 k∧k≤D.length∧Hid (Below W1.heap.size W1 wr)) (fun i _=>D.length - (intOf i).toNat)
 case atStart=>exact⟨0,rfl,Nat.zero_le _,hd_ (Below.refl _ _)⟩
 case round =>
  obtain⟨k,rfl,hk,HI⟩:=hrel;by_cases hlt:k<D.length
  ·obtain⟨ad,rfl,hab,x0,x1,x2,x3,x4,x5,x6,x7,x8,x9,x10,x11⟩:=(HRV.out wr (z0r HA.out HI.out)).at_ hlt;generalize D[k]=r at x0 x1 x2 x3 x4 x5 x6 x7 x8 x9 x10 x11;have hX:Below wr.heap.size wr (wr.alloc (.cells #[.string r.path,.int .i64 r.num,.int .i64 r.chg,.int .i64 r.act,.int .i64 r.ty.base,.bool r.ty.k,.bool r.ty.l,.bool r.ty.x,.int .u64 r.sum,.int .i64 r.size,.string r.frm,.int .i64 r.fnum] 90)):=(Below.refl _ _).alloc (Nat.le_refl _) _;have hN:=z0l wr [.string r.path,.int .i64 r.num,.int .i64 r.chg,.int .i64 r.act,.int .i64 r.ty.base,.bool r.ty.k,.bool r.ty.l,.bool r.ty.x,.int .u64 r.sum,.int .i64 r.size,.string r.frm,.int .i64 r.fnum] 90;have HB:=hd_ (z0r HI.out hX);have HLT:=hd_ hlt;clear hX hab hlt;go_upto_region 8 with fail;clear x0 x1 x2 x3 x4 x5 x6 x7 x8 x9 x10 x11;generalize wr.alloc (.cells #[.string r.path,.int .i64 r.num,.int .i64 r.chg,.int .i64 r.act,.int .i64 r.ty.base,.bool r.ty.k,.bool r.ty.l,.bool r.ty.x,.int .u64 r.sum,.int .i64 r.size,.string r.frm,.int .i64 r.fnum] 90)=W5 at hN HB ⊢;generalize wr.heap.size=g6 at hN ⊢;have y2:W5.cell? ⟨g6,2,none⟩=some (.int .i64 r.chg):=hN.cell 2;obtain⟨-,k0,-⟩:=HX.out W5 HB.out;obtain⟨b,q⟩:∃ b,decide (num≤r.chg)=b:=⟨_,rfl⟩;clear hN;cases b with
   | true =>
    go_wp2_with fail;go_ret;exact HRT.out _ _ HB.out
   | false =>
    go_wp2_with fail;go_roundw
    case rel=>exact⟨k+1,by go_num,by have:=HLT.out;omega,HB⟩
    case measure=>have:=HLT.out;simp [intOf];omega
  ·have hke:k=D.length:=by omega
   subst hke;have HB1:=hd_ HI.out;have hge:¬((D.length:Int)<(D.length:Int)):=by omega
   obtain⟨-,k0,k1,k2,k3,k4⟩:=HX.out wr HI.out;clear HI;go_wp2_with fail;clear k0 k1 k2 k3 k4;go_loopw [52] (fun i wr=>∃ k:Nat,i=.int .i64 k∧k≤es.length∧Hid (Below W1.heap.size W1 wr)) (fun i _=>es.length - (intOf i).toNat)
   case atStart=>exact⟨0,rfl,Nat.zero_le _,HB1⟩
   case round =>
    obtain⟨k,rfl,hk,HI⟩:=hrel;by_cases hlt:k<es.length
    ·have HEC:=hd_ (HED.out k hlt wr (z0r HA.out HI.out));obtain⟨⟨d0,d1⟩,k0,k1,k2,k3,k4⟩:=HX.out wr HI.out;have HLT:=hd_ hlt;clear hlt;go_wp2_with fail;refine HEC.out.mono ?_;rintro e w5 ⟨⟨n,rfl⟩,hb⟩;dsimp only;have HB:=hd_ (z0r HI.out hb);obtain⟨b,q⟩:∃ b,(n != 0)=b:=⟨_,rfl⟩;clear hb HEC d0 d1 k0 k1 k2 k3 k4;cases b with
     | true =>
      go_wp2_with fail;go_ret;exact HRT.out _ _ HB.out
     | false =>
      go_wp2_with fail;go_roundw
      case rel=>exact⟨k+1,by go_num,by have:=HLT.out;omega,HB⟩
      case measure=>have:=HLT.out;simp [intOf];omega
    ·have hke:k=es.length:=by omega
     subst hke;have HB2:=hd_ HI.out;have hge:¬((es.length:Int)<(es.length:Int)):=by omega
     obtain⟨-,k0,k1,k2,k3,k4⟩:=HX.out wr HI.out;clear HI;go_wp2_with fail;clear k0 k1 k2 k3 k4;go_loopw [66] (fun i wr=>∃ k:Nat,i=.int .i64 k∧k≤es.length∧Hid (Below W1.heap.size W1 wr)) (fun i _=>es.length - (intOf i).toNat)
     case atStart=>exact⟨0,rfl,Nat.zero_le _,HB2⟩
     case round =>
      obtain⟨k,rfl,hk,HI⟩:=hrel;by_cases hlt:k<es.length
      ·obtain⟨ad,rfl,hab,x0,x1,x2,x3,x4,x5,x6,x7,x8,x9,x10,x11⟩:=(HEV.out wr (z0r HA.out HI.out)).at_ hlt;generalize es[k]=x at x0 x1 x2 x3 x4 x5 x6 x7 x8 x9 x10 x11;have hX:Below wr.heap.size wr (wr.alloc (.cells #[.string x.path,.int .i64 x.act,.int .i64 x.ty.base,.bool x.ty.k,.bool x.ty.l,.bool x.ty.x,.int .u64 x.sum,.int .i64 x.size,.int .i64 x.base,.string x.frm,.int .i64 x.fnum,.int .i64 x.fence] 100)):=(Below.refl _ _).alloc (Nat.le_refl _) _;have hN:=z0l wr [.string x.path,.int .i64 x.act,.int .i64 x.ty.base,.bool x.ty.k,.bool x.ty.l,.bool x.ty.x,.int .u64 x.sum,.int .i64 x.size,.int .i64 x.base,.string x.frm,.int .i64 x.fnum,.int .i64 x.fence] 100;have HB:=hd_ (z0r HI.out hX);have HLT:=hd_ hlt;clear hX hab hlt;go_upto_region 21 with fail;clear x0 x1 x2 x3 x4 x5 x6 x7 x8 x9 x10 x11;generalize wr.alloc (.cells #[.string x.path,.int .i64 x.act,.int .i64 x.ty.base,.bool x.ty.k,.bool x.ty.l,.bool x.ty.x,.int .u64 x.sum,.int .i64 x.size,.int .i64 x.base,.string x.frm,.int .i64 x.fnum,.int .i64 x.fence] 100)=W5 at hN HB ⊢;generalize wr.heap.size=g10 at hN ⊢;obtain⟨y0,y1,y2,y3,y4,y5,y6,y7,y8,y9,y10,y11⟩:=z84 hN;obtain⟨-,k0,k1,k2,k3,k4⟩:=HX.out W5 HB.out;have HMC:=hd_ (HMV.out x W5 (z0r HA.out HB.out));generalize zie es x=b at HMC;clear hN;cases b
       all_goals
        go_wp2_with fail;refine HMC.out.mono ?_;rintro e w6 ⟨rfl,hb⟩;dsimp only;have HB6:=hd_ (z0r HB.out hb);clear hb y0 y1 y2 y3 y4 y5 y6 y7 y8 y9 y10 y11 k0 k1 k2 k3 k4 HMC
       ·go_wp2_with fail;go_ret;exact HRT.out _ _ HB6.out
       ·go_wp2_with fail;go_roundw
        case rel=>exact⟨k+1,by go_num,by have:=HLT.out;omega,HB6⟩
        case measure=>have:=HLT.out;simp [intOf];omega
      ·have hke:k=es.length:=by omega
       subst hke;have HB3:=hd_ HI.out;have hge:¬((es.length:Int)<(es.length:Int)):=by omega
       obtain⟨-,k0,k1,k2,k3,k4⟩:=HX.out wr HI.out;clear HI;go_wp2_with fail;clear k0 k1 k2 k3 k4;go_loopw [78] (fun i wr=>i=.int .i64 0∧Hid (Below W1.heap.size W1 wr)) (fun i _=>0)
       case atStart=>exact⟨rfl,HB3⟩
       case round =>
        obtain⟨rfl,HI⟩:=hrel;obtain⟨⟨d0,d1⟩,k0,k1,k2,k3,k4⟩:=HX.out wr HI.out;obtain⟨b,q⟩:∃ b,decide ((512:Int)<(D.length:Int)+(es.length:Int))=b:=⟨_,rfl⟩;have hwz:IntKind.i64.wrap ((D.length:Int)+(es.length:Int))=(D.length:Int)+(es.length:Int):=by rw[IntKind.wrap_i64];omega
        cases b
        all_goals
         go_wp2_with fail;go_ret;exact HRT.out _ _ HI.out
section
variable {u0 u1 u2 u3 u4 u5 u6 u7 u8 u9 gz gA gC gD gE gF gG gH gI gJ gK gL gM gN gO gP gQ gR gT gV gW gX gY gZ i6 i7 i8 ia ib ic ie ig ii ij ik il im io ip iq : Value}
theorem zij (n:Int)(es:List Edt)(k:Nat)(h:k<es.length):((es.take (k+1)).map (zi5 n)).flatMap Rev.cells=((es.take k).map (zi5 n)).flatMap Rev.cells++(zi5 n es[k]).cells:=by
 rw[List.take_succ_eq_append_getElem h,List.map_append,List.flatMap_append,List.map_cons,List.map_nil,List.flatMap_cons,List.flatMap_nil,List.append_nil]
theorem zik (l:List Rev):∀ u∈l.flatMap Rev.cells,u.oneCell'=true:=by
 intro u hu;obtain⟨x,-,hx⟩:=List.mem_flatMap.1 hu;simp only[Rev.cells,List.mem_cons,List.not_mem_nil,or_false] at hx
 rcases hx with rfl | rfl | rfl | rfl | rfl | rfl | rfl | rfl | rfl | rfl | rfl | rfl <;> rfl
theorem zil {w w':World}{row:Option Nat}(h:w.grownBy w' row)(hr:row=none):Below w.heap.size w w':=⟨h.os,h.tape,h.output,h.size,fun k hk=>h.block k hk (by rw[hr];exact fun e=>by cases e)⟩
theorem zim (A:Option Addr)(c:Nat)(w:World):Calls prog 104 #[.slice A 0 c] w fun e w'=>e=.returned (.slice A 0 c)∧Below w.heap.size w w':=by
 go_enter func104,ntmps104;go_wp2_with fail;go_loopw [7] (fun i wr=>i=.int .i64 0∧wr=w) (fun i _=>0)
 case atStart=>exact⟨rfl,rfl⟩
 case round =>
  obtain⟨rfl,rfl⟩:=hrel;go_wp2_with fail;go_ret;exact⟨rfl,Below.refl _ _⟩
structure WaR (V wx:World)(g7:Nat)(v1 v2:Value)(n:Nat)(xs:List Value):Prop where
 bel:Below V.heap.size V wx
 le:V.heap.size≤g7
 box:Blk wx g7 27 [v1,v2]
 one:wx.ownsRow V.heap.size 90 12 v1 n xs
 ne1:v1.ownBlock≠some g7
theorem WaR.push {V wr X w5:World}{g7:Nat}{v1 v2 v3:Value}{n n':Nat}{xs xs':List Value}(h:WaR V wr g7 v1 v2 n xs)(hX:Below wr.heap.size wr X)(ho:w5.ownsRow V.heap.size 90 12 v3 n' xs')(hg:X.grownBy w5 v1.ownBlock)(hw:v3.ownBlock=v1.ownBlock∨v3.ownBlock=some X.heap.size):
  WaR V (w5.setCell ⟨g7,0,none⟩ v3) g7 v3 v2 n' xs':=by
 have l1:=h.one.lt;have lb:=h.box.lt;have hs:=hX.size;have n3:v3.ownBlock≠some g7:=fun e=>by
  rcases hw with hw | hw
  ·exact h.ne1 (hw ▸ e)
  ·rw[hw] at e;injection e with e;omega
 have b5:Below V.heap.size V w5:=(z0r h.bel hX).grown hg (by have:=h.bel.size;omega) (fun k e=>(l1 k e).1)
 exact⟨b5.setCell (p:=⟨g7,0,none⟩) h.le _,h.le,((h.box.below hX lb).grown hg (fun e=>h.ne1 e.symm)).set_ 0 v3,z4r ho (p:=⟨g7,0,none⟩) n3 _,n3⟩
theorem WaR.under {V wr X:World}{g7:Nat}{v1 v2:Value}{n:Nat}{xs:List Value}(h:WaR V wr g7 v1 v2 n xs)(hX:Below wr.heap.size wr X):WaR V X g7 v1 v2 n xs:=
 ⟨z0r h.bel hX,h.le,h.box.below hX h.box.lt,z0n h.one hX,h.ne1⟩
theorem waR9 (ops:Array Oper)(hops:Tryz.f56.body.bind (zcn 9)=some ops)(Q:Exit→Act→World→Prop)(g3 g7 g9 n:Nat)(num:Int)(cl tx:ByteArray)(Ae Ac:Option Addr)(ne nc ce cc:Nat)(x:Edt)(r:Rev)(v1:Value)(xs:List Value)(V V1:World)
  (hR:WaR V V1 g7 v1 (.slice none 0 0) n xs) (hB:Blk V1 g9 100 [.string x.path,.int .i64 x.act,.int .i64 x.ty.base,.bool x.ty.k,.bool x.ty.l,.bool x.ty.x,.int .u64 x.sum,.int .i64 x.size,.int .i64 x.base,.string x.frm,.int .i64 x.fnum,.int .i64 x.fence]) (hC:Blk V1 g3 105 [.int .i64 num,.string cl,.string tx,.slice Ae ne ce,.slice Ac nc cc]) (hn:n≤100000)
  (hrev:∀ X,Below V1.heap.size V1 X→Calls prog 103 #[.agg #[.int .i64 num,.string cl,.string tx,.slice Ae ne ce,.slice Ac nc cc],.agg #[.string x.path,.int .i64 x.act,.int .i64 x.ty.base,.bool x.ty.k,.bool x.ty.l,.bool x.ty.x,.int .u64 x.sum,.int .i64 x.size,.int .i64 x.base,.string x.frm,.int .i64 x.fnum,.int .i64 x.fence]] X fun e w'=>e=.returned (.agg #[.string r.path,.int .i64 r.num,.int .i64 r.chg,.int .i64 r.act,.int .i64 r.ty.base,.bool r.ty.k,.bool r.ty.l,.bool r.ty.x,.int .u64 r.sum,.int .i64 r.size,.string r.frm,.int .i64 r.fnum])∧Below X.heap.size X w')
  (hQ:∀(eL eM eN eO eP eQ eR eS:Value) (v3:Value) (w':World),Hid (WaR V w' g7 v3 (.slice none 0 0) (n+1) (xs++[.string r.path,.int .i64 r.num,.int .i64 r.chg,.int .i64 r.act,.int .i64 r.ty.base,.bool r.ty.k,.bool r.ty.l,.bool r.ty.x,.int .u64 r.sum,.int .i64 r.size,.string r.frm,.int .i64 r.fnum]))→Q .normal ⟨#[u0,u1,u2,.pointer (some ⟨g3,0,none⟩),u4,u5,u6,.pointer (some ⟨g7,0,none⟩),u8,.pointer (some ⟨g9,0,none⟩),gz,gA,gC,gD,gE,gF,gG,gH,gI,gJ,gK,gL,gM,gN,gO,gP,gQ,gR,gT,gV,eL,eM,eN,eO,eP,eQ,eR,eS,ib,ic,ie,ig,ii,ij,ik,il,im,io,ip,iq],[]⟩ w'):
  (Code.region 9 ops true).wp prog Q ⟨#[u0,u1,u2,.pointer (some ⟨g3,0,none⟩),u4,u5,u6,.pointer (some ⟨g7,0,none⟩),u8,.pointer (some ⟨g9,0,none⟩),gz,gA,gC,gD,gE,gF,gG,gH,gI,gJ,gK,gL,gM,gN,gO,gP,gQ,gR,gT,gV,gW,gX,gY,gZ,i6,i7,i8,ia,ib,ic,ie,ig,ii,ij,ik,il,im,io,ip,iq],[]⟩ V1:=by
 simp only[Tryz.f56,Option.bind_some,zcn] at hops
 simp at hops
 subst hops;obtain⟨A1,c1,hv1⟩:=z0o hR.one;subst hv1;have HQ:=hd_ hQ;have HR:=hd_ hR;have HB:=hd_ hB;have HC:=hd_ hC;have HRV2:=hd_ hrev;clear hQ hR hB hrev hC;have f0:V1.cell? ⟨g7,0,none⟩=some (.slice A1 n c1):=HR.out.box.cell 0;obtain⟨c0,c1',c2,c3,c4,c5,c6,c7,c8,c9,c10,c11⟩:=z84 HB.out;obtain⟨k0,k1,k2,k3,k4⟩:=zi4 HC.out;refine wp_region_noPanic ?_;go_region_law (first
  | (refine zcj rfl rfl zh0 (z0n (z0n HR.out.one hS5) ((Below.refl _ _).alloc (Nat.le_refl _) _)) (by simp [Act.eval,Act.put]) (z0i w5 [.string r.path,.int .i64 r.num,.int .i64 r.chg,.int .i64 r.act,.int .i64 r.ty.base,.bool r.ty.k,.bool r.ty.l,.bool r.ty.x,.int .u64 r.sum,.int .i64 r.size,.string r.frm,.int .i64 r.fnum] _ 12 1 rfl (by decide) _ rfl) (by simp [Act.eval,Act.put]) (by simp [Value.oneCell']) (by omega) (by unfold maxLen;omega) (by have:=hS5.size;have:=HR.out.bel.size;simp;omega) ?_;intro A6 c6' w6 hO6 hG6 hw6;have hbx:=(HR.out.box.below (z0r hS5 ((Below.refl _ _).alloc (Nat.le_refl _) _)) HR.out.box.lt).grown hG6 (fun e=>HR.out.ne1 e.symm);obtain⟨b0,b1,g0,g1⟩:=box2 hbx)
  | (go_simp;go_at_call 103;refine (HRV2.out _ (Below.refl _ _).drew).mono ?_;rintro e w5 ⟨rfl,hX5⟩;have hS5:Below V1.heap.size V1 w5:=(Below.refl _ _).drew.trans hX5;have f5:w5.cell? ⟨g7,0,none⟩=some (.slice A1 n c1):=(HR.out.box.below hS5 HR.out.box.lt).cell 0;have f6:(w5.alloc (.cells #[.string r.path,.int .i64 r.num,.int .i64 r.chg,.int .i64 r.act,.int .i64 r.ty.base,.bool r.ty.k,.bool r.ty.l,.bool r.ty.x,.int .u64 r.sum,.int .i64 r.size,.string r.frm,.int .i64 r.fnum] 90)).cell? ⟨g7,0,none⟩=some (.slice A1 n c1):=(HR.out.box.below (hS5.alloc hS5.size _) HR.out.box.lt).cell 0))
 all_goals exact NoPanic.normal (HQ.out _ _ _ _ _ _ _ _ _ _ (HR.out.push (z0r hS5 ((Below.refl _ _).alloc (Nat.le_refl _) _)) hO6 hG6 hw6))
theorem waR11 (ops:Array Oper)(hops:Tryz.f56.body.bind (zcn 11)=some ops)(Q:Exit→Act→World→Prop)(g2 g3 g7 n:Nat)(num:Int)(cl tx:ByteArray)(Aq Ae:Option Addr)(ne cq ce:Nat)(v0 v1:Value)(xs:List Value)(V V1:World)
  (hR:WaR V V1 g7 v1 (.slice none 0 0) n xs) (hD:Blk V1 g2 27 [v0,.slice Aq 0 cq]) (hC:Blk V1 g3 105 [.int .i64 num,.string cl,.string tx,.slice Ae ne ce,.slice none 0 0]) (hQd:z48 V1 (.slice Aq 0 cq) [])
  (hQ:∀(eU eV eW eX eY eZ fd fe ff fg:Value) (A2:Option Addr) (c2:Nat) (w':World),Hid (Below V.heap.size V w'∧Blk w' g7 27 [v1,.slice A2 0 c2]∧w'.ownsRow V.heap.size 90 12 v1 n xs∧z48 w' (.slice A2 0 c2) [])→Q .normal ⟨#[u0,u1,.pointer (some ⟨g2,0,none⟩),.pointer (some ⟨g3,0,none⟩),u4,u5,u6,.pointer (some ⟨g7,0,none⟩),u8,u9,gz,gA,gC,gD,gE,gF,gG,gH,gI,gJ,gK,gL,gM,gN,gO,gP,gQ,gR,gT,gV,gW,gX,gY,gZ,i6,i7,i8,ia,ib,eU,eV,eW,eX,eY,eZ,fd,fe,ff,fg,iq],[]⟩ w'):
  (Code.region 11 ops true).wp prog Q ⟨#[u0,u1,.pointer (some ⟨g2,0,none⟩),.pointer (some ⟨g3,0,none⟩),u4,u5,u6,.pointer (some ⟨g7,0,none⟩),u8,u9,gz,gA,gC,gD,gE,gF,gG,gH,gI,gJ,gK,gL,gM,gN,gO,gP,gQ,gR,gT,gV,gW,gX,gY,gZ,i6,i7,i8,ia,ib,ic,ie,ig,ii,ij,ik,il,im,io,ip,iq],[]⟩ V1:=by
 simp only[Tryz.f56,Option.bind_some,zcn] at hops
 simp at hops
 subst hops;have HQ:=hd_ hQ;have HR:=hd_ hR;have HQD:=hd_ hQd;have HFF:Hid (∀ w',Below V1.heap.size V1 w'→w'.cell? ⟨g2,1,none⟩=some (.slice Aq 0 cq)∧w'.cell? ⟨g3,4,none⟩=some (.slice none 0 0)∧w'.cell? ⟨g7,1,none⟩=some (.slice none 0 0)∧w'.frozen? ⟨g7,1,none⟩=false):=hd_ fun w' hb=>by
  obtain⟨-,a,-,-⟩:=box2 (hD.below hb hD.lt);obtain⟨-,-,-,-,b⟩:=zi4 (hC.below hb hC.lt);obtain⟨-,c,-,d⟩:=box2 (hR.box.below hb hR.box.lt);exact⟨a,b,c,d⟩
 have HEND:Hid (∀(A6:Option Addr) (c6:Nat) (w6 w7:World),Below V1.heap.size V1 w7→w6.ownsRow V1.heap.size 156 6 (.slice A6 0 c6) 0 []→Below w6.heap.size w6 w7→Below V.heap.size V (w7.setCell ⟨g7,1,none⟩ (.slice A6 0 c6))∧Blk (w7.setCell ⟨g7,1,none⟩ (.slice A6 0 c6)) g7 27 [v1,.slice A6 0 c6]∧(w7.setCell ⟨g7,1,none⟩ (.slice A6 0 c6)).ownsRow V.heap.size 90 12 v1 n xs∧z48 (w7.setCell ⟨g7,1,none⟩ (.slice A6 0 c6)) (.slice A6 0 c6) []):=hd_ fun A6 c6 w6 w7 h7 ho h67=>by
  refine⟨(z0r HR.out.bel h7).setCell (p:=⟨g7,1,none⟩) HR.out.le _,(HR.out.box.below h7 HR.out.box.lt).set_ 1 _,z4r (z0n HR.out.one h7) (p:=⟨g7,1,none⟩) HR.out.ne1 _,?_⟩;obtain⟨A,c,e,hc,hm,hl,h0,-⟩:=Row.of_own ho;exact⟨A,c,e,hc,hm,hl,h0,fun h=>absurd h (by decide)⟩
 clear hQ hR hD hC hQd;obtain⟨f0,f1,f2,f3⟩:=HFF.out V1 (Below.refl _ _);refine wp_region_noPanic ?_;go_region_law (first
  | (refine zcj (base:=V1.heap.size) (n:=0) (m:=0) (xs:=[]) (news:=[]) rfl rfl zh1 (World.ownsRow_nil _ _ _ _) (by simp [Act.eval,Act.put];done) (HQD.out.below (Below.refl _ _).drew) (by simp [Act.eval,Act.put];done) (fun u h=>by cases h) (by omega) (by unfold maxLen;omega) (Below.size (B:=V1.heap.size) (w:=V1) (Below.refl _ _).drew) ?_;intro A5 c5 w5 hO5 hG5 hw5;have hX5:=zil hG5 rfl;have hS5:Below V1.heap.size V1 w5:=z0r (Below.refl _ _).drew hX5;obtain⟨f4,f5,f6,f7⟩:=HFF.out w5 hS5)
  | (refine zcj (m:=0) (news:=[]) rfl rfl zh1 hO5 (by simp [Act.eval,Act.put];done) (z48.nil_ w5) (by simp [Act.eval,Act.put];done) (fun u h=>by cases h) (by omega) (by unfold maxLen;omega) hS5.size ?_;intro A6 c6 w6 hO6 hG6 hw6;have hS6:Below V1.heap.size V1 w6:=hS5.grown hG6 hS5.size (fun k e=>(hO5.lt k e).1);obtain⟨f8,f9,f10,f11⟩:=HFF.out w6 hS6)
  | (go_simp;go_at_call 104;refine (zim A6 c6 w6).mono ?_;rintro e w7 ⟨rfl,hG7⟩;have hS7:Below V1.heap.size V1 w7:=z0r hS6 hG7;obtain⟨f12,f13,f14,f15⟩:=HFF.out w7 hS7))
 all_goals exact NoPanic.normal (HQ.out _ _ _ _ _ _ _ _ _ _ _ _ _ (HEND.out A6 c6 w6 w7 hS7 hO6 hG7))
def zin (w:World)(D:List Rev)(es:List Edt)(num:Int)(e:Ending)(w':World):Prop:=
 Below w.heap.size w w'∧((∃ n:Int,n≠0∧e=.returned (.tuple #[.agg #[.slice none 0 0,.slice none 0 0],.int .i64 n])) ∨
  ∃(A A2:Option Addr) (c c2:Nat),e=.returned (.tuple #[.agg #[.slice A (D.length+es.length) c,.slice A2 0 c2],.int .i64 0])∧z45 w' (.slice A (D.length+es.length) c) (D++es.map (zi5 num))∧(∀ x,(Value.slice A (D.length+es.length) c).ownBlock=some x→w.heap.size≤x∧x<w'.heap.size)∧z48 w' (.slice A2 0 c2) [])
def WaI (V wr:World)(g7:Nat)(D:List Rev)(es:List Edt)(num:Int)(k:Nat):Prop:=∃ v1,WaR V wr g7 v1 (.slice none 0 0) (D.length+k) (D.flatMap Rev.cells++((es.take k).map (zi5 num)).flatMap Rev.cells)
theorem zio (D:List Rev)(es:List Edt)(num:Int)(Ar Aq Ae:Option Addr)(cr cq ce:Nat)(w:World)(he:Env w)(hR:z45 w (.slice Ar D.length cr) D)(hl:D.length≤1000)(hE:z47 w (.slice Ae es.length ce) es)(hel:es.length≤6)
  (hsz:∀ e∈es,e.path.size≤2000000∧0≤e.base∧e.base≤1000000) (hQ:z48 w (.slice Aq 0 cq) []):
  Calls prog 56 #[.agg #[.slice Ar D.length cr,.slice Aq 0 cq],.agg #[.int .i64 num,.string ⟨#[]⟩,.string ⟨#[]⟩,.slice Ae es.length ce,.slice none 0 0]] w (zin w D es num):=by
 have HEN:=hd_ he;have HR:=hd_ hR;have HQ:=hd_ hQ;have HE:=hd_ hE;have HSZ:=hd_ hsz;obtain⟨W1,hW1⟩:∃ W,W=((w.alloc (.cells #[.slice Ar D.length cr,.slice Aq 0 cq] 27)).alloc (.cells #[.int .i64 num,.string ⟨#[]⟩,.string ⟨#[]⟩,.slice Ae es.length ce,.slice none 0 0] 105)).alloc (.cells #[.slice none 0 0,.slice none 0 0] 27):=⟨_,rfl⟩;have hb1:Below w.heap.size w W1:=by rw[hW1];exact (((Below.refl _ _).alloc (Nat.le_refl _) _).alloc (by simp) _).alloc (by simp;omega) _
 have hD1:Blk W1 w.heap.size 27 [.slice Ar D.length cr,.slice Aq 0 cq]:=by rw[hW1];exact ((z0l w _ _).alloc _).alloc _
 have hC1:Blk W1 (w.heap.size+1) 105 [.int .i64 num,.string ⟨#[]⟩,.string ⟨#[]⟩,.slice Ae es.length ce,.slice none 0 0]:=by
  rw[hW1];have:=z0l (w.alloc (.cells #[.slice Ar D.length cr,.slice Aq 0 cq] 27)) [.int .i64 num,.string ⟨#[]⟩,.string ⟨#[]⟩,.slice Ae es.length ce,.slice none 0 0] 105;simp only[World.size_alloc] at this
  exact this.alloc _
 have hZ1:Blk W1 (w.heap.size+1+1) 27 [.slice none 0 0,.slice none 0 0]:=by
  rw[hW1];have:=z0l ((w.alloc (.cells #[.slice Ar D.length cr,.slice Aq 0 cq] 27)).alloc (.cells #[.int .i64 num,.string ⟨#[]⟩,.string ⟨#[]⟩,.slice Ae es.length ce,.slice none 0 0] 105)) [.slice none 0 0,.slice none 0 0] 27;simp only[World.size_alloc] at this
  exact this
 have HW1:=hd_ hW1;have Hb1:=hd_ hb1;have HD1:=hd_ hD1;have HC1:=hd_ hC1;have HZ1:=hd_ hZ1;have HCK:=hd_ (zii D es num Ar Aq Ae cr cq ce W1 (he.below hb1) (z45.below hR hb1) hl (z47.below hE hb1) hel hsz);clear hW1 hb1 hD1 hC1 hZ1 he hR hE hsz hQ;go_enter func56,ntmps56;go_upto_region 1 with fail;rw[← HW1.out];obtain⟨d0,d1,-,-⟩:=box2 HD1.out;obtain⟨k0,k1,k2,k3,k4⟩:=zi4 HC1.out;go_wp2_with fail;refine HCK.out.mono ?_;rintro e w2 ⟨⟨e0,rfl⟩,hb2⟩;dsimp only;have HB2:=hd_ hb2;clear hb2 d0 d1 k0 k1 k2 k3 k4 HCK;have HF:=hd_ (fun(W:World) (n:Int) (hb:Below w.heap.size w W) (hn:n≠0)=>(⟨hb,.inl ⟨n,hn,rfl⟩⟩:zin w D es num (.returned (.tuple #[.agg #[.slice none 0 0,.slice none 0 0],.int .i64 n])) W));by_cases h0:e0=0
 case neg =>
  have q:(e0 != 0)=true:=by simpa using h0
  have HN:=hd_ h0;clear h0;have hR4:=HZ1.out.below HB2.out HZ1.out.lt;obtain⟨r0,r1,f0,f1⟩:=box2 hR4;have HBX:=hd_ (z0r Hb1.out HB2.out);go_wp2_with fail;have hR5:=(hR4.set_ 0 (.slice none 0 0)).set_ 1 (.slice none 0 0);have hB5:=(HBX.out.setCell (p:=⟨w.heap.size+1+1,0,none⟩) (by simp;omega) (.slice none 0 0)).setCell (p:=⟨w.heap.size+1+1,1,none⟩) (by simp;omega) (.slice none 0 0)
  clear r0 r1 f0 f1 hR4;generalize (w2.setCell ⟨w.heap.size+1+1,0,none⟩ (.slice none 0 0)).setCell ⟨w.heap.size+1+1,1,none⟩ (.slice none 0 0)=W5 at hR5 hB5 ⊢;obtain⟨r0,r1,-,-⟩:=box2 hR5;refine bodyPost_ret (v:=.tuple #[.agg #[.slice none 0 0,.slice none 0 0],.int .i64 e0]) (by simp [results,results56,go_sem,r0,r1]) rfl (HF.out W5 e0 hB5 HN.out)
 subst h0;clear HF;have hO7:=z0l w2 [.slice none 0 0,.slice none 0 0] 27;have hA3:Below w2.heap.size w2 (w2.alloc (.cells #[.slice none 0 0,.slice none 0 0] 27)):=(Below.refl _ _).alloc (Nat.le_refl _) _;go_upto_region 5 with fail;generalize w2.alloc (.cells #[.slice none 0 0,.slice none 0 0] 27)=w3 at hO7 hA3 ⊢;have hW3:=z0r HB2.out hA3;obtain⟨d0,d1,-,-⟩:=box2 (HD1.out.below hW3 HD1.out.lt);obtain⟨p0,p1,p2,p3⟩:=box2 hO7;have hRW:=z45.below HR.out (z0r Hb1.out hW3);have HO7:=hd_ hO7;have HA3:=hd_ hA3;have HRW:=hd_ hRW;clear hO7 hA3 hW3 hRW;go_upto_region 6 with (at_builtin;refine z0j (base:=w3.heap.size) (n:=0) (xs:=[]) rfl rfl zh0 (World.ownsRow_nil _ _ _ _) rfl HRW.out rfl (zik _) (by omega) (by unfold maxLen;omega) (Nat.le_refl _) ?_;intro A5 c5 w5 hO5 hG5 hw5;have hX5:=zil hG5 rfl;obtain⟨t0,t1,t2,t3⟩:=box2 (HO7.out.below hX5 HO7.out.lt))
 rw[Nat.zero_add,List.nil_append] at hO5;have hAP:WaI w2 (w5.setCell ⟨w2.heap.size,0,none⟩ (.slice A5 D.length c5)) w2.heap.size D es num 0:=by
  have hlt:=HO7.out.lt;have n5:(Value.slice A5 D.length c5).ownBlock≠some w2.heap.size:=fun e=>by have:=(hO5.lt _ e).1;omega
  refine⟨.slice A5 D.length c5,(z0r HA3.out hX5).setCell (p:=⟨w2.heap.size,0,none⟩) (Nat.le_refl _) _,Nat.le_refl _,(HO7.out.below hX5 hlt).set_ 0 _,?_,n5⟩;rw[List.take_zero,List.map_nil,List.flatMap_nil,List.append_nil];exact z4p (z4r hO5 (p:=⟨w2.heap.size,0,none⟩) n5 _) (Nat.le_of_lt hlt)
 generalize w5.setCell ⟨w2.heap.size,0,none⟩ (.slice A5 D.length c5)=w6 at hAP ⊢;have HAP:=hd_ hAP;have HW6:Hid (Below W1.heap.size W1 w6):=hd_ (by obtain⟨v1,h⟩:=hAP;exact z0r HB2.out h.bel)
 clear t0 t1 t2 t3 d0 d1 p0 p1 p2 p3 hO5 hG5 hw5 hX5 hAP;obtain⟨k0,k1,k2,k3,k4⟩:=zi4 (HC1.out.below HW6.out HC1.out.lt);have HMD:=hd_ (fun x (hx:x∈es) X=>zi6 num ⟨#[]⟩ ⟨#[]⟩ Ae none es.length 0 ce 0 x X (HSZ.out x hx).2);go_upto_block 0 with fail
 clear k0 k1 k2 k3 k4;go_cut [] (fun wx=>Hid (WaI w2 wx w2.heap.size D es num es.length))
 case first =>
  go_wp2_with fail;go_loopw [26] (fun s wr=>∃ k:Nat,s=.int .i64 k∧k≤es.length∧Hid (WaI w2 wr w2.heap.size D es num k)) (fun s _=>es.length - (intOf s).toNat)
  case atStart=>exact⟨0,rfl,Nat.zero_le _,HAP.out⟩
  case round =>
   obtain⟨k,rfl,hk,HI⟩:=hrel;by_cases hlt:k<es.length
   ·obtain⟨v1,hAP⟩:=HI.out;obtain⟨ad,rfl,hab,hld⟩:=z47.at_ (HE.out.below (z0r (z0r Hb1.out HB2.out) hAP.bel)) hlt;have HNX:Hid (∀ v3 w',WaR w2 w' w2.heap.size v3 (.slice none 0 0) (D.length+k+1) (D.flatMap Rev.cells++((es.take k).map (zi5 num)).flatMap Rev.cells++(zi5 num es[k]).cells)→WaI w2 w' w2.heap.size D es num (k+1)):=hd_ (fun v3 w' h=>⟨v3,by rw[zij _ _ _ hlt,← List.append_assoc];exact h⟩)
    have HM1:=hd_ (HMD.out es[k] (List.getElem_mem hlt));have HKB:Hid (D.length+k≤100000):=hd_ (by omega)
    generalize es[k]=x at hld HNX HM1;generalize zi5 num x=r at HNX HM1;generalize D.flatMap Rev.cells++((es.take k).map (zi5 num)).flatMap Rev.cells=xs at hAP HNX;obtain⟨x0,x1,x2,x3,x4,x5,x6,x7,x8,x9,x10,x11⟩:=hld;have hX:=z0l wr [.string x.path,.int .i64 x.act,.int .i64 x.ty.base,.bool x.ty.k,.bool x.ty.l,.bool x.ty.x,.int .u64 x.sum,.int .i64 x.size,.int .i64 x.base,.string x.frm,.int .i64 x.fnum,.int .i64 x.fence] 100;have hA1:Below wr.heap.size wr (wr.alloc (.cells #[.string x.path,.int .i64 x.act,.int .i64 x.ty.base,.bool x.ty.k,.bool x.ty.l,.bool x.ty.x,.int .u64 x.sum,.int .i64 x.size,.int .i64 x.base,.string x.frm,.int .i64 x.fnum,.int .i64 x.fence] 100)):=(Below.refl _ _).alloc (Nat.le_refl _) _;have HAP1:=hd_ hAP;clear hAP;go_upto_region 9 with fail;clear x0 x1 x2 x3 x4 x5 x6 x7 x8 x9 x10 x11;generalize wr.alloc (.cells #[.string x.path,.int .i64 x.act,.int .i64 x.ty.base,.bool x.ty.k,.bool x.ty.l,.bool x.ty.x,.int .u64 x.sum,.int .i64 x.size,.int .i64 x.base,.string x.frm,.int .i64 x.fnum,.int .i64 x.fence] 100)=V1 at hX hA1 ⊢;generalize wr.heap.size=g9 at hX ⊢;have HX:=hd_ hX;have HA1:=hd_ (HAP1.out.under hA1);clear hX hA1;refine waR9 _ (by kernel_rfl) _ (w.heap.size+1) w2.heap.size g9 (D.length+k) num ⟨#[]⟩ ⟨#[]⟩ (some ad) none es.length 0 ce 0 x r v1 xs w2 V1 HA1.out HX.out (HC1.out.below (z0r HB2.out HA1.out.bel) HC1.out.lt) HKB.out (fun X _=>HM1.out X) ?_
    intro eL eM eN eO eP eQ eR eS v3 w7 H7;have HR7:=hd_ (HNX.out v3 w7 H7.out);clear H7;go_wp2_with fail;go_roundw
    case rel=>exact⟨k+1,by go_num,by omega,HR7.out⟩
    case measure=>simp [intOf];omega
   ·have hke:k=es.length:=by omega
    have q:decide ((k:Int)<(es.length:Int))=false:=by simp;omega
    have q':decide (k<es.length)=false:=by simp;omega
    have HZ:Hid (WaI w2 wr w2.heap.size D es num es.length):=hd_ (by rw[← hke];exact HI.out)
    clear hke;go_wp2_with fail;go_meet
    exact HZ.out
 case rest =>
  obtain⟨v1,hAP⟩:=hcut.out;rw[List.take_length,← List.flatMap_append] at hAP;have HAP2:=hd_ hAP;have HWC:Hid (Below W1.heap.size W1 wc):=hd_ (z0r HB2.out hAP.bel);clear hAP hcut;go_upto_region 11 with fail;refine waR11 _ (by kernel_rfl) _ w.heap.size (w.heap.size+1) w2.heap.size (D.length+es.length) num ⟨#[]⟩ ⟨#[]⟩ Aq Ae es.length cq ce (.slice Ar D.length cr) v1 _ w2 wc HAP2.out (HD1.out.below HWC.out HD1.out.lt) (HC1.out.below HWC.out HC1.out.lt) (z48.below HQ.out (z0r Hb1.out HWC.out)) ?_
  intro eU eV eW eX eY eZ fd fe ff fg A2 c2 w7 H7;obtain⟨A8,c8,hv1⟩:=z0o H7.out.2.2.1;subst hv1;have hB7:=z0r HB2.out H7.out.1;have hR4:=HZ1.out.below hB7 HZ1.out.lt;obtain⟨r0,r1,f0,f1⟩:=box2 hR4;obtain⟨p0,p1,-,-⟩:=box2 H7.out.2.1;have HB7:=hd_ (z0r Hb1.out hB7);have HLT:=hd_ HZ1.out.lt;have HSZ2:=hd_ HB2.out.size;clear hB7;go_wp2_with fail;have hR5:=(hR4.set_ 0 (Value.slice A8 (D.length+es.length) c8)).set_ 1 (Value.slice A2 0 c2);have hB5:=(HB7.out.setCell (p:=⟨w.heap.size+1+1,0,none⟩) (by simp;omega) (Value.slice A8 (D.length+es.length) c8)).setCell (p:=⟨w.heap.size+1+1,1,none⟩) (by simp;omega) (Value.slice A2 0 c2)
  have n1:(Value.slice A8 (D.length+es.length) c8).ownBlock≠some (w.heap.size+1+1):=fun e=>by have:=(H7.out.2.2.1.lt _ e).1;have:=HLT.out;have:=HSZ2.out;omega
  have k2:=z4r (z4r H7.out.2.2.1 (p:=⟨w.heap.size+1+1,0,none⟩) n1 (Value.slice A8 (D.length+es.length) c8)) (p:=⟨w.heap.size+1+1,1,none⟩) n1 (Value.slice A2 0 c2);have k1:=Row.of_own k2;have k3:=k2.lt;clear k2;have hw2:w.heap.size≤w2.heap.size:=by have:=Hb1.out.size;have:=HSZ2.out;omega
  clear r0 r1 f0 f1 hR4 p0 p1;generalize (w7.setCell ⟨w.heap.size+1+1,0,none⟩ (Value.slice A8 (D.length+es.length) c8)).setCell ⟨w.heap.size+1+1,1,none⟩ (Value.slice A2 0 c2)=W5 at hR5 hB5 k1 k3 ⊢;obtain⟨r0,r1,-,-⟩:=box2 hR5;refine bodyPost_ret (v:=.tuple #[.agg #[(Value.slice A8 (D.length+es.length) c8),(Value.slice A2 0 c2)],.int .i64 0]) (by simp [results,results56,go_sem,r0,r1]) rfl ?_
  refine⟨hB5,.inr ⟨A8,A2,c8,c2,rfl,?_,fun x hx=>⟨Nat.le_trans hw2 (k3 x hx).1,(k3 x hx).2⟩,?_⟩⟩
  ·show Row W5 12 _ (D++es.map (zi5 num)).length _
   rw[List.length_append,List.length_map];exact k1
  ·obtain⟨A,c,e,hc,hm,hl,h0,-⟩:=H7.out.2.2.2;exact⟨A,c,e,hc,hm,hl,h0,fun h=>absurd h (by decide)⟩
end
def RrFst (W wr:World)(k:Nat)(v:Value)(q:Pat):Prop:=Below W.heap.size W wr∧(k=0→v=.slice none 0 0)∧(k=1→∃(g cap c:Nat) (C:Option Addr),v=.slice (some ⟨g,0,none⟩) 1 cap∧1≤cap∧wr.cell? ⟨g,0,none⟩=some (.slice C q.parts.length c)∧wr.cell? ⟨g,1,none⟩=some (.bool q.rest)∧zae wr (.slice C q.parts.length c) q)
theorem znh (l r h m:Pat)(A B C:Option Addr)(a b c:Nat)(ad:Addr)(hc:Nat)(w:World)(hl:zae w (.slice A l.parts.length a) l)(hr:zae w (.slice C r.parts.length c) r)(hh:zae w (.slice B h.parts.length b) h)(hn:zd1 l r h m)(hsym:zn6 l h)(hs2:zn6 r (zd0 l r m))(hr2:(zd0 l r m).rest=true)(hc1:1≤hc)(h0:w.cell? ad=some (.slice B h.parts.length b))(h1:w.cell? ⟨ad.block,ad.off+1,none⟩=some (.bool h.rest)):
  Calls prog 31 #[.agg #[.slice A l.parts.length a,.bool l.rest,.slice C r.parts.length c,.bool r.rest,.slice (some ad) 1 hc]] w (znf w (.slice C r.parts.length c) r.rest):=by
 obtain⟨W1,hW1⟩:∃ W,W=(w.alloc (.cells #[.slice A l.parts.length a,.bool l.rest,.slice C r.parts.length c,.bool r.rest,.slice (some ad) 1 hc] 71)).alloc (.cells #[.slice none 0 0,.bool false,.slice none 0 0] 78):=⟨_,rfl⟩;have hA:Below w.heap.size w W1:=by rw[hW1];exact ((Below.refl _ _).alloc (Nat.le_refl _) _).alloc (by simp) _
 have hX1:Blk W1 w.heap.size 71 [.slice A l.parts.length a,.bool l.rest,.slice C r.parts.length c,.bool r.rest,.slice (some ad) 1 hc]:=by rw[hW1];exact (z0l w _ _).alloc _
 have h2:Blk W1 (w.heap.size+1) 78 [.slice none 0 0,.bool false,.slice none 0 0]:=by
  rw[hW1];have:=z0l (w.alloc (.cells #[.slice A l.parts.length a,.bool l.rest,.slice C r.parts.length c,.bool r.rest,.slice (some ad) 1 hc] 71)) [.slice none 0 0,.bool false,.slice none 0 0] 78;simp only[World.size_alloc] at this
  exact this
 have HW1:=hd_ hW1;have HA:=hd_ hA;have H1:=hd_ hX1;have H2:=hd_ h2;have HL:=hd_ (fun X (hX:Below w.heap.size w X)=>hl.below hX);have HR:=hd_ (fun X (hX:Below w.heap.size w X)=>hr.below hX);have HH:=hd_ (fun X (hX:Below w.heap.size w X)=>hh.below hX);have HN:=hd_ hn;have HSY:=hd_ hsym;have HS2:=hd_ hs2;have HR2:=hd_ hr2;have HC:Hid (∀ X,Below w.heap.size w X→X.cell? ad=some (.slice B h.parts.length b)∧X.cell? ⟨ad.block,ad.off+1,none⟩=some (.bool h.rest)):=hd_ fun X hX=>⟨z04 h0 hX (z03 h0),z04 h1 hX (z03 h1)⟩;clear hW1 hA hX1 h2 hl hr hh hn hsym hs2 hr2 h0 h1;go_enter func31,ntmps31;go_upto_region 1 with fail;rw[← HW1.out];have y4:W1.cell? ⟨w.heap.size,4,none⟩=some (.slice (some ad) 1 hc):=H1.out.cell 4;clear HW1;go_wp2_with fail;clear y4;go_loopw [4,13] (fun v i wr=>∃ k:Nat,i=.int .i64 k∧k≤1∧Hid (RrFst W1 wr k v (zd0 l r m))) (fun _ i _=>1 - (intOf i).toNat)
 case atStart=>exact⟨0,rfl,Nat.zero_le _,hd_ ⟨Below.refl _ _,fun _=>rfl,fun e=>by omega⟩⟩
 case round =>
  obtain⟨k,rfl,hk,HI⟩:=hrel;by_cases hlt:k<1
  ·have hk0:k=0:=by omega
   subst hk0;obtain⟨hlow,hv,-⟩:=HI.out;have hv:=hv rfl;subst hv;obtain⟨s0,s1⟩:=HC.out wr (z0r HA.out hlow);have hX:Below wr.heap.size wr (wr.alloc (.cells #[.slice B h.parts.length b,.bool h.rest] 68)):=(Below.refl _ _).alloc (Nat.le_refl _) _;have HX5:Hid (zbt _ _ _ _):=hd_ (z0l wr [.slice B h.parts.length b,.bool h.rest] 68);have HL5:=hd_ (z0r hlow hX);clear hX hlow HI;go_upto_region 5 with fail;clear s0 s1;generalize wr.alloc (.cells #[.slice B h.parts.length b,.bool h.rest] 68)=W5 at HX5 HL5 ⊢;generalize wr.heap.size=g6 at HX5 ⊢;have HWA:=hd_ (z0r HA.out HL5.out);refine rrR5 _ (by kernel_rfl) _ l r h m A B C (some ad) a b c 1 hc w.heap.size g6 W5 (H1.out.below HL5.out H1.out.lt) HX5.out (HL.out W5 HWA.out) (HH.out W5 HWA.out) (HR.out W5 HWA.out) HN.out HSY.out ?_
   intro eu ez eA eB eC eD eE eF g7 A' C' a' c' w' hb' hc3 hc4 hg7 hin;have HB7:=hd_ (z0r HL5.out hb');have HIN:=hd_ hin;have hc4':w'.cell? ⟨g7,4,none⟩=some (.bool (zd0 l r m).rest):=by rw[hc4,HR2.out]
   clear hb' hg7 hin hc4;have hrow:=z0i w' [.slice C' (zd0 l r m).parts.length c',.bool (zd0 l r m).rest] 68 2 1 rfl (by unfold maxLen;omega) w'.heap.size rfl
   have HON:=hd_ (World.ownsRow_nil (w'.alloc (.cells #[.slice C' (zd0 l r m).parts.length c',.bool (zd0 l r m).rest] 68)) w'.heap.size 68 2);have HB8:=hd_ (z0r HB7.out ((Below.refl w'.heap.size w').alloc (Nat.le_refl _) (.cells #[.slice C' (zd0 l r m).parts.length c',.bool (zd0 l r m).rest] 68)));have HIN8:=hd_ (HIN.out.below ((Below.refl w'.heap.size w').alloc (Nat.le_refl _) (.cells #[.slice C' (zd0 l r m).parts.length c',.bool (zd0 l r m).rest] 68)));go_wp2_with (at_builtin;refine z0j rfl rfl zdi HON.out rfl hrow rfl (by simp [Value.oneCell']) (by omega) (by unfold maxLen;omega) (by simp) ?_;intro A9 c9 w8 hown hgr hob)
   have hb8:=zlv hgr rfl;have HN9:Hid (RrFst W1 w8 1 (.slice A9 (0+1) c9) (zd0 l r m)):=hd_ (by
    obtain⟨g,rfl,hcc,q0,q1⟩:=znd hown;exact⟨z0r HB8.out hb8,fun e=>by omega,fun _=>⟨g,c9,c',C',rfl,hcc,q0,q1,HIN8.out.below hb8⟩⟩)
   clear hown hgr hob hb8 hrow hc3 hc4';go_roundw
   case rel=>exact⟨1,by go_num,Nat.le_refl _,HN9⟩
   case measure=>simp [intOf]
  ·have hk1:k=1:=by omega
   subst hk1;obtain⟨hlow,-,hx⟩:=HI.out;obtain⟨g,cap,c7,C7,rfl,hcap,q0,q1,hin⟩:=hx rfl;have HB:=hd_ (z0r HA.out hlow);have hX3:=H1.out.below hlow H1.out.lt;obtain⟨y2,y3⟩:=(⟨hX3.cell 2,hX3.cell 3⟩:wr.cell? ⟨w.heap.size,2,none⟩=some (.slice C r.parts.length c)∧wr.cell? ⟨w.heap.size,3,none⟩=some (.bool r.rest));have HS:=hd_ (zne r (zd0 l r m) C C7 c c7 g cap wr (HR.out wr HB.out) hin HS2.out hcap q0 q1);have HE2:=hd_ (H2.out.below hlow H2.out.lt);clear hlow hx hX3 q0 q1 hin HI;go_wp2_with fail;refine HS.out.mono ?_;rintro e w2 ⟨hb,H9,n9,c9,rfl⟩;dsimp only;have HB2:=hd_ (z0r HB.out hb);have HX2:=hd_ (HE2.out.below hb HE2.out.lt);obtain⟨u0,u1,u2⟩:=(⟨HX2.out.cell 0,HX2.out.cell 1,HX2.out.cell 2⟩:w2.cell? ⟨w.heap.size+1,0,none⟩=some (.slice none 0 0)∧w2.cell? ⟨w.heap.size+1,1,none⟩=some (.bool false)∧w2.cell? ⟨w.heap.size+1,2,none⟩=some (.slice none 0 0));obtain⟨f0,f1,f2⟩:=(⟨HX2.out.frozen 0,HX2.out.frozen 1,HX2.out.frozen 2⟩:w2.frozen? ⟨w.heap.size+1,0,none⟩=false∧w2.frozen? ⟨w.heap.size+1,1,none⟩=false∧w2.frozen? ⟨w.heap.size+1,2,none⟩=false);clear hb y2 y3 HS;go_wp2_with fail;have hE:=((HX2.out.set_ 0 (.slice C r.parts.length c)).set_ 1 (.bool r.rest)).set_ 2 (.slice H9 n9 c9);have hb:=((HB2.out.setCell (p:=⟨w.heap.size+1,0,none⟩) (by simp) (.slice C r.parts.length c)).setCell (p:=⟨w.heap.size+1,1,none⟩) (by simp) (.bool r.rest)).setCell (p:=⟨w.heap.size+1,2,none⟩) (by simp) (.slice H9 n9 c9)
   generalize ((w2.setCell ⟨w.heap.size+1,0,none⟩ (.slice C r.parts.length c)).setCell ⟨w.heap.size+1,1,none⟩ (.bool r.rest)).setCell ⟨w.heap.size+1,2,none⟩ (.slice H9 n9 c9)=W8 at hE hb ⊢;have e0:=hE.cell 0;have e1:=hE.cell 1;have e2:=hE.cell 2;exact bodyPost_ret (v:=.tuple #[.agg #[.slice C r.parts.length c,.bool r.rest,.slice H9 n9 c9],.bool true]) (by simp [results,results31,go_sem,e0,e1,e2]) rfl ⟨hb,H9,n9,c9,rfl⟩
theorem znl (w:World)(A:Option Addr)(c:Nat)(es:List zdd)(P:Ending→World→Prop)(hE:zdn w (.slice A es.length c) es)(hl:es.length≤32)
  (hK:∀ x∈es,∀ X,Below w.heap.size w X→Calls prog 27 #[.agg #[.bool false,x.l.v,.bool x.l.1.rest,x.r.v,.bool x.r.1.rest]] X fun e w'=>e=.returned (.int .i64 0)∧Below X.heap.size X w')
  (hG:∀ x∈es,∀ X,Below w.heap.size w X→Calls prog 29 #[.agg #[x.l.v,.bool x.l.1.rest,x.hv]] X fun e w'=>e=.returned (.int .i64 0)∧Below X.heap.size X w')
  (hR:∀ x∈es,∀ X,Below w.heap.size w X→Calls prog 31 #[x.val] X (znf X x.r.v x.r.1.rest))
  (hT16:∀ T',Tryz.f7.body.bind (zi2 16)=some T'→∀ W',Below w.heap.size w W'→∀(u1 u2 u3 u4 u5 u6 u7 u8 u9 gz gA gC gD gE gF gG gH gI gJ gK gL gM gN gO gP gQ gR gT gV gW gX gY gZ i6 i7 i8 ia ib ic ie ig ii ij ik il im io ip iq ir iu iv iw ix iy iz iA iB iC iD iE iF iG iH iI iJ iK iL iM iN iO iP iQ iR iS iT iU iV iW iX iY iZ j0 j1 j2 j5 j6 j7 j8 j9 jb:Value),T'.wp prog (bodyPost prog Tryz.f7 P) ⟨#[.slice A es.length c,u1,u2,u3,u4,u5,u6,u7,u8,u9,gz,gA,gC,gD,gE,gF,gG,gH,gI,gJ,gK,gL,gM,gN,gO,gP,gQ,gR,gT,gV,gW,gX,gY,gZ,i6,i7,i8,ia,ib,ic,ie,ig,ii,ij,ik,il,im,io,ip,iq,ir,iu,iv,iw,ix,iy,iz,iA,iB,iC,iD,iE,iF,iG,iH,iI,iJ,iK,iL,iM,iN,iO,iP,iQ,iR,iS,iT,iU,iV,iW,iX,iY,iZ,j0,j1,j2,j5,j6,j7,j8,j9,jb],[]⟩ W'):
  Calls prog 7 #[.slice A es.length c] w P:=by
 have HE:=hd_ (fun X (hX:Below w.heap.size w X)=>hE.below hX);have HR:=hd_ hR;have HK:=hd_ hK;have HG:=hd_ hG;have HT:=hd_ hT16;clear hE hR hT16 hK hG;go_enter func7,ntmps7;go_wp2_with fail;go_loopw [20] (fun i wr=>∃ k:Nat,i=.int .i64 k∧k≤es.length∧Hid (Below w.heap.size w wr)) (fun i _=>es.length - (intOf i).toNat)
 case atStart=>exact⟨0,rfl,Nat.zero_le _,hd_ (Below.refl _ _)⟩
 case round =>
  obtain⟨k,rfl,hk,HI⟩:=hrel;by_cases hlt:k<es.length
  ·have HEX:=hd_ (HE.out wr HI.out);obtain⟨ad,rfl,hab,s0,s1,s2,s3,s4⟩:=HEX.out.at_ hlt;have HXI:=hd_ (HEX.out.2 es[k] (List.getElem_mem hlt));have HXK:=hd_ (HK.out es[k] (List.getElem_mem hlt));have HXG:=hd_ (HG.out es[k] (List.getElem_mem hlt));generalize es[k]=x at s0 s1 s2 s3 s4 HXI HXK HXG;obtain⟨H,hc,hhv⟩:=HXI.out.holes;obtain⟨⟨pl,Al,cl⟩,⟨pr,Ar,cr⟩,hv,hs⟩:=x;change hv=.slice H hs.length hc at hhv;subst hhv;change wr.cell? _=some (.slice Al pl.parts.length cl) at s0;change wr.cell? _=some (.bool pl.rest) at s1;change wr.cell? _=some (.slice Ar pr.parts.length cr) at s2;change wr.cell? _=some (.bool pr.rest) at s3;change wr.cell? _=some (.slice H hs.length hc) at s4;have hX:Below wr.heap.size wr (wr.alloc (.cells #[.slice Al pl.parts.length cl,.bool pl.rest,.slice Ar pr.parts.length cr,.bool pr.rest,.slice H hs.length hc] 71)):=(Below.refl _ _).alloc (Nat.le_refl _) _;have HX:=hd_ (z0r HI.out hX);have HN:Hid (Blk (wr.alloc (.cells #[.slice Al pl.parts.length cl,.bool pl.rest,.slice Ar pr.parts.length cr,.bool pr.rest,.slice H hs.length hc] 71)) wr.heap.size 71 [.slice Al pl.parts.length cl,.bool pl.rest,.slice Ar pr.parts.length cr,.bool pr.rest,.slice H hs.length hc]):=hd_ (z0l wr _ _);clear hab hX;go_upto_region 4 with fail;generalize wr.alloc (.cells #[.slice Al pl.parts.length cl,.bool pl.rest,.slice Ar pr.parts.length cr,.bool pr.rest,.slice H hs.length hc] 71)=W4 at HX HN ⊢;generalize wr.heap.size=g7 at HN ⊢;clear s0 s1 s2 s3 s4;obtain⟨x0,x1,x2,x3,x4⟩:=(⟨HN.out.cell 0,HN.out.cell 1,HN.out.cell 2,HN.out.cell 3,HN.out.cell 4⟩:W4.cell? ⟨g7,0,none⟩=some (.slice Al pl.parts.length cl)∧W4.cell? ⟨g7,1,none⟩=some (.bool pl.rest)∧W4.cell? ⟨g7,2,none⟩=some (.slice Ar pr.parts.length cr)∧W4.cell? ⟨g7,3,none⟩=some (.bool pr.rest)∧W4.cell? ⟨g7,4,none⟩=some (.slice H hs.length hc));have HLI:=hd_ (zn9 Al Ar pl.parts.length pr.parts.length cl cr pl.rest pr.rest (.slice H hs.length hc) W4);go_wp2_with fail;refine HLI.out.mono ?_;rintro e w5 ⟨rfl,hb5⟩;dsimp only;have HB5:=hd_ (z0r HX.out hb5)
   have HN5:=hd_ (HN.out.below hb5 HN.out.lt);have HC5:Hid (Calls prog 27 #[.agg #[.bool false,.slice Al pl.parts.length cl,.bool pl.rest,.slice Ar pr.parts.length cr,.bool pr.rest]] w5 fun e w'=>e=.returned (.int .i64 0)∧Below w5.heap.size w5 w'):=hd_ (HXK.out w5 HB5.out);clear hb5 x0 x1 x2 x3 x4 HLI;go_wp2_with fail;refine HC5.out.mono ?_;rintro e w6 ⟨rfl,hb6⟩;dsimp only;have HB6:=hd_ (z0r HB5.out hb6);have HN6:=hd_ (HN5.out.below hb6 HN5.out.lt);clear hb6 HC5;obtain⟨x0,x1,x2,x3,x4⟩:=(⟨HN6.out.cell 0,HN6.out.cell 1,HN6.out.cell 2,HN6.out.cell 3,HN6.out.cell 4⟩:w6.cell? ⟨g7,0,none⟩=some (.slice Al pl.parts.length cl)∧w6.cell? ⟨g7,1,none⟩=some (.bool pl.rest)∧w6.cell? ⟨g7,2,none⟩=some (.slice Ar pr.parts.length cr)∧w6.cell? ⟨g7,3,none⟩=some (.bool pr.rest)∧w6.cell? ⟨g7,4,none⟩=some (.slice H hs.length hc));have HLE:=hd_ (zna Al H pl.parts.length cl hs.length hc pl.rest pr.rest (.slice Ar pr.parts.length cr) w6);go_wp2_with fail;refine HLE.out.mono ?_;rintro e w7 ⟨rfl,hb7⟩;dsimp only;have HB7:=hd_ (z0r HB6.out hb7);have HC7:Hid (Calls prog 29 #[.agg #[.slice Al pl.parts.length cl,.bool pl.rest,.slice H hs.length hc]] w7 fun e w'=>e=.returned (.int .i64 0)∧Below w7.heap.size w7 w'):=hd_ (HXG.out w7 HB7.out);clear hb7 x0 x1 x2 x3 x4 HLE;go_wp2_with fail;refine HC7.out.mono ?_;rintro e w8 ⟨rfl,hb8⟩;dsimp only;have HB8:=hd_ (z0r HB7.out hb8);clear hb8 HC7;go_wp2_with fail;go_roundw
   case rel=>exact⟨k+1,by go_num,by omega,HB8⟩
   case measure=>simp [intOf];omega
  ·have hke:k=es.length:=by omega
   subst hke;have HB:=hd_ HI.out;have hge:¬((es.length:Int)<(es.length:Int)):=by omega
   have h32:¬((32:Int)<(es.length:Int)):=by omega
   have HT9:=hd_ (fun(T:Code) hT=>rcT9 T hT P wr A c es (HE.out wr HB.out) hl (fun x hx X hX=>HR.out x hx X (z0r HB.out hX)) (fun T' hT' W' hW'=>HT.out T' hT' W' (z0r HB.out hW')));clear HI;go_upto_region 7 with fail;rename ∀ a w,Code.wp _ (Code.seq (Code.seq (Code.region 9 _ _) _) _) _ a w→_=>hk7
   have HK7:=hd_ hk7;clear hk7;go_wp2_with fail;exact HK7.out _ _ (HT9.out _ (by kernel_rfl) _ _ _ _ _ _ _ _ _ _ _ _ _ _ _ _ _ _ _ _ _ _ _ _ _ _ _ _ _ _ _ _ _ _ _ _ _ _ _ _ _ _ _ _ _ _ _ _ _ _ _ _ _ _ _ _ _ _ _ _ _ _ _ _ _ _ _ _ _ _ _ _ _ _ _ _ _ _ _ _ _ _ _ _ _ _ _ _ _ _ _)
