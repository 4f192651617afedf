/- A part of the proof. -/
import Derived.Test.YtegeboijhifmcaaGreatDoorMgw30
set_option linter.unusedVariables false
set_option linter.unusedSimpArgs false
set_option maxHeartbeats 16000000
set_option maxRecDepth 100000
namespace Go.Proofs.YtegeboijhifmcaaGreatDoor
open Go.RowKit
theorem add_c (a:Int):((a == 1)=true∧(a == 4)=false)∨((a == 1)=false∧(a == 4)=true)∨((a == 1)=false∧(a == 4)=false):=by
 by_cases h1:a=1
 ·subst h1;exact .inl ⟨rfl,rfl⟩
 ·by_cases h4:a=4
  ·subst h4;exact .inr (.inl ⟨rfl,rfl⟩)
  ·exact .inr (.inr ⟨by simpa using h1,by simpa using h4⟩)
theorem weT8 (T:Code)(hT:Tryz.f126.body.bind (zhv 8)=some T)(R:Ending→World→Prop)(revs:List Rev)(c:Chg)(x:Edt)(Ar Ae Ac:Option Addr)(dr:Value)(cr ce cc g3 g4 g7:Nat)(w3:World)
  (hR:z45 w3 (.slice Ar revs.length cr) revs) (hl:revs.length≤100000)
  (hD:Blk w3 g3 26 [.slice Ar revs.length cr,dr]) (hC:Blk w3 g4 95 [.int .i64 c.num,.string c.client,.string c.text,.slice Ae c.edits.length ce,.slice Ac c.recs.length cc]) (hX:Blk w3 g7 90 [.string x.path,.int .i64 x.act,.int .i64 x.ty.base,.bool x.ty.k,.bool x.ty.l,.bool x.ty.x,.int .u64 x.sum,.int .i64 x.size,.int .i64 x.base,.string x.frm,.int .i64 x.fnum,.int .i64 x.fence])
  (hRR:∀(n:Int) (w':World),Below w3.heap.size w3 w'→R (.returned (.int .i64 n)) w')
  (u0 u1 u2 u5 u6 u8 u9 gu gx gy gz gA gC gD gE gF gG gH gI gJ gK gL gM gN gO gP gQ gR gT gV gW gX gY gZ i6 i7 i8 ia ib ic ie ig ii ij ik il im io ip iq ir iu iv iw ix iy iz iA iB iC iD iE iF iG iH iI iJ iK iL iM iN iO iP iQ iR iS iT iU iV iW iX iY iZ j0 j1 j2 j5 j6 j7 j8 j9 jb jd je jf bw bz bA bB bD bE bF bG bH bI bJ bK bL bM bN bO bP bQ bT bU bV bW bX bY bZ ca cj ck cn cx cy cz cA cB cD cE cG cH cI cJ cM cN cO cP cQ cT cU cW:Value) (lv:Bool) (ln:Int) (hbs:0≤x.base∧x.base≤1000000):
  T.wp Tryz.prog (bodyPost Tryz.prog Tryz.f126 R) ⟨#[u0,u1,u2,.pointer (some ⟨g3,0,none⟩),.pointer (some ⟨g4,0,none⟩),u5,u6,.pointer (some ⟨g7,0,none⟩),u8,u9,.bool lv,.int .i64 ln,gu,gx,gy,gz,gA,gC,gD,gE,gF,gG,gH,gI,gJ,gK,gL,gM,gN,gO,gP,gQ,gR,gT,gV,gW,gX,gY,gZ,i6,i7,i8,ia,ib,ic,ie,ig,ii,ij,ik,il,im,io,ip,iq,ir,iu,iv,iw,ix,iy,iz,iA,iB,iC,iD,iE,iF,iG,iH,iI,iJ,iK,iL,iM,iN,iO,iP,iQ,iR,iS,iT,iU,iV,iW,iX,iY,iZ,j0,j1,j2,j5,j6,j7,j8,j9,jb,jd,je,jf,bw,bz,bA,bB,bD,bE,bF,bG,bH,bI,bJ,bK,bL,bM,bN,bO,bP,bQ,bT,bU,bV,bW,bX,bY,bZ,ca,cj,ck,cn,cx,cy,cz,cA,cB,cD,cE,cG,cH,cI,cJ,cM,cN,cO,cP,cQ,cT,cU,cW],[]⟩ w3:=by
 simp only[Tryz.f126,Option.bind_some,zhv,zhu] at hT
 simp at hT
 subst hT;have HRR:=hd_ hRR;have HR:=hd_ hR;have HBS:=hd_ hbs;have HX3:=hd_ hX;have HD3:=hd_ hD;have HC3:=hd_ hC;have HLIVE:=hd_ (fun p X (hX:Below w3.heap.size w3 X)=>zi2 revs p (.slice Ar revs.length cr) dr X (HR.out.below hX) (by omega))
 have HT18:=hd_ (fun T hT R W hR hbs hD hC hX hRR=>weT18 T hT R revs c x Ar Ae Ac dr cr ce cc g3 g4 g7 W hR hl hbs hD hC hX hRR);clear hRR hR hD hC hX;obtain⟨c0,c1,c2,c3,c4,c5,c6,c7,c8,c9,c10,c11⟩:=z7z HX3.out;dsimp only;go_upto_region 8 with fail;go_cut [76] (fun v wx=>∃ bb,v=.bool bb∧Hid (wx=w3))
 case first =>
  by_cases hlt1:x.act<1
  case pos =>
   have q:decide (x.act<1)=true:=by simp;omega
   clear hlt1;go_wp2_with fail;go_meet
   exact⟨true,rfl,rfl⟩
  have dlt:decide (x.act<1)=false:=by simp;omega
  by_cases hgt5:5<x.act
  case pos =>
   have q:decide (5<x.act)=true:=by simp;omega
   clear hlt1 hgt5;go_wp2_with fail;go_meet
   exact⟨true,rfl,rfl⟩
  have dgt:decide (5<x.act)=false:=by simp;omega
  clear hlt1 hgt5;rcases add_c x.act with⟨q1,q4⟩ | ⟨q1,q4⟩ | ⟨q1,q4⟩
  all_goals
   cases lv
   all_goals
    go_wp2_with fail;go_meet
    first
     | exact⟨true,rfl,rfl⟩
     | exact⟨false,rfl,rfl⟩
 case rest =>
  obtain⟨bb,rfl,HBB⟩:=hcut;obtain rfl:wc=w3:=HBB.out
  cases bb with
  | true =>
   clear HBB;go_wp2_with fail;exact HRR.out _ _ (Below.refl _ _)
  | false =>
   clear HBB;by_cases hbb:x.base=ln
   case neg =>
    have qb:(x.base != ln)=true:=by simpa using hbb
    clear hbb;go_wp2_with fail;exact HRR.out _ _ (Below.refl _ _)
   have qb:(x.base != ln)=false:=by simpa using hbb
   clear hbb;go_upto_if 83 with fail
   clear qb;go_cut [] (fun wx=>Hid (Below wc.heap.size wc wx))
   case first =>
    by_cases h4:x.act=4
    ·have q4:(x.act == 4)=true:=by simpa using h4
     clear h4;obtain⟨d0,d1,-,-⟩:=box2 HD3.out;have HLV2:=hd_ (HLIVE.out x.frm wc (Below.refl _ _));go_wp2_with fail;refine HLV2.out.mono ?_;rintro e w4 ⟨rfl,hb4⟩;have HW4:=hd_ hb4;have HX4:=hd_ (HX3.out.below hb4 HX3.out.lt);clear hb4 d0 d1 c0 c1 c2 c3 c4 c5 c6 c7 c8 c9 c10 c11;obtain⟨c0,c1,c2,c3,c4,c5,c6,c7,c8,c9,c10,c11⟩:=z7z HX4.out;generalize zi0 revs x.frm=lv2;generalize (zec (zgs revs x.frm)).num=fn2;cases lv2 with
     | false =>
      go_wp2_with fail;exact HRR.out _ _ HW4.out
     | true =>
      by_cases hfn:x.fnum=fn2
      case neg =>
       have qf:(fn2 != x.fnum)=true:=by simp;exact fun h=>hfn h.symm
       clear hfn;go_wp2_with fail;exact HRR.out _ _ HW4.out
      have qf:(fn2 != x.fnum)=false:=by simp [hfn]
      have sq:=ze7 x.frm x.path;by_cases hfp:x.frm=x.path
      case pos =>
       rw[decide_eq_true hfp] at sq;clear hfp hfn;go_wp2_with fail;exact HRR.out _ _ HW4.out
      rw[decide_eq_false hfp] at sq;clear hfp hfn;go_wp2_with fail;go_meet
      exact HW4
    ·have q4:(x.act == 4)=false:=by simpa using h4
     clear h4;by_cases hfr:x.frm=z2l
     case neg =>
      have s1:=ze6 hfr;have s2:=ze5 hfr;clear hfr;go_wp2_with fail;exact HRR.out _ _ (Below.refl _ _)
     have s1:=ze4 hfr;by_cases hfn:x.fnum=0
     case neg =>
      have qf:(x.fnum != 0)=true:=by simpa using hfn
      clear hfr hfn;go_wp2_with fail;exact HRR.out _ _ (Below.refl _ _)
     have qf:(x.fnum != 0)=false:=by simpa using hfn
     clear hfr hfn;go_wp2_with fail;go_meet
     exact hd_ (Below.refl _ _)
   case rest =>
    rename_i wc2
    have HW4:=hd_ hcut.out;clear hcut;have hk:=‹∀(a:Act) (w:World),Code.wp _ _ _ a w→_›;refine hk _ _ (HT18.out _ (by kernel_rfl) _ _ (HR.out.below HW4.out) HBS.out (HD3.out.below HW4.out HD3.out.lt) (HC3.out.below HW4.out HC3.out.lt) (HX3.out.below HW4.out HX3.out.lt) (fun n w' hb=>HRR.out n w' (z0r HW4.out hb)) _ _ _ _ _ _ _ _ _ _ _ _ _ _ _ _ _ _ _ _ _ _ _ _ _ _ _ _ _ _ _ _ _ _ _ _ _ _ _ _ _ _ _ _ _ _ _ _ _ _ _ _ _ _ _ _ _ _ _ _ _ _ _ _ _ _ _ _ _ _ _ _ _ _ _ _ _ _ _ _ _ _ _ _ _ _ _ _ _ _ _ _ _ _ _ _ _ _ _ _ _ _ _ _ _ _ _ _ _ _ _ _ _ _ _ _ _ _ _ _ _ _ _ _ _ _ _ _ _ _ _ _ _ _ _ _ _ _ _ _ _ _ _ _ _)
def zi4 (w:World)(e:Ending)(w':World):Prop:=(∃ n:Int,e=.returned (.int .i64 n))∧Below w.heap.size w w'
theorem zi5 (d:Dep)(c:Chg)(dv dr:Value)(Ae Ac:Option Addr)(ce cc i:Nat)(w:World)(he:Env w)(hR:z45 w dv d.revs)(hl:d.revs.length≤100000)(hE:z47 w (.slice Ae c.edits.length ce) c.edits)(hi:i<c.edits.length)(hel:c.edits.length≤100000)
  (hsz:∀ e∈c.edits,e.path.size≤2000000∧0≤e.base∧e.base≤1000000):
  Calls Tryz.prog 126 #[.agg #[dv,dr],.agg #[.int .i64 c.num,.string c.client,.string c.text,.slice Ae c.edits.length ce,.slice Ac c.recs.length cc],.int .i64 i] w (zi4 w):=by
 obtain⟨Ar,cr,rfl,-⟩:=id hR;have HR:=hd_ hR;have HE:=hd_ hE;have HEN:=hd_ he;have HLIVE:=hd_ (fun p X (hX:Below w.heap.size w X)=>zi2 d.revs p (.slice Ar d.revs.length cr) dr X (HR.out.below hX) (by omega))
 have HSZ:=hd_ hsz;clear hR hE he hsz;have hb0:Below w.heap.size w ((w.alloc (.cells #[.slice Ar d.revs.length cr,dr] 26)).alloc (.cells #[.int .i64 c.num,.string c.client,.string c.text,.slice Ae c.edits.length ce,.slice Ac c.recs.length cc] 95)):=((Below.refl _ _).alloc (Nat.le_refl _) _).alloc (by simp) _
 have hC:Blk ((w.alloc (.cells #[.slice Ar d.revs.length cr,dr] 26)).alloc (.cells #[.int .i64 c.num,.string c.client,.string c.text,.slice Ae c.edits.length ce,.slice Ac c.recs.length cc] 95)) (w.heap.size+1) 95 [.int .i64 c.num,.string c.client,.string c.text,.slice Ae c.edits.length ce,.slice Ac c.recs.length cc]:=by
  have h1:=z0l (w.alloc (.cells #[.slice Ar d.revs.length cr,dr] 26)) [.int .i64 c.num,.string c.client,.string c.text,.slice Ae c.edits.length ce,.slice Ac c.recs.length cc] 95;simp only[World.size_alloc] at h1
  exact h1
 have hD:Blk ((w.alloc (.cells #[.slice Ar d.revs.length cr,dr] 26)).alloc (.cells #[.int .i64 c.num,.string c.client,.string c.text,.slice Ae c.edits.length ce,.slice Ac c.recs.length cc] 95)) w.heap.size 26 [.slice Ar d.revs.length cr,dr]:=(z0l w _ _).alloc _;have hld0:=fun X (hX:Below w.heap.size w X)=>z47.at_ (HE.out.below hX) hi;have HXM0:=hd_ (HSZ.out _ (List.getElem_mem hi));generalize c.edits[i]=x at hld0 HXM0;have HXM:Hid (x.path.size≤2000000):=hd_ HXM0.out.1;have HLD:=hd_ hld0;clear hld0;have HT8:=hd_ (fun T hT R g3 g4 g7 W hR hD hC hX hRR=>weT8 T hT R d.revs c x Ar Ae Ac dr cr ce cc g3 g4 g7 W hR hl hD hC hX hRR);go_enter Tryz.func126,Tryz.ntmps126;go_upto_region 1 with fail;generalize (w.alloc (.cells #[.slice Ar d.revs.length cr,dr] 26)).alloc (.cells #[.int .i64 c.num,.string c.client,.string c.text,.slice Ae c.edits.length ce,.slice Ac c.recs.length cc] 95)=W1 at hb0 hC hD ⊢;obtain⟨k0,k1,k2,k3,k4⟩:=zhx hC;obtain⟨ad,rfl,hab,hld⟩:=HLD.out _ hb0;have hiz:(i:Int)<(c.edits.length:Int):=by omega
 obtain⟨x0,x1,x2,x3,x4,x5,x6,x7,x8,x9,x10,x11⟩:=hld;have hX:=z0l W1 [.string x.path,.int .i64 x.act,.int .i64 x.ty.base,.bool x.ty.k,.bool x.ty.l,.bool x.ty.x,.int .u64 x.sum,.int .i64 x.size,.int .i64 x.base,.string x.frm,.int .i64 x.fnum,.int .i64 x.fence] 90;have hA1:=hb0.alloc hb0.size (.cells #[.string x.path,.int .i64 x.act,.int .i64 x.ty.base,.bool x.ty.k,.bool x.ty.l,.bool x.ty.x,.int .u64 x.sum,.int .i64 x.size,.int .i64 x.base,.string x.frm,.int .i64 x.fnum,.int .i64 x.fence] 90);have HC1:=hd_ (hC.alloc (.cells #[.string x.path,.int .i64 x.act,.int .i64 x.ty.base,.bool x.ty.k,.bool x.ty.l,.bool x.ty.x,.int .u64 x.sum,.int .i64 x.size,.int .i64 x.base,.string x.frm,.int .i64 x.fnum,.int .i64 x.fence] 90));have HD1:=hd_ (hD.alloc (.cells #[.string x.path,.int .i64 x.act,.int .i64 x.ty.base,.bool x.ty.k,.bool x.ty.l,.bool x.ty.x,.int .u64 x.sum,.int .i64 x.size,.int .i64 x.base,.string x.frm,.int .i64 x.fnum,.int .i64 x.fence] 90));go_upto_region 2 with fail;clear x0 x1 x2 x3 x4 x5 x6 x7 x8 x9 x10 x11 k0 k1 k2 k3 k4 hC hD hb0;generalize W1.alloc (.cells #[.string x.path,.int .i64 x.act,.int .i64 x.ty.base,.bool x.ty.k,.bool x.ty.l,.bool x.ty.x,.int .u64 x.sum,.int .i64 x.size,.int .i64 x.base,.string x.frm,.int .i64 x.fnum,.int .i64 x.fence] 90)=W2 at hX hA1 HC1 HD1 ⊢;generalize W1.heap.size=g7 at hX ⊢;have HX1:=hd_ hX;have HW1:=hd_ hA1;clear hX hA1;obtain⟨c0,c1,c2,c3,c4,c5,c6,c7,c8,c9,c10,c11⟩:=z7z HX1.out;cases hdp:z2q x.path.data.toList 2 with
 | none =>
  have HPN:=hd_ (z92 x.path W2 (HEN.out.below HW1.out) HXM.out hdp);clear hdp;go_wp2_with fail;refine HPN.out.mono ?_;rintro e w2 ⟨rfl,hb2⟩;have HB2:=hd_ hb2;clear hb2;go_wp2_with fail;go_ret;exact⟨⟨_,rfl⟩,z0r HW1.out HB2.out⟩
 | some ps =>
  have HPS:=hd_ (z91 x.path ps W2 (HEN.out.below HW1.out) HXM.out hdp);have hA2:Below W2.heap.size W2 (W2.alloc (.cells (z6v ps).toArray 9)):=(Below.refl _ _).alloc (Nat.le_refl _) _;clear hdp;go_wp2_with fail;refine HPS.out.mono ?_;rintro e w2 ⟨rfl,rfl⟩;have HX2:=hd_ (HX1.out.below hA2 HX1.out.lt);have HC2:=hd_ (HC1.out.below hA2 HC1.out.lt);have HD2:=hd_ (HD1.out.below hA2 HD1.out.lt);have HW2:=hd_ (z0r HW1.out hA2);clear hA2 c0 c1 c2 c3 c4 c5 c6 c7 c8 c9 c10 c11;generalize W2.alloc (.cells (z6v ps).toArray 9)=w2 at HX2 HC2 HD2 HW2 ⊢;generalize Value.slice (some ⟨W2.heap.size,0,none⟩) ps.length ps.length=pv;obtain⟨c0,c1,c2,c3,c4,c5,c6,c7,c8,c9,c10,c11⟩:=z7z HX2.out;by_cases h200:200<x.path.size
  case pos =>
   have q:decide ((200:Int)<(x.path.size:Int))=true:=by simp;omega
   clear h200;go_wp2_with fail;go_ret;exact⟨⟨_,rfl⟩,HW2.out⟩
  have q:decide ((200:Int)<(x.path.size:Int))=false:=by simp;omega
  clear h200;go_upto_region 5 with fail;clear q;go_cut [49] (fun v wx=>∃ bb,v=.bool bb∧Hid (Below w2.heap.size w2 wx))
  case first =>
   by_cases h0:i=0
   ·have d0:decide (0<i)=false:=by simp;omega
    have d1:decide ((0:Int)<(i:Int))=false:=by simp;omega
    clear h0;go_quiet (fail)
    go_wp2_with fail;go_meet
    exact⟨false,rfl,hd_ (z0p (Below.refl _ _) _)⟩
   ·obtain⟨j,rfl⟩:∃ j,i=j+1:=⟨i - 1,by omega⟩
    have hj:j<c.edits.length:=by omega
    obtain⟨ad2,had,hab2,hld2⟩:=z47.at_ (HE.out.below HW2.out) hj;injection had with had
    subst had;have HSY:=hd_ (HSZ.out _ (List.getElem_mem hj));generalize c.edits[j]=y at hld2 HSY;have e0:=hld2.1;obtain⟨k0,k1,k2,k3,k4⟩:=zhx HC2.out;have d0:decide (0<j+1)=true:=by simp
    have d1:decide ((0:Int)<((j+1:Nat):Int))=true:=decide_eq_true (by omega)
    have d2:decide ((0:Int)<(j:Int)+1)=true:=decide_eq_true (by omega)
    have hwp:IntKind.i64.wrap (j:Int)=(j:Int):=by rw[IntKind.wrap_i64];omega
    have hjz:(j:Int)<(c.edits.length:Int):=by omega
    have HOR:=hd_ (fun X (hX:Below w2.heap.size w2 X)=>zhq y.path x.path X (HEN.out.below (z0r HW2.out hX)) HSY.out.1 HXM.out);clear hld2 h0;refine wp_region_noPanic ?_;first
     | go_region_law (go_simp;go_at_call 175;refine (HOR.out _ (Below.refl _ _).drew).mono ?_;rintro e w5 ⟨n,rfl,hb5,hn⟩;have HB5:=hd_ ((Below.refl w2.heap.size w2).drew.trans hb5);clear hb5 hn)
     | fail
    all_goals
     refine NoPanic.normal ?_;go_wp2_with fail;go_meet
     exact⟨decide (0≤n),rfl,HB5⟩
  case rest =>
   obtain⟨bb,rfl,HBB⟩:=hcut;have HW3:=hd_ (z0r HW2.out HBB.out);have HX3:=hd_ (HX2.out.below HBB.out HX2.out.lt);have HD3:=hd_ (HD2.out.below HBB.out HD2.out.lt);have HC3:=hd_ (HC2.out.below HBB.out HC2.out.lt);cases bb with
   | true =>
    go_wp2_with fail;go_ret;exact⟨⟨_,rfl⟩,HW3.out⟩
   | false =>
    clear HBB;generalize wc=w30 at HW3 HX3 HD3 HC3 ⊢;obtain⟨d0,d1,-,-⟩:=box2 HD3.out;obtain⟨c0,c1,c2,c3,c4,c5,c6,c7,c8,c9,c10,c11⟩:=z7z HX3.out;have HLV1:=hd_ (HLIVE.out x.path w30 HW3.out);go_upto_region 7 with fail;go_cut [10,11] (fun v10 v11 wx=>∃(lv:Bool) (ln:Int),v10=.bool lv∧v11=.int .i64 ln∧Hid (Below w30.heap.size w30 wx))
    case first =>
     go_wp2_with fail;refine HLV1.out.mono ?_;rintro e w3 ⟨rfl,hb3⟩;have HB3:=hd_ hb3;clear hb3;go_wp2_with fail;go_meet
     exact⟨_,_,rfl,rfl,HB3⟩
    case rest =>
     obtain⟨lv,ln,rfl,rfl,HV⟩:=hcut;have hk:=‹∀(a:Act) (w:World),Code.wp _ _ _ a w→_›;refine hk _ _ (HT8.out _ (by kernel_rfl) _ _ _ _ _ (HR.out.below (z0r HW3.out HV.out)) (HD3.out.below HV.out HD3.out.lt) (HC3.out.below HV.out HC3.out.lt) (HX3.out.below HV.out HX3.out.lt) (fun n w' hb=>⟨⟨n,rfl⟩,z0r (z0r HW3.out HV.out) hb⟩) _ _ _ _ _ _ _ _ _ _ _ _ _ _ _ _ _ _ _ _ _ _ _ _ _ _ _ _ _ _ _ _ _ _ _ _ _ _ _ _ _ _ _ _ _ _ _ _ _ _ _ _ _ _ _ _ _ _ _ _ _ _ _ _ _ _ _ _ _ _ _ _ _ _ _ _ _ _ _ _ _ _ _ _ _ _ _ _ _ _ _ _ _ _ _ _ _ _ _ _ _ _ _ _ _ _ _ _ _ _ _ _ _ _ _ _ _ _ _ _ _ _ _ _ _ _ _ _ _ _ _ _ _ _ _ _ _ _ _ _ _ _ _ lv ln HXM0.out.2)
open Go.Sort (grow)
def flH (h:Hav):Fl:=(h.path,h.loc)
def prF (pl:List Syn)(L:List Nat)(k:Nat):List Syn:=(L.take k).filterMap fun i=>pl[i]?
theorem zl3 {pl:List Syn}{L:List Nat}{k i:Nat}(hk:k<L.length)(hi:i<pl.length)(e:L[k]=i):prF pl L (k+1)=prF pl L k++[pl[i]]:=by
 unfold prF;rw[List.take_succ_eq_append_getElem hk,List.filterMap_append,e];simp [List.getElem?_eq_getElem hi]
structure Bk4 (X wr:World)(B B2:Nat)(Ap:Option Addr)(c bC:Nat)(hs:List Hav)(pl:List Syn)(N:Nat)(b:ByteArray→Bool)(QH:List Hav)(qv:Value):Prop where
 mem:Bk3 X wr B B2 Ap c bC pl b QH qv
 st:BkSt hs pl b (QH.map flH)
 num:QH.length+zki b pl≤N
structure Bk5 (X wr:World)(B B2:Nat)(Ap:Option Addr)(c bC g13:Nat)(hs:List Hav)(pl:List Syn)(N:Nat)(b:ByteArray→Bool)(QH:List Hav)(qv:Value)(h:Hav)(Ar:Option Addr)(mr k:Nat):Prop where
 mem:Bk3 X wr B B2 Ap c bC pl b QH qv
 st:BkIn hs pl b (QH.map flH) h.path h.loc (prF pl (zkq pl pl.length h.loc) k)
 num:QH.length+zki b pl≤N
 box:Blk wr g13 44 [.string h.path,.int .i64 h.num,.string h.loc]
 far:B2≤g13
 row:wr.ownsRow X.heap.size 3 1 (.slice Ar (zkq pl pl.length h.loc).length mr) (zkq pl pl.length h.loc).length (zkl (zkq pl pl.length h.loc))
 rup:∀ x,(Value.slice Ar (zkq pl pl.length h.loc).length mr).ownBlock=some x→x<B2∧X.heap.size≤x
 qne:qv.ownBlock≠some g13
section
variable {X wr wx : World} {B B2 g c bC g13 N k i mr : Nat} {Ap : Option Addr} {hs : List Hav} {pl : List Syn} {b : ByteArray → Bool} {QH : List Hav} {qv : Value} {h : Hav} {Ar : Option Addr}
theorem Bk5.under (H:Bk5 X wr B B2 Ap c bC g13 hs pl N b QH qv h Ar mr k)(hb:Below wr.heap.size wr wx)(hB:B≤B2):Bk5 X wx B B2 Ap c bC g13 hs pl N b QH qv h Ar mr k:=⟨H.mem.under hb hB,H.st,H.num,H.box.below hb H.box.lt,H.far,z0n H.row hb,H.rup,H.qne⟩
theorem Bk5.at_ (H:Bk5 X wr B B2 Ap c bC g13 hs pl N b QH qv h Ar mr k)(hk:k<(zkq pl pl.length h.loc).length):∃ ad,Ar=some ad∧ad.block<wr.heap.size∧wr.cell? (ad.add k)=some (.int .i64 ((zkq pl pl.length h.loc)[k]:Nat)):=by
 obtain⟨A',m',e,-,-,-,-,hx⟩:=Row.of_own H.row;injection e with e1 e2 e3
 obtain⟨ad,e4,hb,hc⟩:=hx (by omega)
 refine⟨ad,by rw[e1,e4],hb,hc k _ ?_⟩
 unfold zkl;rw[List.getElem?_map,List.getElem?_eq_getElem hk];rfl
theorem Bk3.at3 (H:Bk3 X wr B B2 (some ⟨g,0,none⟩) c bC pl b QH qv)(hi:i<pl.length):z50 wr ⟨g,i * 5,none⟩ (zef b pl[i])∧wr.frozen? ⟨g,i * 5,none⟩=false:=by
 have hk2:i<(zeg b pl).length:=by rw[zl2];exact hi
 have e:(zeg b pl)[i]=zef b pl[i]:=by
  show (pl.map (zef b))[i]'(by rw[List.length_map];exact hi)=_
  rw[List.getElem_map]
 have:=zjv.cell H.own hk2;rw[e] at this;exact this
theorem Bk5.skip (H:Bk5 X wr B B2 Ap c bC g13 hs pl N b QH qv h Ar mr k)(hk:k<(zkq pl pl.length h.loc).length)(hi:i<pl.length)(e:(zkq pl pl.length h.loc)[k]=i)(hx:pl[i].path=h.path∨z3o pl[i].kind=true∨b pl[i].path=true):
  Bk5 X wr B B2 Ap c bC g13 hs pl N b QH qv h Ar mr (k+1):=⟨H.mem,by rw[zl3 hk hi e];exact bk_skip H.st hx,H.num,H.box,H.far,H.row,H.rup,H.qne⟩
theorem com_at (hk:k<(zkq pl pl.length h.loc).length):∃ i,∃ hi:i<pl.length,(zkq pl pl.length h.loc)[k]=i∧pl[i].dst=h.loc∧pl[i].dst≠z2l:=by
 obtain⟨h1,x,h2,h3,h4⟩:=comF_lt (List.getElem_mem hk);refine⟨_,h1,rfl,?_⟩;rw[List.getElem?_eq_getElem h1] at h2;injection h2 with h2
 rw[h2];exact⟨h3,h4⟩
theorem Bk5.set_ (H:Bk5 X wr B B2 Ap c bC g13 hs pl N b QH qv h Ar mr k)(hg:g<X.heap.size)(hX2:X.heap.size≤B2)(u:Value):Blk (wr.setCell ⟨g,i * 5,none⟩ u) g13 44 [.string h.path,.int .i64 h.num,.string h.loc]∧(wr.setCell ⟨g,i * 5,none⟩ u).ownsRow X.heap.size 3 1 (.slice Ar (zkq pl pl.length h.loc).length mr) (zkq pl pl.length h.loc).length (zkl (zkq pl pl.length h.loc)):=
 ⟨Blk.far H.box (by show g≠g13;have:=H.far;omega) u,z4r H.row (p:=⟨g,i * 5,none⟩) (fun e=>by have:=(H.rup g e).2;omega) u⟩
theorem Bk5.markN (H:Bk5 X wr B B2 (some ⟨g,0,none⟩) c bC g13 hs pl N b QH qv h Ar mr k)(hOk:zf0 hs)(hsrt:z6c pl)(hfrm:∀ x∈pl,x.frm=zk4 hs x.path)(hB:B≤g)(hg:g<X.heap.size)(hX2:X.heap.size≤B2)(hC:X.heap.size≤bC)
  (hk:k<(zkq pl pl.length h.loc).length) (hi:i<pl.length) (e:(zkq pl pl.length h.loc)[k]=i) (hl:pl[i].dst=h.loc) (hd:pl[i].dst≠z2l) (hp:pl[i].path≠h.path) (hst:z3o pl[i].kind=false) (hb:b pl[i].path=false) (hf:pl[i].frm=z2l):
  Bk5 X (wr.setCell ⟨g,i * 5,none⟩ (.int .i64 5)) B B2 (some ⟨g,0,none⟩) c bC g13 hs pl N (setB b pl[i].path) QH qv h Ar mr (k+1)∧QH.length+zki (setB b pl[i].path) pl≤QH.length+zki b pl:=by
 have hm:=zkh hsrt hOk hfrm H.st (List.getElem_mem hi) hp hst hd hl;rw[if_pos hf,← zl3 hk hi e] at hm;have hn:=zkj (List.getElem_mem hi) hst hb;have hnum:=H.num;exact⟨⟨H.mem.mark_ hsrt hi hg hB hX2 hC,hm,by omega,(H.set_ hg hX2 _).1,H.far,(H.set_ hg hX2 _).2,H.rup,H.qne⟩,by omega⟩
theorem Bk5.markY {A':Option Addr}{c':Nat}(H:Bk5 X wr B B2 (some ⟨g,0,none⟩) c bC g13 hs pl N b QH qv h Ar mr k)(hOk:zf0 hs)(hsrt:z6c pl)(hfrm:∀ x∈pl,x.frm=zk4 hs x.path)(hB:B≤g)(hg:g<X.heap.size)(hX2:X.heap.size≤B2)(hC:X.heap.size≤bC)
  (hk:k<(zkq pl pl.length h.loc).length) (hi:i<pl.length) (e:(zkq pl pl.length h.loc)[k]=i) (hl:pl[i].dst=h.loc) (hd:pl[i].dst≠z2l) (hp:pl[i].path≠h.path) (hst:z3o pl[i].kind=false) (hb:b pl[i].path=false) (hf:¬ pl[i].frm=z2l)
  (hq:zk1 wx B2 44 3 (.slice A' (QH.length+1) c') (QH.length+1) (QH.flatMap Hav.cells++[.string pl[i].path,.int .i64 0,.string pl[i].frm])) (hs2:zl1 (wr.setCell ⟨g,i * 5,none⟩ (.int .i64 5)) wx qv) (hob:(Value.slice A' (QH.length+1) c').ownBlock=qv.ownBlock∨∃ x,(Value.slice A' (QH.length+1) c').ownBlock=some x∧(wr.setCell ⟨g,i * 5,none⟩ (.int .i64 5)).heap.size≤x):
  Bk5 X wx B B2 (some ⟨g,0,none⟩) c bC g13 hs pl N (setB b pl[i].path) (QH++[⟨pl[i].path,0,pl[i].frm⟩]) (.slice A' (QH.length+1) c') h Ar mr (k+1)∧(QH.length+1)+zki (setB b pl[i].path) pl≤QH.length+zki b pl:=by
 have hm:=zkh hsrt hOk hfrm H.st (List.getElem_mem hi) hp hst hd hl;rw[if_neg hf,← zl3 hk hi e] at hm;have hn:=zkj (List.getElem_mem hi) hst hb;have hnum:=H.num;have hm3:=H.mem.mark_ hsrt hi hg hB hX2 hC;obtain⟨b1,b2⟩:=H.set_ (i:=i) hg hX2 (.int .i64 5);have hlt:=H.mem.que.lt;refine⟨⟨hm3.push (y:=⟨pl[i].path,0,pl[i].frm⟩) (by omega) (fun x e=>by injection e with e;have e':g=x:=e;omega) hq hs2,?_,by rw[List.length_append];simp;omega,?_,H.far,?_,H.rup,?_⟩,by omega⟩
 ·rw[List.map_append];exact hm
 ·exact (hs2.block b1.lt H.qne).trans b1
 ·refine⟨b2.1,?_⟩;rcases b2.2 with e4 | ⟨g',cap,cur,e1,h1,h2,h3⟩
  ·exact .inl e4
  ·refine .inr ⟨g',cap,cur,e1,h1,(hs2.block (Array.getElem?_eq_some_iff.1 h2).1 (fun e2=>?_)).trans h2,h3⟩;have a1:=(hlt g' e2).1;have a2:=(H.rup g' (by rw[e1];rfl)).1
   omega
 ·rcases hob with e5 | ⟨x,e5,h5⟩
  ·rw[e5];exact H.qne
  ·rw[e5];intro e6;injection e6 with e6;have:=b1.lt;omega
end
theorem bkT17 (T:Code)(hT:Tryz.f38.body.bind (zhv 17)=some T)(R:Ending→World→Prop)(X w:World)(B B2 g c bC N:Nat)(Ap:Option Addr)(hs:List Hav)(pl:List Syn)(hAp:0<pl.length→Ap=some ⟨g,0,none⟩)(QH:List Hav)(Aq:Option Addr)(cq:Nat)
  (hI:Bk4 X w B B2 Ap c bC hs pl N (fun _=>false) QH (.slice Aq QH.length cq)) (hOk:zf0 hs) (hsrt:z6c pl) (hfrm:∀ x∈pl,x.frm=zk4 hs x.path)
  (hB:B≤g) (hg:g<X.heap.size) (hX2:X.heap.size≤B2) (hC:X.heap.size≤bC) (hn:pl.length≤1000000) (hN:N≤1000000)
  (hR:∀ w',zjv w' B (.slice Ap pl.length c) (zeg (blB hs pl) pl)→Below B X w'→R (.returned (.tuple #[])) w')
  (u0 u2 u3 u4 u6 u7 u9 gn gt gu gx gy gz gA gC gD gE gF gG gH gI gJ gK gL gM gN gO gP gQ gR gT gV gW gX gY gZ i6 i7 i8 ia ib ic ie ig ii ij ik il im io ip iq ir iu iv iw ix iy iz iA iB iC iD iE iF iG iH iI iJ iK iL iM iN iO iP iQ iR iS iT iU iV iW iX iY iZ j0 j1 j2 j5 j6 j7 j8 j9 jb jd je jf bw bz bA bB bD bE bF bG bH bI bJ bK bL bM bN bO bP bQ bT bU bV bW bX bY bZ ca cj:Value):
  T.wp Tryz.prog (bodyPost Tryz.prog Tryz.f38 R) ⟨#[u0,.slice Ap pl.length c,u2,u3,u4,.map (some bC),u6,u7,.slice Aq QH.length cq,u9,gn,gt,gu,gx,gy,gz,gA,gC,gD,gE,gF,gG,gH,gI,gJ,gK,gL,gM,gN,gO,gP,gQ,gR,gT,gV,gW,gX,gY,gZ,i6,i7,i8,ia,ib,ic,ie,ig,ii,ij,ik,il,im,io,ip,iq,ir,iu,iv,iw,ix,iy,iz,iA,iB,iC,iD,iE,iF,iG,iH,iI,iJ,iK,iL,iM,iN,iO,iP,iQ,iR,iS,iT,iU,iV,iW,iX,iY,iZ,j0,j1,j2,j5,j6,j7,j8,j9,jb,jd,je,jf,bw,bz,bA,bB,bD,bE,bF,bG,bH,bI,bJ,bK,bL,bM,bN,bO,bP,bQ,bT,bU,bV,bW,bX,bY,bZ,ca,cj],[]⟩ w:=by
 simp only[Tryz.f38,Option.bind_some,zhv,zhu] at hT
 simp at hT
 subst hT;have HI:=hd_ hI;have HOK:=hd_ hOk;have HSRT:=hd_ hsrt;have HFRM:=hd_ hfrm;have HR:=hd_ hR;have hBB:B≤B2:=by omega
 clear hI hOk hsrt hfrm hR;go_wp2_with fail;go_loopg [8] (N+1) (fun gk q wr=>∃(b:ByteArray→Bool) (QH:List Hav) (A:Option Addr) (cq:Nat),q=.slice A QH.length cq∧QH.length+zki b pl<gk∧Hid (Bk4 X wr B B2 Ap c bC hs pl N b QH q))
 case atStart=>exact⟨fun _=>false,QH,Aq,cq,rfl,by have:=HI.out.num;omega,HI⟩
 case round =>
  clear HI;obtain⟨b,QH,A,cq,rfl,hgk,HS⟩:=hrel;cases QH with
  | nil =>
   have HF:=hd_ (HR.out wr (by rw[← bk_over (by have:=HS.out.st;exact this)];exact HS.out.mem.own) HS.out.mem.low)
   clear HS;go_wp2_with fail;go_end0
   exact HF.out
  | cons h Q' =>
   have hqq:zk1 wr B2 44 3 (.slice A (Q'.length+1) cq) (Q'.length+1) ((h :: Q').flatMap Hav.cells):=HS.out.mem.que;have hrow:z4b wr (.slice A (Q'.length+1) cq) (h :: Q'):=hqq.row;obtain⟨-,ad,rfl,hab,s0,s1,s2⟩:=hrow.head;have hA:Below wr.heap.size wr (wr.alloc (.cells #[.string h.path,.int .i64 h.num,.string h.loc] 44)):=(Below.refl _ _).alloc (Nat.le_refl _) _;obtain⟨Ar,mr,hlk,hrw,hru,-⟩:=(HS.out.mem.com.keep (fun x hx _=>hA.block x (Nat.lt_of_lt_of_le hx HS.out.mem.b2))).look h.loc;have hpop:Bk3 X wr B B2 Ap c bC pl b (h :: Q') (.slice (some ad) (Q'.length+1) cq):=HS.out.mem;have hqlt:=hqq.lt;have HS5:Hid (Bk5 X (wr.alloc (.cells #[.string h.path,.int .i64 h.num,.string h.loc] 44)) B B2 Ap c bC wr.heap.size hs pl N b Q' (.slice (if cq=1 then some ad else some ⟨ad.block,ad.off+3,none⟩) Q'.length (cq - 1)) h Ar mr 0):=hd_
    ⟨(hpop.pop).under hA hBB,by have:=HS.out.st;rw[List.map_cons] at this;exact bk_pop this,by have:=HS.out.num;rw[List.length_cons] at this;omega,z0l wr _ _,HS.out.mem.b2,hrw,hru,by
     intro e;have hlt:ad.block<wr.heap.size:=hab;split at e
     ·injection e with e;omega
     ·injection e with e
      have e':ad.block=wr.heap.size:=e;omega⟩
   have hz:(0:Int)<((Q'.length+1:Nat):Int):=by omega
   have hgk2:Q'.length+zki b pl+1<gk:=by rw[List.length_cons] at hgk;omega
   have HLK:=hd_ hlk;clear hA hlk hrw hru hpop hqlt hqq hrow HS hgk;dsimp only [List.length_cons]
   go_upto_region 20 with fail;have hl:=HLK.out _ rfl;generalize (if cq=1 then some ad else some ⟨ad.block,ad.off+3,none⟩)=A1 at HS5 ⊢;generalize cq - 1=c1 at HS5 ⊢;generalize wr.heap.size=g13 at HS5 ⊢;generalize wr.alloc (.cells #[.string h.path,.int .i64 h.num,.string h.loc] 44)=W1 at HS5 hl ⊢;clear HLK hab s0 s1 s2 hz;have d2:W1.cell? ⟨g13,2,none⟩=some (.string h.loc):=HS5.out.box.cell 2;obtain⟨L,hL⟩:∃ L,zkq pl pl.length h.loc=L:=⟨_,rfl⟩;have hLb:L.length≤1000000:=by rw[← hL];exact Nat.le_trans (zks _ _ _) hn
   have HL:=hd_ hL;rw[hL] at hl;clear hL;go_wp2_with fail;clear hl d2;go_loopw [8,83] (fun q i wq=>∃(b:ByteArray→Bool) (QH:List Hav) (A:Option Addr) (cq k:Nat),q=.slice A QH.length cq∧i=.int .i64 k∧k≤L.length∧QH.length+zki b pl+1<gk∧Hid (Bk5 X wq B B2 Ap c bC g13 hs pl N b QH q h Ar mr k)) (fun _ i _=>L.length - (intOf i).toNat)
   case atStart=>exact⟨b,Q',_,_,0,rfl,rfl,Nat.zero_le _,hgk2,HS5⟩
   case round =>
    clear HS5;obtain⟨b,QH,A,cq,k,rfl,rfl,hk,hgk,HJ⟩:=hrel;by_cases hlt:k<L.length
    ·have HLT2:=hd_ hlt;have hlt2:k<(zkq pl pl.length h.loc).length:=by rw[HL.out];exact hlt
     obtain⟨i,hi,hki,hdl,hde⟩:=com_at hlt2;obtain⟨ad2,rfl,hab,sI⟩:=HJ.out.at_ hlt2;rw[hki] at sI;have HKI:Hid (∀ hh:k<(zkq pl pl.length h.loc).length,(zkq pl pl.length h.loc)[k]=i):=hd_ (fun _=>hki);have HLT:=hd_ hlt2;have HDL:=hd_ hdl;have HDE:=hd_ hde;obtain rfl:=hAp (by omega)
     obtain⟨hsy,-⟩:=HJ.out.mem.at3 hi;have HSY:=hd_ hsy;clear hki hlt2 hdl hde hab hsy;go_upto_region 23 with fail;refine bkR23 _ (by kernel_rfl) _ wr g pl.length c i g13 (zef b pl[i]) h.path HSY.out (HJ.out.box.cell 0) hi ?_
     intro fV fW fX fY fZ ga gb gf gg gh gi gj gm aa w2 hb2;have HJ2:=hd_ (HJ.out.under hb2 hBB);have HPA:=hd_ (zeh b pl[i]);have HMS:=hd_ (zej b pl[i]);clear HSY HJ hb2 sI;cases hbb:(decide ((zef b pl[i]).path=h.path) || z3o (zef b pl[i]).kind) with
     | true =>
      have HN:=hd_ (HJ2.out.skip HLT.out hi (HKI.out _) (by
       rcases Bool.or_eq_true_iff.1 hbb with e | e
       ·exact .inl (by rw[← HPA.out];exact of_decide_eq_true e)
       ·rw[HMS.out] at e;rcases Bool.or_eq_true_iff.1 e with e | e
        ·exact .inr (.inr e)
        ·exact .inr (.inl e)))
      clear hbb;go_wp2_with fail;go_roundw
      case rel=>exact⟨b,QH,A,cq,k+1,rfl,by go_num,by have:=HLT2.out;omega,hgk,HN⟩
      case measure=>have:=HLT2.out;simp [intOf];omega
     | false =>
      obtain⟨e1,e2⟩:=(Bool.or_eq_false_iff).1 hbb;have hp:pl[i].path≠h.path:=by
       rw[← HPA.out];exact of_decide_eq_false e1
      rw[HMS.out] at e2;obtain⟨e3,e4⟩:=(Bool.or_eq_false_iff).1 e2;have HP:=hd_ hp;have HE3:=hd_ e3;have HE4:=hd_ e4;have HM3:=hd_ (HJ2.out.mem.mark_ HSRT.out hi hg hB hX2 hC);obtain⟨⟨y0,-,-,-,-⟩,fz⟩:=HJ2.out.mem.at3 hi;clear hbb e1 e2 e3 e4 hp;go_upto_region 25 with fail;clear y0 fz;obtain⟨⟨-,-,-,y3,-⟩,-⟩:=HM3.out.at3 hi;rw[(zei _ _).2.1] at y3;by_cases hf:pl[i].frm=z2l
      ·obtain⟨HN,hnum⟩:=HJ2.out.markN HOK.out HSRT.out HFRM.out hB hg hX2 hC HLT.out hi (HKI.out _) HDL.out HDE.out HP.out HE4.out HE3.out hf;have HN:=hd_ HN;obtain⟨s1,s2⟩:=z3v hf;clear HM3 hf;generalize w2.setCell ⟨g,i * 5,none⟩ (.int .i64 5)=W3 at HN y3 ⊢;generalize setB b pl[i].path=b2 at HN hnum;generalize pl[i].frm=fr at y3 s1 s2;go_wp2_with fail;go_roundw
       case rel=>exact⟨b2,QH,A,cq,k+1,rfl,by go_num,by have:=HLT2.out;omega,by omega,HN⟩
       case measure=>have:=HLT2.out;simp [intOf];omega
      ·have HF:=hd_ hf;obtain⟨s1,s2⟩:=z3w hf;have HY:=hd_ (fun(A':Option Addr) (c':Nat) (wx:World) h1 h2 h3=>HJ2.out.markY (A':=A') (c':=c') (wx:=wx) HOK.out HSRT.out HFRM.out hB hg hX2 hC HLT.out hi (HKI.out _) HDL.out HDE.out HP.out HE4.out HE3.out HF.out h1 h2 h3);have HQL:=hd_ (show QH.length≤1000000 by have:=HJ2.out.num;omega)
       obtain⟨⟨-,y1,-,-,-⟩,-⟩:=HM3.out.at3 hi;rw[zeh] at y1;have HY1:=hd_ y1;have HY3:=hd_ y3;have HI2:=hd_ hi;clear hf y1;generalize w2.setCell ⟨g,i * 5,none⟩ (.int .i64 5)=W3 at HM3 HY HY1 HY3 y3 ⊢;generalize setB b pl[i].path=b2 at HY HM3;generalize pl[i].frm=fr at HY y3 HY3 s1 s2;generalize pl[i].path=pt at HY HY1;go_upto_region 26 with fail;refine bkR26 _ (by kernel_rfl) _ W3 g pl.length c i QH.length cq B2 A (QH.flatMap Hav.cells) pt fr HM3.out.que HY1.out HY3.out HI2.out HM3.out.b2 (by omega) (by have:=HQL.out;omega) ?_
       intro ao ap aq ar au aw ax ay az aA aB aC aD aE A' c' w4 HO;obtain⟨HN,hnum⟩:=HY.out A' c' w4 HO.out.1 HO.out.2.1 HO.out.2.2;have HN:=hd_ HN;clear HY HO HM3;go_wp2_with fail;go_roundw
       case rel=>exact⟨b2,QH++[⟨pt,0,fr⟩],A',c',k+1,by rw[List.length_append];rfl,by go_num,by have:=HLT2.out;omega,by rw[List.length_append];simp;omega,HN⟩
       case measure=>have:=HLT2.out;simp [intOf];omega
    ·have hke:k=L.length:=by omega
     have HF:Hid (Bk4 X wr B B2 Ap c bC hs pl N b QH (.slice A QH.length cq)):=hd_ ⟨HJ.out.mem,bk_end HOK.out HJ.out.st (fun x hx hd hl=>by
      have he:=HL.out;obtain⟨i,hi,hx2⟩:=zkt hx hd;rw[hl] at hi;unfold prF;rw[he,hke,List.take_length,← he];exact List.mem_filterMap.2 ⟨i,hi,hx2⟩),HJ.out.num⟩
     clear HJ hke hk;go_wp2_with fail;go_roundg (QH.length+zki b pl+1)
     case measure=>exact hgk
     case rel=>exact⟨b,QH,A,cq,rfl,by omega,HF⟩
end Go.Proofs.YtegeboijhifmcaaGreatDoor
