/- A part. -/
import Derived.Test.YtijghobkkdbhnaaGreatDoorMcw33
import Derived.Test.YtijghobkkdbhnaaGreatDoorMcw34
import Derived.Test.YtijghobkkdbhnaaGreatDoorMcw32
set_option linter.unusedVariables false
set_option linter.unusedSimpArgs false
set_option maxHeartbeats 16000000
set_option maxRecDepth 100000
namespace Go.Proofs.YtijghobkkdbhnaaGreatDoor
open Go.Proofs.Tryz
open Go.RowKit
theorem add_c (a:Int):((a == 1)=true∧(a == 4)=false)∨((a == 1)=false∧(a == 4)=true)∨((a == 1)=false∧(a == 4)=false):=by
 by_cases h1:a=1
 ·subst h1;exact .inl ⟨rfl,rfl⟩
 ·by_cases h4:a=4
  ·subst h4;exact .inr (.inl ⟨rfl,rfl⟩)
  ·exact .inr (.inr ⟨by simpa using h1,by simpa using h4⟩)
theorem weT8 (T:Code)(hT:Tryz.f157.body.bind (zhg 8)=some T)(R:Ending→World→Prop)(revs:List Rev)(c:Chg)(x:Edt)(Ar Ae Ac:Option Addr)(dr:Value)(cr ce cc g3 g4 g7:Nat)(w3:World)
  (hR:z4c w3 (.slice Ar revs.length cr) revs) (hl:revs.length≤100000)
  (hD:Blk w3 g3 27 [.slice Ar revs.length cr,dr]) (hC:Blk w3 g4 105 [.int .i64 c.num,.string c.client,.string c.text,.slice Ae c.edits.length ce,.slice Ac c.recs.length cc]) (hX:Blk w3 g7 100 [.string x.path,.int .i64 x.act,.int .i64 x.ty.base,.bool x.ty.k,.bool x.ty.l,.bool x.ty.x,.int .u64 x.sum,.int .i64 x.size,.int .i64 x.base,.string x.frm,.int .i64 x.fnum,.int .i64 x.fence])
  (hRR:∀(n:Int) (w':World),zB w3 w'→R (.returned (.int .i64 n)) w')
  (u0 u1 u2 u5 u6 u8 u9 gD gE gF gG gH gI gJ gK gL gM gN gO gP gQ gR gT gV gW gX gY gZ i6 i7 i8 ia ib ic ie ig ii ij ik il im io ip iq ir iu iv iw ix iy iz iA iB iC iD iE iF iG iH iI iJ iK iL iM iN iO iP iQ iR iS iT iU iV iW iX iY iZ j0 j1 j2 j5 j6 j7 j8 j9 jb jd jf jg jh ji jj jk jl jm bE bF bG bH bI bJ bK bL bM bN bO bP bQ bT bU bV bW bX bY bZ cj ck cn cx cy cz cA cB cD cG cH cI cJ cM cN cO cP cQ cR cT cU cW cX cY cZ da dc dd:Value) (lv:Bool) (ln:Int) (hbs:0≤x.base∧x.base≤1000000):
  T.wp prog (bodyPost prog Tryz.f157 R) ⟨#[u0,u1,u2,.pointer (some ⟨g3,0,none⟩),.pointer (some ⟨g4,0,none⟩),u5,u6,.pointer (some ⟨g7,0,none⟩),u8,u9,.bool lv,.int .i64 ln,gD,gE,gF,gG,gH,gI,gJ,gK,gL,gM,gN,gO,gP,gQ,gR,gT,gV,gW,gX,gY,gZ,i6,i7,i8,ia,ib,ic,ie,ig,ii,ij,ik,il,im,io,ip,iq,ir,iu,iv,iw,ix,iy,iz,iA,iB,iC,iD,iE,iF,iG,iH,iI,iJ,iK,iL,iM,iN,iO,iP,iQ,iR,iS,iT,iU,iV,iW,iX,iY,iZ,j0,j1,j2,j5,j6,j7,j8,j9,jb,jd,jf,jg,jh,ji,jj,jk,jl,jm,bE,bF,bG,bH,bI,bJ,bK,bL,bM,bN,bO,bP,bQ,bT,bU,bV,bW,bX,bY,bZ,cj,ck,cn,cx,cy,cz,cA,cB,cD,cG,cH,cI,cJ,cM,cN,cO,cP,cQ,cR,cT,cU,cW,cX,cY,cZ,da,dc,dd],[]⟩ w3:=by
 simp only[Tryz.f157,Option.bind_some,zhg,zhf] at hT
 simp at hT
 subst hT;have HRR:=hd_ hRR;have HR:=hd_ hR;have HBS:=hd_ hbs;have HX3:=hd_ hX;have HD3:=hd_ hD;have HC3:=hd_ hC;have HLIVE:=hd_ (fun p X (hX:zB w3 X)=>zhn revs p (.slice Ar revs.length cr) dr X (HR.out.below hX) (by omega))
 have HT18:=hd_ (fun T hT R W hR hbs hD hC hX hRR=>weT18 T hT R revs c x Ar Ae Ac dr cr ce cc g3 g4 g7 W hR hl hbs hD hC hX hRR);clear hRR hR hD hC hX;obtain⟨c0,c1,c2,c3,c4,c5,c6,c7,c8,c9,c10,c11⟩:=z81 HX3.out;dsimp only;go_upto_region 8 with fail;go_cut [76] (fun v wx=>∃ bb,v=.bool bb∧Hid (wx=w3))
 case first =>
  by_cases hlt1:x.act<1
  case pos =>
   have q:decide (x.act<1)=true:=by simp;omega
   clear hlt1;go_wp2_with fail;go_meet
   exact⟨true,rfl,rfl⟩
  have dlt:decide (x.act<1)=false:=by simp;omega
  by_cases hgt5:5<x.act
  case pos =>
   have q:decide (5<x.act)=true:=by simp;omega
   clear hlt1 hgt5;go_wp2_with fail;go_meet
   exact⟨true,rfl,rfl⟩
  have dgt:decide (5<x.act)=false:=by simp;omega
  clear hlt1 hgt5;rcases add_c x.act with⟨q1,q4⟩ | ⟨q1,q4⟩ | ⟨q1,q4⟩
  all_goals
   cases lv
   all_goals
    go_wp2_with fail;go_meet
    first
     | exact⟨true,rfl,rfl⟩
     | exact⟨false,rfl,rfl⟩
 case rest =>
  obtain⟨bb,rfl,HBB⟩:=hcut;obtain rfl:wc=w3:=HBB.out
  cases bb with
  | true =>
   clear HBB;go_wp2_with fail;exact HRR.out _ _ (Below.refl _ _)
  | false =>
   clear HBB;by_cases hbb:x.base=ln
   case neg =>
    have qb:(x.base != ln)=true:=by simpa using hbb
    clear hbb;go_wp2_with fail;exact HRR.out _ _ (Below.refl _ _)
   have qb:(x.base != ln)=false:=by simpa using hbb
   clear hbb;go_upto_if 83 with fail
   clear qb;go_cut [] (fun wx=>Hid (zB wc wx))
   case first =>
    by_cases h4:x.act=4
    ·have q4:(x.act == 4)=true:=by simpa using h4
     clear h4;obtain⟨d0,d1,-,-⟩:=box2 HD3.out;have HLV2:=hd_ (HLIVE.out x.frm wc (Below.refl _ _));go_wp2_with fail;refine HLV2.out.mono ?_;rintro e w4 ⟨rfl,hb4⟩;have HW4:=hd_ hb4;have HX4:=hd_ (HX3.out.below hb4 HX3.out.lt);clear hb4 d0 d1 c0 c1 c2 c3 c4 c5 c6 c7 c8 c9 c10 c11;obtain⟨c0,c1,c2,c3,c4,c5,c6,c7,c8,c9,c10,c11⟩:=z81 HX4.out;generalize zhl revs x.frm=lv2;generalize (zdv (zgd revs x.frm)).num=fn2;cases lv2 with
     | false =>
      go_wp2_with fail;exact HRR.out _ _ HW4.out
     | true =>
      by_cases hfn:x.fnum=fn2
      case neg =>
       have qf:(fn2 != x.fnum)=true:=by simp;exact fun h=>hfn h.symm
       clear hfn;go_wp2_with fail;exact HRR.out _ _ HW4.out
      have qf:(fn2 != x.fnum)=false:=by simp [hfn]
      have sq:=zdq x.frm x.path;by_cases hfp:x.frm=x.path
      case pos =>
       rw[decide_eq_true hfp] at sq;clear hfp hfn;go_wp2_with fail;exact HRR.out _ _ HW4.out
      rw[decide_eq_false hfp] at sq;clear hfp hfn;go_wp2_with fail;go_meet
      exact HW4
    ·have q4:(x.act == 4)=false:=by simpa using h4
     clear h4;by_cases hfr:x.frm=z2q
     case neg =>
      have s1:=zdp hfr;have s2:=zdo hfr;clear hfr;go_wp2_with fail;exact HRR.out _ _ (Below.refl _ _)
     have s1:=zdn hfr;by_cases hfn:x.fnum=0
     case neg =>
      have qf:(x.fnum != 0)=true:=by simpa using hfn
      clear hfr hfn;go_wp2_with fail;exact HRR.out _ _ (Below.refl _ _)
     have qf:(x.fnum != 0)=false:=by simpa using hfn
     clear hfr hfn;go_wp2_with fail;go_meet
     exact hd_ (Below.refl _ _)
   case rest =>
    rename_i wc2
    have HW4:=hd_ hcut.out;clear hcut;have hk:=‹∀(a:Act) (w:World),Code.wp _ _ _ a w→_›;refine hk _ _ (HT18.out _ (by kernel_rfl) _ _ (HR.out.below HW4.out) HBS.out (HD3.out.below HW4.out HD3.out.lt) (HC3.out.below HW4.out HC3.out.lt) (HX3.out.below HW4.out HX3.out.lt) (fun n w' hb=>HRR.out n w' (z0r HW4.out hb)) _ _ _ _ _ _ _ _ _ _ _ _ _ _ _ _ _ _ _ _ _ _ _ _ _ _ _ _ _ _ _ _ _ _ _ _ _ _ _ _ _ _ _ _ _ _ _ _ _ _ _ _ _ _ _ _ _ _ _ _ _ _ _ _ _ _ _ _ _ _ _ _ _ _ _ _ _ _ _ _ _ _ _ _ _ _ _ _ _ _ _ _ _ _ _ _ _ _ _ _ _ _ _ _ _ _ _ _ _ _ _ _ _ _ _ _ _ _ _ _ _ _ _ _ _ _ _ _ _ _ _ _ _ _ _ _ _ _ _ _ _ _ _ _ _)
def zhp (w:World)(e:Ending)(w':World):Prop:=(∃ n:Int,e=.returned (.int .i64 n))∧zB w w'
theorem zhq (d:Dep)(c:Chg)(dv dr:Value)(Ae Ac:Option Addr)(ce cc i:Nat)(w:World)(he:Env w)(hR:z4c w dv d.revs)(hl:d.revs.length≤100000)(hE:z4d w (.slice Ae c.edits.length ce) c.edits)(hi:i<c.edits.length)(hel:c.edits.length≤100000)
  (hsz:∀ e∈c.edits,e.path.size≤2000000∧0≤e.base∧e.base≤1000000):
  Calls prog 157 #[.agg #[dv,dr],.agg #[.int .i64 c.num,.string c.client,.string c.text,.slice Ae c.edits.length ce,.slice Ac c.recs.length cc],.int .i64 i] w (zhp w):=by
 obtain⟨Ar,cr,rfl,-⟩:=id hR;have HR:=hd_ hR;have HE:=hd_ hE;have HEN:=hd_ he;have HLIVE:=hd_ (fun p X (hX:zB w X)=>zhn d.revs p (.slice Ar d.revs.length cr) dr X (HR.out.below hX) (by omega))
 have HSZ:=hd_ hsz;clear hR hE he hsz;have hb0:zB w ((w.alloc (.cells #[.slice Ar d.revs.length cr,dr] 27)).alloc (.cells #[.int .i64 c.num,.string c.client,.string c.text,.slice Ae c.edits.length ce,.slice Ac c.recs.length cc] 105)):=((Below.refl _ _).alloc (Nat.le_refl _) _).alloc (by simp) _
 have hC:Blk ((w.alloc (.cells #[.slice Ar d.revs.length cr,dr] 27)).alloc (.cells #[.int .i64 c.num,.string c.client,.string c.text,.slice Ae c.edits.length ce,.slice Ac c.recs.length cc] 105)) (w.heap.size+1) 105 [.int .i64 c.num,.string c.client,.string c.text,.slice Ae c.edits.length ce,.slice Ac c.recs.length cc]:=by
  have h1:=z0l (w.alloc (.cells #[.slice Ar d.revs.length cr,dr] 27)) [.int .i64 c.num,.string c.client,.string c.text,.slice Ae c.edits.length ce,.slice Ac c.recs.length cc] 105;simp only[World.size_alloc] at h1
  exact h1
 have hD:Blk ((w.alloc (.cells #[.slice Ar d.revs.length cr,dr] 27)).alloc (.cells #[.int .i64 c.num,.string c.client,.string c.text,.slice Ae c.edits.length ce,.slice Ac c.recs.length cc] 105)) w.heap.size 27 [.slice Ar d.revs.length cr,dr]:=(z0l w _ _).alloc _;have hld0:=fun X (hX:zB w X)=>z4d.at_ (HE.out.below hX) hi;have HXM0:=hd_ (HSZ.out _ (List.getElem_mem hi));generalize c.edits[i]=x at hld0 HXM0;have HXM:Hid (x.path.size≤2000000):=hd_ HXM0.out.1;have HLD:=hd_ hld0;clear hld0;have HT8:=hd_ (fun T hT R g3 g4 g7 W hR hD hC hX hRR=>weT8 T hT R d.revs c x Ar Ae Ac dr cr ce cc g3 g4 g7 W hR hl hD hC hX hRR);go_enter func157,ntmps157;go_upto_region 1 with fail;generalize (w.alloc (.cells #[.slice Ar d.revs.length cr,dr] 27)).alloc (.cells #[.int .i64 c.num,.string c.client,.string c.text,.slice Ae c.edits.length ce,.slice Ac c.recs.length cc] 105)=W1 at hb0 hC hD ⊢;obtain⟨k0,k1,k2,k3,k4⟩:=zhi hC;obtain⟨ad,rfl,hab,hld⟩:=HLD.out _ hb0;have hiz:(i:Int)<(c.edits.length:Int):=by omega
 obtain⟨x0,x1,x2,x3,x4,x5,x6,x7,x8,x9,x10,x11⟩:=hld;have hX:=z0l W1 [.string x.path,.int .i64 x.act,.int .i64 x.ty.base,.bool x.ty.k,.bool x.ty.l,.bool x.ty.x,.int .u64 x.sum,.int .i64 x.size,.int .i64 x.base,.string x.frm,.int .i64 x.fnum,.int .i64 x.fence] 100;have hA1:=hb0.alloc hb0.size (.cells #[.string x.path,.int .i64 x.act,.int .i64 x.ty.base,.bool x.ty.k,.bool x.ty.l,.bool x.ty.x,.int .u64 x.sum,.int .i64 x.size,.int .i64 x.base,.string x.frm,.int .i64 x.fnum,.int .i64 x.fence] 100);have HC1:=hd_ (hC.alloc (.cells #[.string x.path,.int .i64 x.act,.int .i64 x.ty.base,.bool x.ty.k,.bool x.ty.l,.bool x.ty.x,.int .u64 x.sum,.int .i64 x.size,.int .i64 x.base,.string x.frm,.int .i64 x.fnum,.int .i64 x.fence] 100));have HD1:=hd_ (hD.alloc (.cells #[.string x.path,.int .i64 x.act,.int .i64 x.ty.base,.bool x.ty.k,.bool x.ty.l,.bool x.ty.x,.int .u64 x.sum,.int .i64 x.size,.int .i64 x.base,.string x.frm,.int .i64 x.fnum,.int .i64 x.fence] 100));go_upto_region 2 with fail;clear x0 x1 x2 x3 x4 x5 x6 x7 x8 x9 x10 x11 k0 k1 k2 k3 k4 hC hD hb0;generalize W1.alloc (.cells #[.string x.path,.int .i64 x.act,.int .i64 x.ty.base,.bool x.ty.k,.bool x.ty.l,.bool x.ty.x,.int .u64 x.sum,.int .i64 x.size,.int .i64 x.base,.string x.frm,.int .i64 x.fnum,.int .i64 x.fence] 100)=W2 at hX hA1 HC1 HD1 ⊢;generalize W1.heap.size=g7 at hX ⊢;have HX1:=hd_ hX;have HW1:=hd_ hA1;clear hX hA1;obtain⟨c0,c1,c2,c3,c4,c5,c6,c7,c8,c9,c10,c11⟩:=z81 HX1.out;cases hdp:z2v x.path.data.toList 2 with
 | none =>
  have HPN:=hd_ (z99 x.path W2 (HEN.out.below HW1.out) HXM.out hdp);clear hdp;go_wp2_with fail;refine HPN.out.mono ?_;rintro e w2 ⟨rfl,hb2⟩;have HB2:=hd_ hb2;clear hb2;go_wp2_with fail;go_ret;exact⟨⟨_,rfl⟩,z0r HW1.out HB2.out⟩
 | some ps =>
  have HPS:=hd_ (z98 x.path ps W2 (HEN.out.below HW1.out) HXM.out hdp);have hA2:zB W2 (W2.alloc (.cells (z6x ps).toArray 9)):=(Below.refl _ _).alloc (Nat.le_refl _) _;clear hdp;go_wp2_with fail;refine HPS.out.mono ?_;rintro e w2 ⟨rfl,rfl⟩;have HX2:=hd_ (HX1.out.below hA2 HX1.out.lt);have HC2:=hd_ (HC1.out.below hA2 HC1.out.lt);have HD2:=hd_ (HD1.out.below hA2 HD1.out.lt);have HW2:=hd_ (z0r HW1.out hA2);clear hA2 c0 c1 c2 c3 c4 c5 c6 c7 c8 c9 c10 c11;generalize W2.alloc (.cells (z6x ps).toArray 9)=w2 at HX2 HC2 HD2 HW2 ⊢;generalize Value.slice (some ⟨W2.heap.size,0,none⟩) ps.length ps.length=pv;obtain⟨c0,c1,c2,c3,c4,c5,c6,c7,c8,c9,c10,c11⟩:=z81 HX2.out;by_cases h200:200<x.path.size
  case pos =>
   have q:decide ((200:Int)<(x.path.size:Int))=true:=by simp;omega
   clear h200;go_wp2_with fail;go_ret;exact⟨⟨_,rfl⟩,HW2.out⟩
  have q:decide ((200:Int)<(x.path.size:Int))=false:=by simp;omega
  clear h200;go_upto_region 5 with fail;clear q;go_cut [49] (fun v wx=>∃ bb,v=.bool bb∧Hid (zB w2 wx))
  case first =>
   by_cases h0:i=0
   ·have d0:decide (0<i)=false:=by simp;omega
    have d1:decide ((0:Int)<(i:Int))=false:=by simp;omega
    clear h0;go_quiet (fail)
    go_wp2_with fail;go_meet
    exact⟨false,rfl,hd_ (z0p (Below.refl _ _) _)⟩
   ·obtain⟨j,rfl⟩:∃ j,i=j+1:=⟨i - 1,by omega⟩
    have hj:j<c.edits.length:=by omega
    obtain⟨ad2,had,hab2,hld2⟩:=z4d.at_ (HE.out.below HW2.out) hj;injection had with had
    subst had;have HSY:=hd_ (HSZ.out _ (List.getElem_mem hj));generalize c.edits[j]=y at hld2 HSY;have e0:=hld2.1;obtain⟨k0,k1,k2,k3,k4⟩:=zhi HC2.out;have d0:decide (0<j+1)=true:=by simp
    have d1:decide ((0:Int)<((j+1:Nat):Int))=true:=decide_eq_true (by omega)
    have d2:decide ((0:Int)<(j:Int)+1)=true:=decide_eq_true (by omega)
    have hwp:IntKind.i64.wrap (j:Int)=(j:Int):=by rw[IntKind.wrap_i64];omega
    have hjz:(j:Int)<(c.edits.length:Int):=by omega
    have HOR:=hd_ (fun X (hX:zB w2 X)=>zhb y.path x.path X (HEN.out.below (z0r HW2.out hX)) HSY.out.1 HXM.out);clear hld2 h0;refine wp_region_noPanic ?_;first
     | go_region_law (go_simp;go_at_call 93;refine (HOR.out _ (Below.refl _ _).drew).mono ?_;rintro e w5 ⟨n,rfl,hb5,hn⟩;have HB5:=hd_ ((Below.refl w2.heap.size w2).drew.trans hb5);clear hb5 hn)
     | fail
    all_goals
     refine NoPanic.normal ?_;go_wp2_with fail;go_meet
     exact⟨decide (0≤n),rfl,HB5⟩
  case rest =>
   obtain⟨bb,rfl,HBB⟩:=hcut;have HW3:=hd_ (z0r HW2.out HBB.out);have HX3:=hd_ (HX2.out.below HBB.out HX2.out.lt);have HD3:=hd_ (HD2.out.below HBB.out HD2.out.lt);have HC3:=hd_ (HC2.out.below HBB.out HC2.out.lt);cases bb with
   | true =>
    go_wp2_with fail;go_ret;exact⟨⟨_,rfl⟩,HW3.out⟩
   | false =>
    clear HBB;generalize wc=w30 at HW3 HX3 HD3 HC3 ⊢;obtain⟨d0,d1,-,-⟩:=box2 HD3.out;obtain⟨c0,c1,c2,c3,c4,c5,c6,c7,c8,c9,c10,c11⟩:=z81 HX3.out;have HLV1:=hd_ (HLIVE.out x.path w30 HW3.out);go_upto_region 7 with fail;go_cut [10,11] (fun v10 v11 wx=>∃(lv:Bool) (ln:Int),v10=.bool lv∧v11=.int .i64 ln∧Hid (zB w30 wx))
    case first =>
     go_wp2_with fail;refine HLV1.out.mono ?_;rintro e w3 ⟨rfl,hb3⟩;have HB3:=hd_ hb3;clear hb3;go_wp2_with fail;go_meet
     exact⟨_,_,rfl,rfl,HB3⟩
    case rest =>
     obtain⟨lv,ln,rfl,rfl,HV⟩:=hcut;have hk:=‹∀(a:Act) (w:World),Code.wp _ _ _ a w→_›;refine hk _ _ (HT8.out _ (by kernel_rfl) _ _ _ _ _ (HR.out.below (z0r HW3.out HV.out)) (HD3.out.below HV.out HD3.out.lt) (HC3.out.below HV.out HC3.out.lt) (HX3.out.below HV.out HX3.out.lt) (fun n w' hb=>⟨⟨n,rfl⟩,z0r (z0r HW3.out HV.out) hb⟩) _ _ _ _ _ _ _ _ _ _ _ _ _ _ _ _ _ _ _ _ _ _ _ _ _ _ _ _ _ _ _ _ _ _ _ _ _ _ _ _ _ _ _ _ _ _ _ _ _ _ _ _ _ _ _ _ _ _ _ _ _ _ _ _ _ _ _ _ _ _ _ _ _ _ _ _ _ _ _ _ _ _ _ _ _ _ _ _ _ _ _ _ _ _ _ _ _ _ _ _ _ _ _ _ _ _ _ _ _ _ _ _ _ _ _ _ _ _ _ _ _ _ _ _ _ _ _ _ _ _ _ _ _ _ _ _ _ _ _ _ _ _ _ lv ln HXM0.out.2)
theorem zhw (D:List Rev)(es:List Edt)(num:Int)(Ar Aq Ae:Option Addr)(cr cq ce:Nat)(w:World)(he:Env w)(hR:z4c w (.slice Ar D.length cr) D)(hl:D.length≤1000)(hE:z4d w (.slice Ae es.length ce) es)(hel:es.length≤6)
  (hsz:∀ e∈es,e.path.size≤2000000∧0≤e.base∧e.base≤1000000):
  Calls prog 102 #[.agg #[.slice Ar D.length cr,.slice Aq 0 cq],.agg #[.int .i64 num,.string ⟨#[]⟩,.string ⟨#[]⟩,.slice Ae es.length ce,.slice none 0 0]] w (zhp w):=by
 have hb0:zB w ((w.alloc (.cells #[.slice Ar D.length cr,.slice Aq 0 cq] 27)).alloc (.cells #[.int .i64 num,.string ⟨#[]⟩,.string ⟨#[]⟩,.slice Ae es.length ce,.slice none 0 0] 105)):=((Below.refl _ _).alloc (Nat.le_refl _) _).alloc (by simp) _
 have hC:Blk ((w.alloc (.cells #[.slice Ar D.length cr,.slice Aq 0 cq] 27)).alloc (.cells #[.int .i64 num,.string ⟨#[]⟩,.string ⟨#[]⟩,.slice Ae es.length ce,.slice none 0 0] 105)) (w.heap.size+1) 105 [.int .i64 num,.string ⟨#[]⟩,.string ⟨#[]⟩,.slice Ae es.length ce,.slice none 0 0]:=by
  have h1:=z0l (w.alloc (.cells #[.slice Ar D.length cr,.slice Aq 0 cq] 27)) [.int .i64 num,.string ⟨#[]⟩,.string ⟨#[]⟩,.slice Ae es.length ce,.slice none 0 0] 105;simp only[World.size_alloc] at h1
  exact h1
 have hD:Blk ((w.alloc (.cells #[.slice Ar D.length cr,.slice Aq 0 cq] 27)).alloc (.cells #[.int .i64 num,.string ⟨#[]⟩,.string ⟨#[]⟩,.slice Ae es.length ce,.slice none 0 0] 105)) w.heap.size 27 [.slice Ar D.length cr,.slice Aq 0 cq]:=(z0l w _ _).alloc _;have HRV:=hd_ (fun X (hX:zB w X)=>z4c.below hR hX);have HEV:=hd_ (fun X (hX:zB w X)=>z4d.below hE hX);have HED:=hd_ (fun(i:Nat) (hi:i<es.length) X (hX:zB w X)=>zhq ⟨D,[]⟩ ⟨num,⟨#[]⟩,⟨#[]⟩,es,[]⟩ _ (.slice Aq 0 cq) Ae none ce 0 i X (he.below hX) (z4c.below hR hX) (by show D.length≤100000;omega) (z4d.below hE hX) hi (by show es.length≤100000;omega) hsz)
 have HMV:=hd_ (fun(x:Edt) X (hX:zB w X)=>zhv es num ⟨#[]⟩ ⟨#[]⟩ Ae none 0 ce 0 x X (z4d.below hE hX) (by omega))
 clear he hR hE hsz;go_enter func102,ntmps102;go_upto_region 1 with fail;generalize (w.alloc (.cells #[.slice Ar D.length cr,.slice Aq 0 cq] 27)).alloc (.cells #[.int .i64 num,.string ⟨#[]⟩,.string ⟨#[]⟩,.slice Ae es.length ce,.slice none 0 0] 105)=W1 at hb0 hC hD ⊢;have HA:=hd_ hb0;have HC:=hd_ hC;have HD:=hd_ hD;have HX:Hid (∀ X,zB W1 X→(X.cell? ⟨w.heap.size,0,none⟩=some (.slice Ar D.length cr)∧X.cell? ⟨w.heap.size,1,none⟩=some (.slice Aq 0 cq))∧X.cell? ⟨w.heap.size+1,0,none⟩=some (.int .i64 num)∧X.cell? ⟨w.heap.size+1,1,none⟩=some (.string ⟨#[]⟩)∧X.cell? ⟨w.heap.size+1,2,none⟩=some (.string ⟨#[]⟩)∧X.cell? ⟨w.heap.size+1,3,none⟩=some (.slice Ae es.length ce)∧X.cell? ⟨w.heap.size+1,4,none⟩=some (.slice none 0 0)):=hd_ fun X hX=>by
  have h1:=HD.out.below hX HD.out.lt;have h2:=HC.out.below hX HC.out.lt;exact⟨⟨h1.cell 0,h1.cell 1⟩,h2.cell 0,h2.cell 1,h2.cell 2,h2.cell 3,h2.cell 4⟩
 have HRT:Hid (∀(n:Int) X,zB W1 X→zhp w (.returned (.int .i64 n)) X):=hd_ fun n X hX=>⟨⟨n,rfl⟩,z0r HA.out hX⟩;clear hb0 hC hD;obtain⟨⟨d0,d1⟩,k0,k1,k2,k3,k4⟩:=HX.out W1 (Below.refl _ _);by_cases h0:es.length=0
 ·have q0:((es.length:Int) == 0)=true:=by simpa using h0
  clear h0;go_wp2_with fail;go_ret;exact HRT.out _ _ (Below.refl _ _)
 have q0:((es.length:Int) == 0)=false:=by simpa using h0
 have q64:decide ((64:Int)<(es.length:Int))=false:=by simp;omega
 by_cases h1:num≤0
 ·have q1:decide (num≤0)=true:=by simpa using h1
  clear h1 h0;go_wp2_with fail;go_ret;exact HRT.out _ _ (Below.refl _ _)
 have q1:decide (num≤0)=false:=by simpa using h1
 by_cases h2:1073741824<num
 ·have q2:decide (1073741824<num)=true:=by simpa using h2
  clear h2 h1 h0;go_wp2_with fail;go_ret;exact HRT.out _ _ (Below.refl _ _)
 have q2:decide (1073741824<num)=false:=by simpa using h2
 clear h2 h1 h0;go_wp2_with fail;clear d0 d1 k0 k1 k2 k3 k4 q0 q64 q1 q2;go_loopw [39] (fun i wr=>∃ k:Nat,i=.int .i64 k∧k≤D.length∧Hid (zB W1 wr)) (fun i _=>D.length - (intOf i).toNat)
 case atStart=>exact⟨0,rfl,Nat.zero_le _,hd_ (Below.refl _ _)⟩
 case round =>
  obtain⟨k,rfl,hk,HI⟩:=hrel;by_cases hlt:k<D.length
  ·obtain⟨ad,rfl,hab,x0,x1,x2,x3,x4,x5,x6,x7,x8,x9,x10,x11⟩:=(HRV.out wr (z0r HA.out HI.out)).at_ hlt;generalize D[k]=r at x0 x1 x2 x3 x4 x5 x6 x7 x8 x9 x10 x11;have hX:zB wr (wr.alloc (.cells #[.string r.path,.int .i64 r.num,.int .i64 r.chg,.int .i64 r.act,.int .i64 r.ty.base,.bool r.ty.k,.bool r.ty.l,.bool r.ty.x,.int .u64 r.sum,.int .i64 r.size,.string r.frm,.int .i64 r.fnum] 90)):=(Below.refl _ _).alloc (Nat.le_refl _) _;have hN:=z0l wr [.string r.path,.int .i64 r.num,.int .i64 r.chg,.int .i64 r.act,.int .i64 r.ty.base,.bool r.ty.k,.bool r.ty.l,.bool r.ty.x,.int .u64 r.sum,.int .i64 r.size,.string r.frm,.int .i64 r.fnum] 90;have HB:=hd_ (z0r HI.out hX);have HLT:=hd_ hlt;clear hX hab hlt;go_upto_region 8 with fail;clear x0 x1 x2 x3 x4 x5 x6 x7 x8 x9 x10 x11;generalize wr.alloc (.cells #[.string r.path,.int .i64 r.num,.int .i64 r.chg,.int .i64 r.act,.int .i64 r.ty.base,.bool r.ty.k,.bool r.ty.l,.bool r.ty.x,.int .u64 r.sum,.int .i64 r.size,.string r.frm,.int .i64 r.fnum] 90)=W5 at hN HB ⊢;generalize wr.heap.size=g6 at hN ⊢;have y2:W5.cell? ⟨g6,2,none⟩=some (.int .i64 r.chg):=hN.cell 2;obtain⟨-,k0,-⟩:=HX.out W5 HB.out;obtain⟨b,q⟩:∃ b,decide (num≤r.chg)=b:=⟨_,rfl⟩;clear hN;cases b with
   | true =>
    go_wp2_with fail;go_ret;exact HRT.out _ _ HB.out
   | false =>
    go_wp2_with fail;go_roundw
    case rel=>exact⟨k+1,by go_num,by have:=HLT.out;omega,HB⟩
    case measure=>have:=HLT.out;simp [intOf];omega
  ·have hke:k=D.length:=by omega
   subst hke;have HB1:=hd_ HI.out;have hge:¬((D.length:Int)<(D.length:Int)):=by omega
   obtain⟨-,k0,k1,k2,k3,k4⟩:=HX.out wr HI.out;clear HI;go_wp2_with fail;clear k0 k1 k2 k3 k4;go_loopw [52] (fun i wr=>∃ k:Nat,i=.int .i64 k∧k≤es.length∧Hid (zB W1 wr)) (fun i _=>es.length - (intOf i).toNat)
   case atStart=>exact⟨0,rfl,Nat.zero_le _,HB1⟩
   case round =>
    obtain⟨k,rfl,hk,HI⟩:=hrel;by_cases hlt:k<es.length
    ·have HEC:=hd_ (HED.out k hlt wr (z0r HA.out HI.out));obtain⟨⟨d0,d1⟩,k0,k1,k2,k3,k4⟩:=HX.out wr HI.out;have HLT:=hd_ hlt;clear hlt;go_wp2_with fail;refine HEC.out.mono ?_;rintro e w5 ⟨⟨n,rfl⟩,hb⟩;dsimp only;have HB:=hd_ (z0r HI.out hb);obtain⟨b,q⟩:∃ b,(n != 0)=b:=⟨_,rfl⟩;clear hb HEC d0 d1 k0 k1 k2 k3 k4;cases b with
     | true =>
      go_wp2_with fail;go_ret;exact HRT.out _ _ HB.out
     | false =>
      go_wp2_with fail;go_roundw
      case rel=>exact⟨k+1,by go_num,by have:=HLT.out;omega,HB⟩
      case measure=>have:=HLT.out;simp [intOf];omega
    ·have hke:k=es.length:=by omega
     subst hke;have HB2:=hd_ HI.out;have hge:¬((es.length:Int)<(es.length:Int)):=by omega
     obtain⟨-,k0,k1,k2,k3,k4⟩:=HX.out wr HI.out;clear HI;go_wp2_with fail;clear k0 k1 k2 k3 k4;go_loopw [66] (fun i wr=>∃ k:Nat,i=.int .i64 k∧k≤es.length∧Hid (zB W1 wr)) (fun i _=>es.length - (intOf i).toNat)
     case atStart=>exact⟨0,rfl,Nat.zero_le _,HB2⟩
     case round =>
      obtain⟨k,rfl,hk,HI⟩:=hrel;by_cases hlt:k<es.length
      ·obtain⟨ad,rfl,hab,x0,x1,x2,x3,x4,x5,x6,x7,x8,x9,x10,x11⟩:=(HEV.out wr (z0r HA.out HI.out)).at_ hlt;generalize es[k]=x at x0 x1 x2 x3 x4 x5 x6 x7 x8 x9 x10 x11;have hX:zB wr (wr.alloc (.cells #[.string x.path,.int .i64 x.act,.int .i64 x.ty.base,.bool x.ty.k,.bool x.ty.l,.bool x.ty.x,.int .u64 x.sum,.int .i64 x.size,.int .i64 x.base,.string x.frm,.int .i64 x.fnum,.int .i64 x.fence] 100)):=(Below.refl _ _).alloc (Nat.le_refl _) _;have hN:=z0l wr [.string x.path,.int .i64 x.act,.int .i64 x.ty.base,.bool x.ty.k,.bool x.ty.l,.bool x.ty.x,.int .u64 x.sum,.int .i64 x.size,.int .i64 x.base,.string x.frm,.int .i64 x.fnum,.int .i64 x.fence] 100;have HB:=hd_ (z0r HI.out hX);have HLT:=hd_ hlt;clear hX hab hlt;go_upto_region 21 with fail;clear x0 x1 x2 x3 x4 x5 x6 x7 x8 x9 x10 x11;generalize wr.alloc (.cells #[.string x.path,.int .i64 x.act,.int .i64 x.ty.base,.bool x.ty.k,.bool x.ty.l,.bool x.ty.x,.int .u64 x.sum,.int .i64 x.size,.int .i64 x.base,.string x.frm,.int .i64 x.fnum,.int .i64 x.fence] 100)=W5 at hN HB ⊢;generalize wr.heap.size=g10 at hN ⊢;obtain⟨y0,y1,y2,y3,y4,y5,y6,y7,y8,y9,y10,y11⟩:=z81 hN;obtain⟨-,k0,k1,k2,k3,k4⟩:=HX.out W5 HB.out;have HMC:=hd_ (HMV.out x W5 (z0r HA.out HB.out));generalize zhs es x=b at HMC;clear hN;cases b
       all_goals
        go_wp2_with fail;refine HMC.out.mono ?_;rintro e w6 ⟨rfl,hb⟩;dsimp only;have HB6:=hd_ (z0r HB.out hb);clear hb y0 y1 y2 y3 y4 y5 y6 y7 y8 y9 y10 y11 k0 k1 k2 k3 k4 HMC
       ·go_wp2_with fail;go_ret;exact HRT.out _ _ HB6.out
       ·go_wp2_with fail;go_roundw
        case rel=>exact⟨k+1,by go_num,by have:=HLT.out;omega,HB6⟩
        case measure=>have:=HLT.out;simp [intOf];omega
      ·have hke:k=es.length:=by omega
       subst hke;have HB3:=hd_ HI.out;have hge:¬((es.length:Int)<(es.length:Int)):=by omega
       obtain⟨-,k0,k1,k2,k3,k4⟩:=HX.out wr HI.out;clear HI;go_wp2_with fail;clear k0 k1 k2 k3 k4;go_loopw [78] (fun i wr=>i=.int .i64 0∧Hid (zB W1 wr)) (fun i _=>0)
       case atStart=>exact⟨rfl,HB3⟩
       case round =>
        obtain⟨rfl,HI⟩:=hrel;obtain⟨⟨d0,d1⟩,k0,k1,k2,k3,k4⟩:=HX.out wr HI.out;obtain⟨b,q⟩:∃ b,decide ((512:Int)<(D.length:Int)+(es.length:Int))=b:=⟨_,rfl⟩;have hwz:IntKind.i64.wrap ((D.length:Int)+(es.length:Int))=(D.length:Int)+(es.length:Int):=by rw[IntKind.wrap_i64];omega
        cases b
        all_goals
         go_wp2_with fail;go_ret;exact HRT.out _ _ HI.out
section
variable {u0 u1 u2 u3 u4 u5 u6 u7 u8 u9 gA gC gD gE gF gG gH gI gJ gK gL gM gN gO gP gQ gR gT gV gW gX gY gZ i6 i7 i8 ia ib ic ie ig ii ij ik il im io ip iq ir : Value}
theorem zhx (n:Int)(es:List Edt)(k:Nat)(h:k<es.length):((es.take (k+1)).map (zhj n)).flatMap Rev.cells=((es.take k).map (zhj n)).flatMap Rev.cells++(zhj n es[k]).cells:=by
 rw[List.take_succ_eq_append_getElem h,List.map_append,List.flatMap_append,List.map_cons,List.map_nil,List.flatMap_cons,List.flatMap_nil,List.append_nil]
theorem zhy (l:List Rev):∀ u∈l.flatMap Rev.cells,u.oneCell'=true:=by
 intro u hu;obtain⟨x,-,hx⟩:=List.mem_flatMap.1 hu;simp only[Rev.cells,List.mem_cons,List.not_mem_nil,or_false] at hx
 rcases hx with rfl | rfl | rfl | rfl | rfl | rfl | rfl | rfl | rfl | rfl | rfl | rfl <;> rfl
theorem zhz {w w':World}{row:Option Nat}(h:w.grownBy w' row)(hr:row=none):zB w w':=⟨h.os,h.tape,h.output,h.size,fun k hk=>h.block k hk (by rw[hr];exact fun e=>by cases e)⟩
theorem zi0 (A:Option Addr)(c:Nat)(w:World):Calls prog 104 #[.slice A 0 c] w fun e w'=>e=.returned (.slice A 0 c)∧zB w w':=by
 go_enter func104,ntmps104;go_wp2_with fail;go_loopw [7] (fun i wr=>i=.int .i64 0∧wr=w) (fun i _=>0)
 case atStart=>exact⟨rfl,rfl⟩
 case round =>
  obtain⟨rfl,rfl⟩:=hrel;go_wp2_with fail;go_ret;exact⟨rfl,Below.refl _ _⟩
structure WaR (V wx:World)(g7:Nat)(v1 v2:Value)(n:Nat)(xs:List Value):Prop where
 bel:zB V wx
 le:V.heap.size≤g7
 box:Blk wx g7 27 [v1,v2]
 one:wx.ownsRow V.heap.size 90 12 v1 n xs
 ne1:v1.ownBlock≠some g7
theorem WaR.push {V wr X w5:World}{g7:Nat}{v1 v2 v3:Value}{n n':Nat}{xs xs':List Value}(h:WaR V wr g7 v1 v2 n xs)(hX:zB wr X)(ho:w5.ownsRow V.heap.size 90 12 v3 n' xs')(hg:X.grownBy w5 v1.ownBlock)(hw:v3.ownBlock=v1.ownBlock∨v3.ownBlock=some X.heap.size):
  WaR V (w5.setCell ⟨g7,0,none⟩ v3) g7 v3 v2 n' xs':=by
 have l1:=h.one.lt;have lb:=h.box.lt;have hs:=hX.size;have n3:v3.ownBlock≠some g7:=fun e=>by
  rcases hw with hw | hw
  ·exact h.ne1 (hw ▸ e)
  ·rw[hw] at e;injection e with e;omega
 have b5:zB V w5:=(z0r h.bel hX).grown hg (by have:=h.bel.size;omega) (fun k e=>(l1 k e).1)
 exact⟨b5.setCell (p:=⟨g7,0,none⟩) h.le _,h.le,((h.box.below hX lb).grown hg (fun e=>h.ne1 e.symm)).set_ 0 v3,z4x ho (p:=⟨g7,0,none⟩) n3 _,n3⟩
theorem WaR.under {V wr X:World}{g7:Nat}{v1 v2:Value}{n:Nat}{xs:List Value}(h:WaR V wr g7 v1 v2 n xs)(hX:zB wr X):WaR V X g7 v1 v2 n xs:=
 ⟨z0r h.bel hX,h.le,h.box.below hX h.box.lt,z0n h.one hX,h.ne1⟩
theorem waR9 (ops:Array Oper)(hops:Tryz.f56.body.bind (z0x 9)=some ops)(Q:Exit→Act→World→Prop)(g3 g7 g9 n:Nat)(num:Int)(cl tx:ByteArray)(Ae Ac:Option Addr)(ne nc ce cc:Nat)(x:Edt)(r:Rev)(v1:Value)(xs:List Value)(V V1:World)
  (hR:WaR V V1 g7 v1 (.slice none 0 0) n xs) (hB:Blk V1 g9 100 [.string x.path,.int .i64 x.act,.int .i64 x.ty.base,.bool x.ty.k,.bool x.ty.l,.bool x.ty.x,.int .u64 x.sum,.int .i64 x.size,.int .i64 x.base,.string x.frm,.int .i64 x.fnum,.int .i64 x.fence]) (hC:Blk V1 g3 105 [.int .i64 num,.string cl,.string tx,.slice Ae ne ce,.slice Ac nc cc]) (hn:n≤100000)
  (hrev:∀ X,zB V1 X→Calls prog 103 #[.agg #[.int .i64 num,.string cl,.string tx,.slice Ae ne ce,.slice Ac nc cc],.agg #[.string x.path,.int .i64 x.act,.int .i64 x.ty.base,.bool x.ty.k,.bool x.ty.l,.bool x.ty.x,.int .u64 x.sum,.int .i64 x.size,.int .i64 x.base,.string x.frm,.int .i64 x.fnum,.int .i64 x.fence]] X fun e w'=>e=.returned (.agg #[.string r.path,.int .i64 r.num,.int .i64 r.chg,.int .i64 r.act,.int .i64 r.ty.base,.bool r.ty.k,.bool r.ty.l,.bool r.ty.x,.int .u64 r.sum,.int .i64 r.size,.string r.frm,.int .i64 r.fnum])∧zB X w')
  (hQ:∀(eN eO eP eQ eR eS eT eU:Value) (v3:Value) (w':World),Hid (WaR V w' g7 v3 (.slice none 0 0) (n+1) (xs++[.string r.path,.int .i64 r.num,.int .i64 r.chg,.int .i64 r.act,.int .i64 r.ty.base,.bool r.ty.k,.bool r.ty.l,.bool r.ty.x,.int .u64 r.sum,.int .i64 r.size,.string r.frm,.int .i64 r.fnum]))→Q .normal ⟨#[u0,u1,u2,.pointer (some ⟨g3,0,none⟩),u4,u5,u6,.pointer (some ⟨g7,0,none⟩),u8,.pointer (some ⟨g9,0,none⟩),gA,gC,gD,gE,gF,gG,gH,gI,gJ,gK,gL,gM,gN,gO,gP,gQ,gR,gT,gV,gW,eN,eO,eP,eQ,eR,eS,eT,eU,ic,ie,ig,ii,ij,ik,il,im,io,ip,iq,ir],[]⟩ w'):
  (Code.region 9 ops true).wp prog Q ⟨#[u0,u1,u2,.pointer (some ⟨g3,0,none⟩),u4,u5,u6,.pointer (some ⟨g7,0,none⟩),u8,.pointer (some ⟨g9,0,none⟩),gA,gC,gD,gE,gF,gG,gH,gI,gJ,gK,gL,gM,gN,gO,gP,gQ,gR,gT,gV,gW,gX,gY,gZ,i6,i7,i8,ia,ib,ic,ie,ig,ii,ij,ik,il,im,io,ip,iq,ir],[]⟩ V1:=by
 simp only[Tryz.f56,Option.bind_some,z0x] at hops
 simp at hops
 subst hops;obtain⟨A1,c1,hv1⟩:=z0o hR.one;subst hv1;have HQ:=hd_ hQ;have HR:=hd_ hR;have HB:=hd_ hB;have HC:=hd_ hC;have HRV2:=hd_ hrev;clear hQ hR hB hrev hC;have f0:V1.cell? ⟨g7,0,none⟩=some (.slice A1 n c1):=HR.out.box.cell 0;obtain⟨c0,c1',c2,c3,c4,c5,c6,c7,c8,c9,c10,c11⟩:=z81 HB.out;obtain⟨k0,k1,k2,k3,k4⟩:=zhi HC.out;refine wp_region_noPanic ?_;go_region_law (first
  | (refine z0t rfl rfl zge (z0n (z0n HR.out.one hS5) ((Below.refl _ _).alloc (Nat.le_refl _) _)) (by simp [Act.eval,Act.put]) (z0i w5 [.string r.path,.int .i64 r.num,.int .i64 r.chg,.int .i64 r.act,.int .i64 r.ty.base,.bool r.ty.k,.bool r.ty.l,.bool r.ty.x,.int .u64 r.sum,.int .i64 r.size,.string r.frm,.int .i64 r.fnum] _ 12 1 rfl (by decide) _ rfl) (by simp [Act.eval,Act.put]) (by simp [Value.oneCell']) (by omega) (by unfold maxLen;omega) (by have:=hS5.size;have:=HR.out.bel.size;simp;omega) ?_;intro A6 c6' w6 hO6 hG6 hw6;have hbx:=(HR.out.box.below (z0r hS5 ((Below.refl _ _).alloc (Nat.le_refl _) _)) HR.out.box.lt).grown hG6 (fun e=>HR.out.ne1 e.symm);obtain⟨b0,b1,g0,g1⟩:=box2 hbx)
  | (go_simp;go_at_call 103;refine (HRV2.out _ (Below.refl _ _).drew).mono ?_;rintro e w5 ⟨rfl,hX5⟩;have hS5:zB V1 w5:=(Below.refl _ _).drew.trans hX5;have f5:w5.cell? ⟨g7,0,none⟩=some (.slice A1 n c1):=(HR.out.box.below hS5 HR.out.box.lt).cell 0;have f6:(w5.alloc (.cells #[.string r.path,.int .i64 r.num,.int .i64 r.chg,.int .i64 r.act,.int .i64 r.ty.base,.bool r.ty.k,.bool r.ty.l,.bool r.ty.x,.int .u64 r.sum,.int .i64 r.size,.string r.frm,.int .i64 r.fnum] 90)).cell? ⟨g7,0,none⟩=some (.slice A1 n c1):=(HR.out.box.below (hS5.alloc hS5.size _) HR.out.box.lt).cell 0))
 all_goals exact NoPanic.normal (HQ.out _ _ _ _ _ _ _ _ _ _ (HR.out.push (z0r hS5 ((Below.refl _ _).alloc (Nat.le_refl _) _)) hO6 hG6 hw6))
theorem waR11 (ops:Array Oper)(hops:Tryz.f56.body.bind (z0x 11)=some ops)(Q:Exit→Act→World→Prop)(g2 g3 g7 n:Nat)(num:Int)(cl tx:ByteArray)(Aq Ae:Option Addr)(ne cq ce:Nat)(v0 v1:Value)(xs:List Value)(V V1:World)
  (hR:WaR V V1 g7 v1 (.slice none 0 0) n xs) (hD:Blk V1 g2 27 [v0,.slice Aq 0 cq]) (hC:Blk V1 g3 105 [.int .i64 num,.string cl,.string tx,.slice Ae ne ce,.slice none 0 0]) (hQd:z4e V1 (.slice Aq 0 cq) [])
  (hQ:∀(eW eX eY eZ fd fe ff fg fh fi:Value) (A2:Option Addr) (c2:Nat) (w':World),Hid (zB V w'∧Blk w' g7 27 [v1,.slice A2 0 c2]∧w'.ownsRow V.heap.size 90 12 v1 n xs∧z4e w' (.slice A2 0 c2) [])→Q .normal ⟨#[u0,u1,.pointer (some ⟨g2,0,none⟩),.pointer (some ⟨g3,0,none⟩),u4,u5,u6,.pointer (some ⟨g7,0,none⟩),u8,u9,gA,gC,gD,gE,gF,gG,gH,gI,gJ,gK,gL,gM,gN,gO,gP,gQ,gR,gT,gV,gW,gX,gY,gZ,i6,i7,i8,ia,ib,ic,eW,eX,eY,eZ,fd,fe,ff,fg,fh,fi,ir],[]⟩ w'):
  (Code.region 11 ops true).wp prog Q ⟨#[u0,u1,.pointer (some ⟨g2,0,none⟩),.pointer (some ⟨g3,0,none⟩),u4,u5,u6,.pointer (some ⟨g7,0,none⟩),u8,u9,gA,gC,gD,gE,gF,gG,gH,gI,gJ,gK,gL,gM,gN,gO,gP,gQ,gR,gT,gV,gW,gX,gY,gZ,i6,i7,i8,ia,ib,ic,ie,ig,ii,ij,ik,il,im,io,ip,iq,ir],[]⟩ V1:=by
 simp only[Tryz.f56,Option.bind_some,z0x] at hops
 simp at hops
 subst hops;have HQ:=hd_ hQ;have HR:=hd_ hR;have HQD:=hd_ hQd;have HFF:Hid (∀ w',zB V1 w'→w'.cell? ⟨g2,1,none⟩=some (.slice Aq 0 cq)∧w'.cell? ⟨g3,4,none⟩=some (.slice none 0 0)∧w'.cell? ⟨g7,1,none⟩=some (.slice none 0 0)∧w'.frozen? ⟨g7,1,none⟩=false):=hd_ fun w' hb=>by
  obtain⟨-,a,-,-⟩:=box2 (hD.below hb hD.lt);obtain⟨-,-,-,-,b⟩:=zhi (hC.below hb hC.lt);obtain⟨-,c,-,d⟩:=box2 (hR.box.below hb hR.box.lt);exact⟨a,b,c,d⟩
 have HEND:Hid (∀(A6:Option Addr) (c6:Nat) (w6 w7:World),zB V1 w7→w6.ownsRow V1.heap.size 156 6 (.slice A6 0 c6) 0 []→zB w6 w7→zB V (w7.setCell ⟨g7,1,none⟩ (.slice A6 0 c6))∧Blk (w7.setCell ⟨g7,1,none⟩ (.slice A6 0 c6)) g7 27 [v1,.slice A6 0 c6]∧(w7.setCell ⟨g7,1,none⟩ (.slice A6 0 c6)).ownsRow V.heap.size 90 12 v1 n xs∧z4e (w7.setCell ⟨g7,1,none⟩ (.slice A6 0 c6)) (.slice A6 0 c6) []):=hd_ fun A6 c6 w6 w7 h7 ho h67=>by
  refine⟨(z0r HR.out.bel h7).setCell (p:=⟨g7,1,none⟩) HR.out.le _,(HR.out.box.below h7 HR.out.box.lt).set_ 1 _,z4x (z0n HR.out.one h7) (p:=⟨g7,1,none⟩) HR.out.ne1 _,?_⟩;obtain⟨A,c,e,hc,hm,hl,h0,-⟩:=Row.of_own ho;exact⟨A,c,e,hc,hm,hl,h0,fun h=>absurd h (by decide)⟩
 clear hQ hR hD hC hQd;obtain⟨f0,f1,f2,f3⟩:=HFF.out V1 (Below.refl _ _);refine wp_region_noPanic ?_;go_region_law (first
  | (refine z0t (base:=V1.heap.size) (n:=0) (m:=0) (xs:=[]) (news:=[]) rfl rfl zgf (World.ownsRow_nil _ _ _ _) (by simp [Act.eval,Act.put];done) (HQD.out.below (Below.refl _ _).drew) (by simp [Act.eval,Act.put];done) (fun u h=>by cases h) (by omega) (by unfold maxLen;omega) (Below.size (B:=V1.heap.size) (w:=V1) (Below.refl _ _).drew) ?_;intro A5 c5 w5 hO5 hG5 hw5;have hX5:=zhz hG5 rfl;have hS5:zB V1 w5:=z0r (Below.refl _ _).drew hX5;obtain⟨f4,f5,f6,f7⟩:=HFF.out w5 hS5)
  | (refine z0t (m:=0) (news:=[]) rfl rfl zgf hO5 (by simp [Act.eval,Act.put];done) (z4e.nil_ w5) (by simp [Act.eval,Act.put];done) (fun u h=>by cases h) (by omega) (by unfold maxLen;omega) hS5.size ?_;intro A6 c6 w6 hO6 hG6 hw6;have hS6:zB V1 w6:=hS5.grown hG6 hS5.size (fun k e=>(hO5.lt k e).1);obtain⟨f8,f9,f10,f11⟩:=HFF.out w6 hS6)
  | (go_simp;go_at_call 104;refine (zi0 A6 c6 w6).mono ?_;rintro e w7 ⟨rfl,hG7⟩;have hS7:zB V1 w7:=z0r hS6 hG7;obtain⟨f12,f13,f14,f15⟩:=HFF.out w7 hS7))
 all_goals exact NoPanic.normal (HQ.out _ _ _ _ _ _ _ _ _ _ _ _ _ (HEND.out A6 c6 w6 w7 hS7 hO6 hG7))
def zi1 (w:World)(D:List Rev)(es:List Edt)(num:Int)(e:Ending)(w':World):Prop:=
 zB w w'∧((∃ n:Int,n≠0∧e=.returned (.tuple #[.agg #[.slice none 0 0,.slice none 0 0],.int .i64 n])) ∨
  ∃(A A2:Option Addr) (c c2:Nat),e=.returned (.tuple #[.agg #[.slice A (D.length+es.length) c,.slice A2 0 c2],.int .i64 0])∧z4c w' (.slice A (D.length+es.length) c) (D++es.map (zhj num))∧(∀ x,(Value.slice A (D.length+es.length) c).ownBlock=some x→w.heap.size≤x∧x<w'.heap.size)∧z4e w' (.slice A2 0 c2) [])
def WaI (V wr:World)(g7:Nat)(D:List Rev)(es:List Edt)(num:Int)(k:Nat):Prop:=∃ v1,WaR V wr g7 v1 (.slice none 0 0) (D.length+k) (D.flatMap Rev.cells++((es.take k).map (zhj num)).flatMap Rev.cells)
theorem zi2 (D:List Rev)(es:List Edt)(num:Int)(Ar Aq Ae:Option Addr)(cr cq ce:Nat)(w:World)(he:Env w)(hR:z4c w (.slice Ar D.length cr) D)(hl:D.length≤1000)(hE:z4d w (.slice Ae es.length ce) es)(hel:es.length≤6)
  (hsz:∀ e∈es,e.path.size≤2000000∧0≤e.base∧e.base≤1000000) (hQ:z4e w (.slice Aq 0 cq) []):
  Calls prog 56 #[.agg #[.slice Ar D.length cr,.slice Aq 0 cq],.agg #[.int .i64 num,.string ⟨#[]⟩,.string ⟨#[]⟩,.slice Ae es.length ce,.slice none 0 0]] w (zi1 w D es num):=by
 have HEN:=hd_ he;have HR:=hd_ hR;have HQ:=hd_ hQ;have HE:=hd_ hE;have HSZ:=hd_ hsz;obtain⟨W1,hW1⟩:∃ W,W=((w.alloc (.cells #[.slice Ar D.length cr,.slice Aq 0 cq] 27)).alloc (.cells #[.int .i64 num,.string ⟨#[]⟩,.string ⟨#[]⟩,.slice Ae es.length ce,.slice none 0 0] 105)).alloc (.cells #[.slice none 0 0,.slice none 0 0] 27):=⟨_,rfl⟩;have hb1:zB w W1:=by rw[hW1];exact (((Below.refl _ _).alloc (Nat.le_refl _) _).alloc (by simp) _).alloc (by simp;omega) _
 have hD1:Blk W1 w.heap.size 27 [.slice Ar D.length cr,.slice Aq 0 cq]:=by rw[hW1];exact ((z0l w _ _).alloc _).alloc _
 have hC1:Blk W1 (w.heap.size+1) 105 [.int .i64 num,.string ⟨#[]⟩,.string ⟨#[]⟩,.slice Ae es.length ce,.slice none 0 0]:=by
  rw[hW1];have:=z0l (w.alloc (.cells #[.slice Ar D.length cr,.slice Aq 0 cq] 27)) [.int .i64 num,.string ⟨#[]⟩,.string ⟨#[]⟩,.slice Ae es.length ce,.slice none 0 0] 105;simp only[World.size_alloc] at this
  exact this.alloc _
 have hZ1:Blk W1 (w.heap.size+1+1) 27 [.slice none 0 0,.slice none 0 0]:=by
  rw[hW1];have:=z0l ((w.alloc (.cells #[.slice Ar D.length cr,.slice Aq 0 cq] 27)).alloc (.cells #[.int .i64 num,.string ⟨#[]⟩,.string ⟨#[]⟩,.slice Ae es.length ce,.slice none 0 0] 105)) [.slice none 0 0,.slice none 0 0] 27;simp only[World.size_alloc] at this
  exact this
 have HW1:=hd_ hW1;have Hb1:=hd_ hb1;have HD1:=hd_ hD1;have HC1:=hd_ hC1;have HZ1:=hd_ hZ1;have HCK:=hd_ (zhw D es num Ar Aq Ae cr cq ce W1 (he.below hb1) (z4c.below hR hb1) hl (z4d.below hE hb1) hel hsz);clear hW1 hb1 hD1 hC1 hZ1 he hR hE hsz hQ;go_enter func56,ntmps56;go_upto_region 1 with fail;rw[← HW1.out];obtain⟨d0,d1,-,-⟩:=box2 HD1.out;obtain⟨k0,k1,k2,k3,k4⟩:=zhi HC1.out;go_wp2_with fail;refine HCK.out.mono ?_;rintro e w2 ⟨⟨e0,rfl⟩,hb2⟩;dsimp only;have HB2:=hd_ hb2;clear hb2 d0 d1 k0 k1 k2 k3 k4 HCK;have HF:=hd_ (fun(W:World) (n:Int) (hb:zB w W) (hn:n≠0)=>(⟨hb,.inl ⟨n,hn,rfl⟩⟩:zi1 w D es num (.returned (.tuple #[.agg #[.slice none 0 0,.slice none 0 0],.int .i64 n])) W));by_cases h0:e0=0
 case neg =>
  have q:(e0 != 0)=true:=by simpa using h0
  have HN:=hd_ h0;clear h0;have hR4:=HZ1.out.below HB2.out HZ1.out.lt;obtain⟨r0,r1,f0,f1⟩:=box2 hR4;have HBX:=hd_ (z0r Hb1.out HB2.out);go_wp2_with fail;have hR5:=(hR4.set_ 0 (.slice none 0 0)).set_ 1 (.slice none 0 0);have hB5:=(HBX.out.setCell (p:=⟨w.heap.size+1+1,0,none⟩) (by simp;omega) (.slice none 0 0)).setCell (p:=⟨w.heap.size+1+1,1,none⟩) (by simp;omega) (.slice none 0 0)
  clear r0 r1 f0 f1 hR4;generalize (w2.setCell ⟨w.heap.size+1+1,0,none⟩ (.slice none 0 0)).setCell ⟨w.heap.size+1+1,1,none⟩ (.slice none 0 0)=W5 at hR5 hB5 ⊢;obtain⟨r0,r1,-,-⟩:=box2 hR5;refine bodyPost_ret (v:=.tuple #[.agg #[.slice none 0 0,.slice none 0 0],.int .i64 e0]) (by simp [results,results56,go_sem,r0,r1]) rfl (HF.out W5 e0 hB5 HN.out)
 subst h0;clear HF;have hO7:=z0l w2 [.slice none 0 0,.slice none 0 0] 27;have hA3:zB w2 (w2.alloc (.cells #[.slice none 0 0,.slice none 0 0] 27)):=(Below.refl _ _).alloc (Nat.le_refl _) _;go_upto_region 5 with fail;generalize w2.alloc (.cells #[.slice none 0 0,.slice none 0 0] 27)=w3 at hO7 hA3 ⊢;have hW3:=z0r HB2.out hA3;obtain⟨d0,d1,-,-⟩:=box2 (HD1.out.below hW3 HD1.out.lt);obtain⟨p0,p1,p2,p3⟩:=box2 hO7;have hRW:=z4c.below HR.out (z0r Hb1.out hW3);have HO7:=hd_ hO7;have HA3:=hd_ hA3;have HRW:=hd_ hRW;clear hO7 hA3 hW3 hRW;go_upto_region 6 with (at_builtin;refine z0j (base:=w3.heap.size) (n:=0) (xs:=[]) rfl rfl zge (World.ownsRow_nil _ _ _ _) rfl HRW.out rfl (zhy _) (by omega) (by unfold maxLen;omega) (Nat.le_refl _) ?_;intro A5 c5 w5 hO5 hG5 hw5;have hX5:=zhz hG5 rfl;obtain⟨t0,t1,t2,t3⟩:=box2 (HO7.out.below hX5 HO7.out.lt))
 rw[Nat.zero_add,List.nil_append] at hO5;have hAP:WaI w2 (w5.setCell ⟨w2.heap.size,0,none⟩ (.slice A5 D.length c5)) w2.heap.size D es num 0:=by
  have hlt:=HO7.out.lt;have n5:(Value.slice A5 D.length c5).ownBlock≠some w2.heap.size:=fun e=>by have:=(hO5.lt _ e).1;omega
  refine⟨.slice A5 D.length c5,(z0r HA3.out hX5).setCell (p:=⟨w2.heap.size,0,none⟩) (Nat.le_refl _) _,Nat.le_refl _,(HO7.out.below hX5 hlt).set_ 0 _,?_,n5⟩;rw[List.take_zero,List.map_nil,List.flatMap_nil,List.append_nil];exact z4v (z4x hO5 (p:=⟨w2.heap.size,0,none⟩) n5 _) (Nat.le_of_lt hlt)
 generalize w5.setCell ⟨w2.heap.size,0,none⟩ (.slice A5 D.length c5)=w6 at hAP ⊢;have HAP:=hd_ hAP;have HW6:Hid (zB W1 w6):=hd_ (by obtain⟨v1,h⟩:=hAP;exact z0r HB2.out h.bel)
 clear t0 t1 t2 t3 d0 d1 p0 p1 p2 p3 hO5 hG5 hw5 hX5 hAP;obtain⟨k0,k1,k2,k3,k4⟩:=zhi (HC1.out.below HW6.out HC1.out.lt);have HMD:=hd_ (fun x (hx:x∈es) X=>zhk num ⟨#[]⟩ ⟨#[]⟩ Ae none es.length 0 ce 0 x X (HSZ.out x hx).2);go_upto_block 0 with fail
 clear k0 k1 k2 k3 k4;go_cut [] (fun wx=>Hid (WaI w2 wx w2.heap.size D es num es.length))
 case first =>
  go_wp2_with fail;go_loopw [26] (fun s wr=>∃ k:Nat,s=.int .i64 k∧k≤es.length∧Hid (WaI w2 wr w2.heap.size D es num k)) (fun s _=>es.length - (intOf s).toNat)
  case atStart=>exact⟨0,rfl,Nat.zero_le _,HAP.out⟩
  case round =>
   obtain⟨k,rfl,hk,HI⟩:=hrel;by_cases hlt:k<es.length
   ·obtain⟨v1,hAP⟩:=HI.out;obtain⟨ad,rfl,hab,hld⟩:=z4d.at_ (HE.out.below (z0r (z0r Hb1.out HB2.out) hAP.bel)) hlt;have HNX:Hid (∀ v3 w',WaR w2 w' w2.heap.size v3 (.slice none 0 0) (D.length+k+1) (D.flatMap Rev.cells++((es.take k).map (zhj num)).flatMap Rev.cells++(zhj num es[k]).cells)→WaI w2 w' w2.heap.size D es num (k+1)):=hd_ (fun v3 w' h=>⟨v3,by rw[zhx _ _ _ hlt,← List.append_assoc];exact h⟩)
    have HM1:=hd_ (HMD.out es[k] (List.getElem_mem hlt));have HKB:Hid (D.length+k≤100000):=hd_ (by omega)
    generalize es[k]=x at hld HNX HM1;generalize zhj num x=r at HNX HM1;generalize D.flatMap Rev.cells++((es.take k).map (zhj num)).flatMap Rev.cells=xs at hAP HNX;obtain⟨x0,x1,x2,x3,x4,x5,x6,x7,x8,x9,x10,x11⟩:=hld;have hX:=z0l wr [.string x.path,.int .i64 x.act,.int .i64 x.ty.base,.bool x.ty.k,.bool x.ty.l,.bool x.ty.x,.int .u64 x.sum,.int .i64 x.size,.int .i64 x.base,.string x.frm,.int .i64 x.fnum,.int .i64 x.fence] 100;have hA1:zB wr (wr.alloc (.cells #[.string x.path,.int .i64 x.act,.int .i64 x.ty.base,.bool x.ty.k,.bool x.ty.l,.bool x.ty.x,.int .u64 x.sum,.int .i64 x.size,.int .i64 x.base,.string x.frm,.int .i64 x.fnum,.int .i64 x.fence] 100)):=(Below.refl _ _).alloc (Nat.le_refl _) _;have HAP1:=hd_ hAP;clear hAP;go_upto_region 9 with fail;clear x0 x1 x2 x3 x4 x5 x6 x7 x8 x9 x10 x11;generalize wr.alloc (.cells #[.string x.path,.int .i64 x.act,.int .i64 x.ty.base,.bool x.ty.k,.bool x.ty.l,.bool x.ty.x,.int .u64 x.sum,.int .i64 x.size,.int .i64 x.base,.string x.frm,.int .i64 x.fnum,.int .i64 x.fence] 100)=V1 at hX hA1 ⊢;generalize wr.heap.size=g9 at hX ⊢;have HX:=hd_ hX;have HA1:=hd_ (HAP1.out.under hA1);clear hX hA1;refine waR9 _ (by kernel_rfl) _ (w.heap.size+1) w2.heap.size g9 (D.length+k) num ⟨#[]⟩ ⟨#[]⟩ (some ad) none es.length 0 ce 0 x r v1 xs w2 V1 HA1.out HX.out (HC1.out.below (z0r HB2.out HA1.out.bel) HC1.out.lt) HKB.out (fun X _=>HM1.out X) ?_
    intro eN eO eP eQ eR eS eT eU v3 w7 H7;have HR7:=hd_ (HNX.out v3 w7 H7.out);clear H7;go_wp2_with fail;go_roundw
    case rel=>exact⟨k+1,by go_num,by omega,HR7.out⟩
    case measure=>simp [intOf];omega
   ·have hke:k=es.length:=by omega
    have q:decide ((k:Int)<(es.length:Int))=false:=by simp;omega
    have q':decide (k<es.length)=false:=by simp;omega
    have HZ:Hid (WaI w2 wr w2.heap.size D es num es.length):=hd_ (by rw[← hke];exact HI.out)
    clear hke;go_wp2_with fail;go_meet
    exact HZ.out
 case rest =>
  obtain⟨v1,hAP⟩:=hcut.out;rw[List.take_length,← List.flatMap_append] at hAP;have HAP2:=hd_ hAP;have HWC:Hid (zB W1 wc):=hd_ (z0r HB2.out hAP.bel);clear hAP hcut;go_upto_region 11 with fail;refine waR11 _ (by kernel_rfl) _ w.heap.size (w.heap.size+1) w2.heap.size (D.length+es.length) num ⟨#[]⟩ ⟨#[]⟩ Aq Ae es.length cq ce (.slice Ar D.length cr) v1 _ w2 wc HAP2.out (HD1.out.below HWC.out HD1.out.lt) (HC1.out.below HWC.out HC1.out.lt) (z4e.below HQ.out (z0r Hb1.out HWC.out)) ?_
  intro eW eX eY eZ fd fe ff fg fh fi A2 c2 w7 H7;obtain⟨A8,c8,hv1⟩:=z0o H7.out.2.2.1;subst hv1;have hB7:=z0r HB2.out H7.out.1;have hR4:=HZ1.out.below hB7 HZ1.out.lt;obtain⟨r0,r1,f0,f1⟩:=box2 hR4;obtain⟨p0,p1,-,-⟩:=box2 H7.out.2.1;have HB7:=hd_ (z0r Hb1.out hB7);have HLT:=hd_ HZ1.out.lt;have HSZ2:=hd_ HB2.out.size;clear hB7;go_wp2_with fail;have hR5:=(hR4.set_ 0 (Value.slice A8 (D.length+es.length) c8)).set_ 1 (Value.slice A2 0 c2);have hB5:=(HB7.out.setCell (p:=⟨w.heap.size+1+1,0,none⟩) (by simp;omega) (Value.slice A8 (D.length+es.length) c8)).setCell (p:=⟨w.heap.size+1+1,1,none⟩) (by simp;omega) (Value.slice A2 0 c2)
  have n1:(Value.slice A8 (D.length+es.length) c8).ownBlock≠some (w.heap.size+1+1):=fun e=>by have:=(H7.out.2.2.1.lt _ e).1;have:=HLT.out;have:=HSZ2.out;omega
  have k2:=z4x (z4x H7.out.2.2.1 (p:=⟨w.heap.size+1+1,0,none⟩) n1 (Value.slice A8 (D.length+es.length) c8)) (p:=⟨w.heap.size+1+1,1,none⟩) n1 (Value.slice A2 0 c2);have k1:=Row.of_own k2;have k3:=k2.lt;clear k2;have hw2:w.heap.size≤w2.heap.size:=by have:=Hb1.out.size;have:=HSZ2.out;omega
  clear r0 r1 f0 f1 hR4 p0 p1;generalize (w7.setCell ⟨w.heap.size+1+1,0,none⟩ (Value.slice A8 (D.length+es.length) c8)).setCell ⟨w.heap.size+1+1,1,none⟩ (Value.slice A2 0 c2)=W5 at hR5 hB5 k1 k3 ⊢;obtain⟨r0,r1,-,-⟩:=box2 hR5;refine bodyPost_ret (v:=.tuple #[.agg #[(Value.slice A8 (D.length+es.length) c8),(Value.slice A2 0 c2)],.int .i64 0]) (by simp [results,results56,go_sem,r0,r1]) rfl ?_
  refine⟨hB5,.inr ⟨A8,A2,c8,c2,rfl,?_,fun x hx=>⟨Nat.le_trans hw2 (k3 x hx).1,(k3 x hx).2⟩,?_⟩⟩
  ·show Row W5 12 _ (D++es.map (zhj num)).length _
   rw[List.length_append,List.length_map];exact k1
  ·obtain⟨A,c,e,hc,hm,hl,h0,-⟩:=H7.out.2.2.2;exact⟨A,c,e,hc,hm,hl,h0,fun h=>absurd h (by decide)⟩
end
