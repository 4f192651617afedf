/- A part. -/
import Derived.Test.YtijghobkkdbhnaaGreatDoorMgw32
set_option linter.unusedVariables false
set_option linter.unusedSimpArgs false
set_option maxHeartbeats 8000000
set_option maxRecDepth 100000
namespace Go.Proofs.YtijghobkkdbhnaaGreatDoor
open Go.RowKit
theorem weT18 (T:Code)(hT:Tryz.f157.body.bind (zi2 18)=some T)(R:Ending→World→Prop)(revs:List Rev)(c:Chg)(x:Edt)(Ar Ae Ac:Option Addr)(dr:Value)(cr ce cc g3 g4 g7:Nat)(w4:World)
  (hR:z45 w4 (.slice Ar revs.length cr) revs) (hl:revs.length≤100000) (hbs:0≤x.base∧x.base≤1000000)
  (hD:Blk w4 g3 27 [.slice Ar revs.length cr,dr]) (hC:Blk w4 g4 105 [.int .i64 c.num,.string c.client,.string c.text,.slice Ae c.edits.length ce,.slice Ac c.recs.length cc]) (hX:Blk w4 g7 100 [.string x.path,.int .i64 x.act,.int .i64 x.ty.base,.bool x.ty.k,.bool x.ty.l,.bool x.ty.x,.int .u64 x.sum,.int .i64 x.size,.int .i64 x.base,.string x.frm,.int .i64 x.fnum,.int .i64 x.fence])
  (hRR:∀(n:Int) (w':World),Below w4.heap.size w4 w'→R (.returned (.int .i64 n)) w')
  (u0 u1 u2 u5 u6 u8 u9 gz gA gC gD gE gF gG gH gI gJ gK gL gM gN gO gP gQ gR gT gV gW gX gY gZ i6 i7 i8 ia ib ic ie ig ii ij ik il im io ip iq ir iu iv iw ix iy iz iA iB iC iD iE iF iG iH iI iJ iK iL iM iN iO iP iQ iR iS iT iU iV iW iX iY iZ j0 j1 j2 j5 j6 j7 j8 j9 jb jd jf jg jh ji jj jk jl bB bD bE bF bG bH bI bJ bK bL bM bN bO bP bQ bT bU bV bW bX bY bZ cj ck cn cx cy cz cA cB cD cF cG cH cI cJ cK cM cN cO cP cQ cS cT cU cW cZ da:Value):
  T.wp Tryz.prog (bodyPost Tryz.prog Tryz.f157 R) ⟨#[u0,u1,u2,.pointer (some ⟨g3,0,none⟩),.pointer (some ⟨g4,0,none⟩),u5,u6,.pointer (some ⟨g7,0,none⟩),u8,u9,gz,gA,gC,gD,gE,gF,gG,gH,gI,gJ,gK,gL,gM,gN,gO,gP,gQ,gR,gT,gV,gW,gX,gY,gZ,i6,i7,i8,ia,ib,ic,ie,ig,ii,ij,ik,il,im,io,ip,iq,ir,iu,iv,iw,ix,iy,iz,iA,iB,iC,iD,iE,iF,iG,iH,iI,iJ,iK,iL,iM,iN,iO,iP,iQ,iR,iS,iT,iU,iV,iW,iX,iY,iZ,j0,j1,j2,j5,j6,j7,j8,j9,jb,jd,jf,jg,jh,ji,jj,jk,jl,bB,bD,bE,bF,bG,bH,bI,bJ,bK,bL,bM,bN,bO,bP,bQ,bT,bU,bV,bW,bX,bY,bZ,cj,ck,cn,cx,cy,cz,cA,cB,cD,cF,cG,cH,cI,cJ,cK,cM,cN,cO,cP,cQ,cS,cT,cU,cW,cZ,da],[]⟩ w4:=by
 simp only[Tryz.f157,Option.bind_some,zi2,zi1] at hT
 simp at hT
 subst hT;have HRR:=hd_ hRR;have HR:=hd_ hR;have HBS:=hd_ hbs;have HX4:=hd_ hX;have HD4:=hd_ hD;have HC4:=hd_ hC;have HLAST:=hd_ (fun p X (hX:Below w4.heap.size w4 X)=>zh8 revs p (.slice Ar revs.length cr) dr X (HR.out.below hX) (by omega))
 clear hRR hR hbs hD hC hX;obtain⟨c0,c1,c2,c3,c4,c5,c6,c7,c8,c9,c10,c11⟩:=z84 HX4.out;have HCK:=hd_ (fun X=>zia x.ty.base x.ty.k x.ty.l x.ty.x X);cases htk:z2j x.ty.base x.ty.k x.ty.x with
 | false =>
  rw[htk] at HCK;clear htk;go_wp2_with fail;refine (HCK.out _).mono ?_;rintro e w5 ⟨rfl,hb5⟩;have HB5:=hd_ hb5;clear hb5;go_wp2_with fail;exact HRR.out _ _ (HB5.out)
 | true =>
  rw[htk] at HCK;clear htk;go_wp2_with fail;refine (HCK.out _).mono ?_;rintro e w5 ⟨rfl,hb5⟩;have HW5:=hd_ hb5;have HX5:=hd_ (HX4.out.below hb5 HX4.out.lt);have HD5:=hd_ (HD4.out.below hb5 HD4.out.lt);have HC5:=hd_ (HC4.out.below hb5 HC4.out.lt);clear hb5 c0 c1 c2 c3 c4 c5 c6 c7 c8 c9 c10 c11;obtain⟨c0,c1,c2,c3,c4,c5,c6,c7,c8,c9,c10,c11⟩:=z84 HX5.out;by_cases hz:x.size<0
  ·have q:decide (x.size<0)=true:=by simp;omega
   clear hz;go_wp2_with fail;exact HRR.out _ _ (HW5.out)
  ·have q:decide (x.size<0)=false:=by simp;omega
   clear hz;obtain⟨d0,d1,-,-⟩:=box2 HD5.out;have HL2:=hd_ (HLAST.out x.path w5 HW5.out);go_wp2_with fail;refine HL2.out.mono ?_;rintro e w6 ⟨rfl,hb6⟩;generalize zeh (zgz revs x.path)=r;generalize (zgz revs x.path).isSome=okb;have hY:=z0l w6 [.string r.path,.int .i64 r.num,.int .i64 r.chg,.int .i64 r.act,.int .i64 r.ty.base,.bool r.ty.k,.bool r.ty.l,.bool r.ty.x,.int .u64 r.sum,.int .i64 r.size,.string r.frm,.int .i64 r.fnum] 90;have hA6:Below w5.heap.size w5 (w6.alloc (.cells #[.string r.path,.int .i64 r.num,.int .i64 r.chg,.int .i64 r.act,.int .i64 r.ty.base,.bool r.ty.k,.bool r.ty.l,.bool r.ty.x,.int .u64 r.sum,.int .i64 r.size,.string r.frm,.int .i64 r.fnum] 90)):=zck hb6 _;clear hb6 c0 c1 c2 c3 c4 c5 c6 c7 c8 c9 c10 c11 d0 d1;go_upto_region 21 with fail;generalize w6.alloc (.cells #[.string r.path,.int .i64 r.num,.int .i64 r.chg,.int .i64 r.act,.int .i64 r.ty.base,.bool r.ty.k,.bool r.ty.l,.bool r.ty.x,.int .u64 r.sum,.int .i64 r.size,.string r.frm,.int .i64 r.fnum] 90)=w7 at hY hA6 ⊢;generalize w6.heap.size=g14 at hY ⊢;have HX7:=hd_ (HX5.out.below hA6 HX5.out.lt);have HC7:=hd_ (HC5.out.below hA6 HC5.out.lt);have HY:=hd_ hY;have HW7:=hd_ (z0r HW5.out hA6);clear hY hA6;obtain⟨c0,c1,c2,c3,c4,c5,c6,c7,c8,c9,c10,c11⟩:=z84 HX7.out;obtain⟨k0,k1,k2,k3,k4⟩:=zi4 HC7.out;have HMD:=hd_ (zi6 c.num c.client c.text Ae Ac c.edits.length c.recs.length ce cc x w7 HBS.out);go_wp2_with fail;refine HMD.out.mono ?_;rintro e w8 ⟨rfl,hb8⟩;have HB8:=hd_ hb8;clear hb8 c0 c1 c2 c3 c4 c5 c6 c7 c8 c9 c10 c11 k0 k1 k2 k3 k4;have HGO:=hd_ (zi3 (zi5 c.num x) w8);go_wp2_with fail;refine HGO.out.mono ?_;rintro e w9 ⟨rfl,hb9⟩;have HB9:=hd_ (z0r HB8.out hb9);clear hb9;obtain⟨c0,c1,c2,c3,c4,c5,c6,c7,c8,c9,c10,c11⟩:=z84 (HX7.out.below HB9.out HX7.out.lt);obtain⟨b0,b1,b2,b3,b4,b5,b6,b7,b8,b9,b10,b11⟩:=z84 (HY.out.below HB9.out HY.out.lt);have hact:(zi5 c.num x).act=x.act:=rfl;rw[hact];clear hact;have hty:=zhy x.ty r.ty;have hcn:=zhz x.sum x.size 0 0;generalize (decide (x.sum=0) && decide (x.size=0))=bc at hcn
   generalize decide (x.ty=r.ty)=bt at hty;cases hlv:z2v x.act with
   | true =>
    clear hlv;go_wp2_with fail;exact HRR.out _ _ (z0r HW7.out HB9.out)
   | false =>
    clear hlv;cases bt with
    | false =>
     go_wp2_with fail;exact HRR.out _ _ (z0r HW7.out HB9.out)
    | true =>
     cases bc with
     | false =>
      go_wp2_with fail;exact HRR.out _ _ (z0r HW7.out HB9.out)
     | true =>
      go_wp2_with fail;exact HRR.out _ _ (z0r HW7.out HB9.out)
theorem add_c (a:Int):((a == 1)=true∧(a == 4)=false)∨((a == 1)=false∧(a == 4)=true)∨((a == 1)=false∧(a == 4)=false):=by
 by_cases h1:a=1
 ·subst h1;exact .inl ⟨rfl,rfl⟩
 ·by_cases h4:a=4
  ·subst h4;exact .inr (.inl ⟨rfl,rfl⟩)
  ·exact .inr (.inr ⟨by simpa using h1,by simpa using h4⟩)
theorem weT8 (T:Code)(hT:Tryz.f157.body.bind (zi2 8)=some T)(R:Ending→World→Prop)(revs:List Rev)(c:Chg)(x:Edt)(Ar Ae Ac:Option Addr)(dr:Value)(cr ce cc g3 g4 g7:Nat)(w3:World)
  (hR:z45 w3 (.slice Ar revs.length cr) revs) (hl:revs.length≤100000)
  (hD:Blk w3 g3 27 [.slice Ar revs.length cr,dr]) (hC:Blk w3 g4 105 [.int .i64 c.num,.string c.client,.string c.text,.slice Ae c.edits.length ce,.slice Ac c.recs.length cc]) (hX:Blk w3 g7 100 [.string x.path,.int .i64 x.act,.int .i64 x.ty.base,.bool x.ty.k,.bool x.ty.l,.bool x.ty.x,.int .u64 x.sum,.int .i64 x.size,.int .i64 x.base,.string x.frm,.int .i64 x.fnum,.int .i64 x.fence])
  (hRR:∀(n:Int) (w':World),Below w3.heap.size w3 w'→R (.returned (.int .i64 n)) w')
  (u0 u1 u2 u5 u6 u8 u9 gC gD gE gF gG gH gI gJ gK gL gM gN gO gP gQ gR gT gV gW gX gY gZ i6 i7 i8 ia ib ic ie ig ii ij ik il im io ip iq ir iu iv iw ix iy iz iA iB iC iD iE iF iG iH iI iJ iK iL iM iN iO iP iQ iR iS iT iU iV iW iX iY iZ j0 j1 j2 j5 j6 j7 j8 j9 jb jd jf jg jh ji jj jk jl bB bD bE bF bG bH bI bJ bK bL bM bN bO bP bQ bT bU bV bW bX bY bZ cj ck cn cx cy cz cA cB cD cF cG cH cI cJ cK cM cN cO cP cQ cS cT cU cW cZ da:Value) (lv:Bool) (ln:Int) (hbs:0≤x.base∧x.base≤1000000):
  T.wp Tryz.prog (bodyPost Tryz.prog Tryz.f157 R) ⟨#[u0,u1,u2,.pointer (some ⟨g3,0,none⟩),.pointer (some ⟨g4,0,none⟩),u5,u6,.pointer (some ⟨g7,0,none⟩),u8,u9,.bool lv,.int .i64 ln,gC,gD,gE,gF,gG,gH,gI,gJ,gK,gL,gM,gN,gO,gP,gQ,gR,gT,gV,gW,gX,gY,gZ,i6,i7,i8,ia,ib,ic,ie,ig,ii,ij,ik,il,im,io,ip,iq,ir,iu,iv,iw,ix,iy,iz,iA,iB,iC,iD,iE,iF,iG,iH,iI,iJ,iK,iL,iM,iN,iO,iP,iQ,iR,iS,iT,iU,iV,iW,iX,iY,iZ,j0,j1,j2,j5,j6,j7,j8,j9,jb,jd,jf,jg,jh,ji,jj,jk,jl,bB,bD,bE,bF,bG,bH,bI,bJ,bK,bL,bM,bN,bO,bP,bQ,bT,bU,bV,bW,bX,bY,bZ,cj,ck,cn,cx,cy,cz,cA,cB,cD,cF,cG,cH,cI,cJ,cK,cM,cN,cO,cP,cQ,cS,cT,cU,cW,cZ,da],[]⟩ w3:=by
 simp only[Tryz.f157,Option.bind_some,zi2,zi1] at hT
 simp at hT
 subst hT;have HRR:=hd_ hRR;have HR:=hd_ hR;have HBS:=hd_ hbs;have HX3:=hd_ hX;have HD3:=hd_ hD;have HC3:=hd_ hC;have HLIVE:=hd_ (fun p X (hX:Below w3.heap.size w3 X)=>zi9 revs p (.slice Ar revs.length cr) dr X (HR.out.below hX) (by omega))
 have HT18:=hd_ (fun T hT R W hR hbs hD hC hX hRR=>weT18 T hT R revs c x Ar Ae Ac dr cr ce cc g3 g4 g7 W hR hl hbs hD hC hX hRR);clear hRR hR hD hC hX;obtain⟨c0,c1,c2,c3,c4,c5,c6,c7,c8,c9,c10,c11⟩:=z84 HX3.out;dsimp only;go_upto_region 8 with fail;go_cut [76] (fun v wx=>∃ bb,v=.bool bb∧Hid (wx=w3))
 case first =>
  by_cases hlt1:x.act<1
  case pos =>
   have q:decide (x.act<1)=true:=by simp;omega
   clear hlt1;go_wp2_with fail;go_meet
   exact⟨true,rfl,rfl⟩
  have dlt:decide (x.act<1)=false:=by simp;omega
  by_cases hgt5:5<x.act
  case pos =>
   have q:decide (5<x.act)=true:=by simp;omega
   clear hlt1 hgt5;go_wp2_with fail;go_meet
   exact⟨true,rfl,rfl⟩
  have dgt:decide (5<x.act)=false:=by simp;omega
  clear hlt1 hgt5;rcases add_c x.act with⟨q1,q4⟩ | ⟨q1,q4⟩ | ⟨q1,q4⟩
  all_goals
   cases lv
   all_goals
    go_wp2_with fail;go_meet
    first
     | exact⟨true,rfl,rfl⟩
     | exact⟨false,rfl,rfl⟩
 case rest =>
  obtain⟨bb,rfl,HBB⟩:=hcut;obtain rfl:wc=w3:=HBB.out
  cases bb with
  | true =>
   clear HBB;go_wp2_with fail;exact HRR.out _ _ (Below.refl _ _)
  | false =>
   clear HBB;by_cases hbb:x.base=ln
   case neg =>
    have qb:(x.base != ln)=true:=by simpa using hbb
    clear hbb;go_wp2_with fail;exact HRR.out _ _ (Below.refl _ _)
   have qb:(x.base != ln)=false:=by simpa using hbb
   clear hbb;go_upto_if 83 with fail
   clear qb;go_cut [] (fun wx=>Hid (Below wc.heap.size wc wx))
   case first =>
    by_cases h4:x.act=4
    ·have q4:(x.act == 4)=true:=by simpa using h4
     clear h4;obtain⟨d0,d1,-,-⟩:=box2 HD3.out;have HLV2:=hd_ (HLIVE.out x.frm wc (Below.refl _ _));go_wp2_with fail;refine HLV2.out.mono ?_;rintro e w4 ⟨rfl,hb4⟩;have HW4:=hd_ hb4;have HX4:=hd_ (HX3.out.below hb4 HX3.out.lt);clear hb4 d0 d1 c0 c1 c2 c3 c4 c5 c6 c7 c8 c9 c10 c11;obtain⟨c0,c1,c2,c3,c4,c5,c6,c7,c8,c9,c10,c11⟩:=z84 HX4.out;generalize zi7 revs x.frm=lv2;generalize (zeh (zgz revs x.frm)).num=fn2;cases lv2 with
     | false =>
      go_wp2_with fail;exact HRR.out _ _ HW4.out
     | true =>
      by_cases hfn:x.fnum=fn2
      case neg =>
       have qf:(fn2 != x.fnum)=true:=by simp;exact fun h=>hfn h.symm
       clear hfn;go_wp2_with fail;exact HRR.out _ _ HW4.out
      have qf:(fn2 != x.fnum)=false:=by simp [hfn]
      have sq:=zec x.frm x.path;by_cases hfp:x.frm=x.path
      case pos =>
       rw[decide_eq_true hfp] at sq;clear hfp hfn;go_wp2_with fail;exact HRR.out _ _ HW4.out
      rw[decide_eq_false hfp] at sq;clear hfp hfn;go_wp2_with fail;go_meet
      exact HW4
    ·have q4:(x.act == 4)=false:=by simpa using h4
     clear h4;by_cases hfr:x.frm=z2l
     case neg =>
      have s1:=zeb hfr;have s2:=zea hfr;clear hfr;go_wp2_with fail;exact HRR.out _ _ (Below.refl _ _)
     have s1:=ze9 hfr;by_cases hfn:x.fnum=0
     case neg =>
      have qf:(x.fnum != 0)=true:=by simpa using hfn
      clear hfr hfn;go_wp2_with fail;exact HRR.out _ _ (Below.refl _ _)
     have qf:(x.fnum != 0)=false:=by simpa using hfn
     clear hfr hfn;go_wp2_with fail;go_meet
     exact hd_ (Below.refl _ _)
   case rest =>
    rename_i wc2
    have HW4:=hd_ hcut.out;clear hcut;have hk:=‹∀(a:Act) (w:World),Code.wp _ _ _ a w→_›;refine hk _ _ (HT18.out _ (by kernel_rfl) _ _ (HR.out.below HW4.out) HBS.out (HD3.out.below HW4.out HD3.out.lt) (HC3.out.below HW4.out HC3.out.lt) (HX3.out.below HW4.out HX3.out.lt) (fun n w' hb=>HRR.out n w' (z0r HW4.out hb)) _ _ _ _ _ _ _ _ _ _ _ _ _ _ _ _ _ _ _ _ _ _ _ _ _ _ _ _ _ _ _ _ _ _ _ _ _ _ _ _ _ _ _ _ _ _ _ _ _ _ _ _ _ _ _ _ _ _ _ _ _ _ _ _ _ _ _ _ _ _ _ _ _ _ _ _ _ _ _ _ _ _ _ _ _ _ _ _ _ _ _ _ _ _ _ _ _ _ _ _ _ _ _ _ _ _ _ _ _ _ _ _ _ _ _ _ _ _ _ _ _ _ _ _ _ _ _ _ _ _ _ _ _ _ _ _ _ _ _ _ _ _ _ _ _)
open Go.Sort (grow)
section
variable {u0 u1 u2 u3 u4 u5 u6 u7 u8 u9 gz gA gC gD gE gF gG gH gI gJ gK gL gM gN gO gP gQ gR gT gV gW gX gY gZ i6 i7 i8 ia ib ic ie ig ii ij ik il im io ip iq ir iu iv iw ix iy iz iA iB iC iD iE iF iG iH iI iJ iK iL iM iN iO iP iQ iR iS iT iU iV iW iX iY iZ j0 j1 j2 j5 j6 j7 j8 j9 jb jd jf jg jh ji jj jk jl bB bD bE bF bG bH bI bJ bK bL bM bN bO bP bQ bT bU bV bW bX bY bZ cj ck cn cx cy cz cA cB cD cF cG cH cI cJ cK cM cN cO cP cQ cS cT cU cW cZ da dc dd de df dg dh di dj dm du dw dx dy : Value}
theorem stR14 (ops:Array Oper)(hops:Tryz.f50.body.bind (zcn 14)=some ops)(Q:Exit→Act→World→Prop)(V:World)(g15 g17:Nat)(wz hz:Hav)(b1 b2:Bool)
  (h15:Blk V g15 96 [.string wz.path,.int .i64 wz.num,.string wz.loc]) (h17:Blk V g17 96 [.string hz.path,.int .i64 hz.num,.string hz.loc])
  (hQ:∀(fM fN fO fP fQ fR fS fT:Value),Q .normal ⟨#[u0,u1,u2,u3,u4,u5,u6,u7,u8,u9,gz,gA,gC,gD,gE,.pointer (some ⟨g15,0,none⟩),.bool b1,.pointer (some ⟨g17,0,none⟩),.bool b2,gJ,gK,gL,gM,gN,gO,gP,gQ,gR,gT,gV,gW,gX,gY,gZ,i6,i7,i8,ia,ib,ic,ie,ig,ii,ij,ik,il,im,io,ip,iq,ir,iu,iv,iw,ix,iy,iz,iA,iB,iC,iD,iE,iF,iG,iH,iI,iJ,iK,iL,iM,iN,iO,iP,fM,fN,fO,fP,fQ,fR,fS,fT,.bool (b1 && b2 && decide (wz=hz)),iZ,j0,j1,j2,j5,j6,j7,j8,j9,jb,jd,jf,jg,jh,ji,jj,jk,jl,bB,bD,bE,bF,bG,bH,bI,bJ,bK,bL,bM,bN,bO,bP,bQ,bT,bU,bV,bW,bX,bY,bZ,cj,ck,cn,cx,cy,cz,cA,cB,cD,cF,cG,cH,cI,cJ,cK,cM,cN,cO,cP,cQ,cS,cT,cU,cW,cZ,da,dc,dd,de,df,dg,dh,di,dj,dm,du,dw,dx,dy],[]⟩ V):
  (Code.region 14 ops false).wp Tryz.prog Q ⟨#[u0,u1,u2,u3,u4,u5,u6,u7,u8,u9,gz,gA,gC,gD,gE,.pointer (some ⟨g15,0,none⟩),.bool b1,.pointer (some ⟨g17,0,none⟩),.bool b2,gJ,gK,gL,gM,gN,gO,gP,gQ,gR,gT,gV,gW,gX,gY,gZ,i6,i7,i8,ia,ib,ic,ie,ig,ii,ij,ik,il,im,io,ip,iq,ir,iu,iv,iw,ix,iy,iz,iA,iB,iC,iD,iE,iF,iG,iH,iI,iJ,iK,iL,iM,iN,iO,iP,iQ,iR,iS,iT,iU,iV,iW,iX,iY,iZ,j0,j1,j2,j5,j6,j7,j8,j9,jb,jd,jf,jg,jh,ji,jj,jk,jl,bB,bD,bE,bF,bG,bH,bI,bJ,bK,bL,bM,bN,bO,bP,bQ,bT,bU,bV,bW,bX,bY,bZ,cj,ck,cn,cx,cy,cz,cA,cB,cD,cF,cG,cH,cI,cJ,cK,cM,cN,cO,cP,cQ,cS,cT,cU,cW,cZ,da,dc,dd,de,df,dg,dh,di,dj,dm,du,dw,dx,dy],[]⟩ V:=by
 simp only[Tryz.f50,Option.bind_some,zcn] at hops
 simp at hops
 subst hops;have HQ:=hd_ hQ;obtain⟨y0,y1,y2⟩:=z3s (x:=wz) h15;obtain⟨z0,z1,z2⟩:=z3s (x:=hz) h17;have heq:=zit wz hz;generalize decide (wz=hz)=be at HQ heq;clear hQ h15 h17;cases b1
 ·go_wp2_with fail;exact HQ.out _ _ _ _ _ _ _ _
 ·cases b2
  ·go_wp2_with fail;exact HQ.out _ _ _ _ _ _ _ _
  ·go_wp2_with fail;cases be
   ·exact HQ.out _ _ _ _ _ _ _ _
   ·exact HQ.out _ _ _ _ _ _ _ _
def zpx (dt:List ByteArray)(f d:ByteArray):Bool:=(decide (f≠z2l) && decide (f∈dt)) || (decide (d≠z2l) && decide (d∈dt))
theorem stR18 (ops:Array Oper)(hops:Tryz.f50.body.bind (zcn 18)=some ops)(Q:Exit→Act→World→Prop)(V:World)(g:Nat)(x:Syn)(dt:List ByteArray)(dv:Value)
  (hB:Blk V g 50 [.int .i64 x.kind,.string x.path,.int .i64 x.num,.string x.frm,.string x.dst]) (hI:∀ X s,Below V.heap.size V X→Calls Tryz.prog 96 #[dv,.string s] X fun e w'=>e=.returned (.bool (decide (s∈dt)))∧Below X.heap.size X w')
  (hQ:∀(ag ah ai aj ak am ao aq ar au aw ax ay az aA aB aC aD aE:Value) (w':World),Below V.heap.size V w'→Q .normal ⟨#[u0,u1,u2,dv,u4,u5,u6,u7,u8,u9,gz,gA,gC,gD,gE,gF,gG,gH,gI,.pointer (some ⟨g,0,none⟩),gK,gL,gM,gN,gO,gP,gQ,gR,gT,gV,gW,gX,gY,gZ,i6,i7,i8,ia,ib,ic,ie,ig,ii,ij,ik,il,im,io,ip,iq,ir,iu,iv,iw,ix,iy,iz,iA,iB,iC,iD,iE,iF,iG,iH,iI,iJ,iK,iL,iM,iN,iO,iP,iQ,iR,iS,iT,iU,iV,iW,iX,iY,iZ,j0,j1,j2,j5,j6,j7,j8,j9,jb,jd,jf,jg,jh,ji,jj,jk,jl,bB,bD,bE,bF,ag,ah,ai,aj,ak,am,ao,aq,ar,au,aw,ax,ay,az,aA,aB,aC,aD,aE,.bool (zpx dt x.frm x.dst),cn,cx,cy,cz,cA,cB,cD,cF,cG,cH,cI,cJ,cK,cM,cN,cO,cP,cQ,cS,cT,cU,cW,cZ,da,dc,dd,de,df,dg,dh,di,dj,dm,du,dw,dx,dy],[]⟩ w'):
  (Code.region 18 ops false).wp Tryz.prog Q ⟨#[u0,u1,u2,dv,u4,u5,u6,u7,u8,u9,gz,gA,gC,gD,gE,gF,gG,gH,gI,.pointer (some ⟨g,0,none⟩),gK,gL,gM,gN,gO,gP,gQ,gR,gT,gV,gW,gX,gY,gZ,i6,i7,i8,ia,ib,ic,ie,ig,ii,ij,ik,il,im,io,ip,iq,ir,iu,iv,iw,ix,iy,iz,iA,iB,iC,iD,iE,iF,iG,iH,iI,iJ,iK,iL,iM,iN,iO,iP,iQ,iR,iS,iT,iU,iV,iW,iX,iY,iZ,j0,j1,j2,j5,j6,j7,j8,j9,jb,jd,jf,jg,jh,ji,jj,jk,jl,bB,bD,bE,bF,bG,bH,bI,bJ,bK,bL,bM,bN,bO,bP,bQ,bT,bU,bV,bW,bX,bY,bZ,cj,ck,cn,cx,cy,cz,cA,cB,cD,cF,cG,cH,cI,cJ,cK,cM,cN,cO,cP,cQ,cS,cT,cU,cW,cZ,da,dc,dd,de,df,dg,dh,di,dj,dm,du,dw,dx,dy],[]⟩ V:=by
 simp only[Tryz.f50,Option.bind_some,zcn] at hops
 simp at hops
 subst hops;have HQ:=hd_ hQ;have HI:=hd_ hI;have HB:=hd_ hB;have HDB:Hid (zpx dt x.frm x.dst=((decide (x.frm≠z2l) && decide (x.frm∈dt)) || (decide (x.dst≠z2l) && decide (x.dst∈dt)))):=hd_ rfl;generalize zpx dt x.frm x.dst=db at HQ HDB;obtain⟨-,-,-,z3,z4⟩:=z3r (x:=x) hB;have HI1:=hd_ (HI.out V x.frm (Below.refl _ _));have HI2:=hd_ (fun X (hX:Below V.heap.size V X)=>HI.out X x.dst hX);generalize hm1:decide (x.frm∈dt)=m1 at HI1 HDB;generalize hm2:decide (x.dst∈dt)=m2 at HI2 HDB;clear hQ hI hB hm1 hm2 HI;by_cases hf:x.frm=z2l
 ·obtain⟨s1,s2⟩:=z3v hf;rw[decide_eq_false (fun h=>h hf),Bool.false_and,Bool.false_or] at HDB;by_cases hd:x.dst=z2l
  ·obtain⟨t1,t2⟩:=z3v hd;rw[decide_eq_false (fun h=>h hd),Bool.false_and] at HDB;obtain rfl:=HDB.out
   clear hf hd;go_wp2_with fail;exact HQ.out _ _ _ _ _ _ _ _ _ _ _ _ _ _ _ _ _ _ _ _ (Below.refl _ _)
  ·obtain⟨t1,t2⟩:=z3w hd;rw[decide_eq_true hd,Bool.true_and] at HDB;obtain rfl:=HDB.out
   have HC:=hd_ (HI2.out V (Below.refl _ _));clear hf hd HDB;go_wp2_with fail;refine HC.out.mono ?_;rintro e w2 ⟨rfl,hb⟩;have H2:=hd_ hb;clear hb z3 z4;go_wp2_with fail;exact HQ.out _ _ _ _ _ _ _ _ _ _ _ _ _ _ _ _ _ _ _ _ H2.out
 ·obtain⟨s1,s2⟩:=z3w hf;rw[decide_eq_true hf,Bool.true_and] at HDB;clear hf;go_wp2_with fail;refine HI1.out.mono ?_;rintro e w2 ⟨rfl,hb⟩;have H2:=hd_ hb;have HB2:=hd_ (HB.out.below hb HB.out.lt);clear hb z3 z4;obtain⟨-,-,-,z3,z4⟩:=z3r (x:=x) HB2.out;cases m1
  ·rw[Bool.false_or] at HDB;by_cases hd:x.dst=z2l
   ·obtain⟨t1,t2⟩:=z3v hd;rw[decide_eq_false (fun h=>h hd),Bool.false_and] at HDB;obtain rfl:=HDB.out
    clear hd;go_wp2_with fail;exact HQ.out _ _ _ _ _ _ _ _ _ _ _ _ _ _ _ _ _ _ _ _ H2.out
   ·obtain⟨t1,t2⟩:=z3w hd;rw[decide_eq_true hd,Bool.true_and] at HDB;obtain rfl:=HDB.out
    have HC:=hd_ (HI2.out w2 H2.out);clear hd HDB;go_wp2_with fail;refine HC.out.mono ?_;rintro e w3 ⟨rfl,hb⟩;have H3:=hd_ (z0r H2.out hb);clear hb z3 z4;go_wp2_with fail;exact HQ.out _ _ _ _ _ _ _ _ _ _ _ _ _ _ _ _ _ _ _ _ H3.out
  ·rw[Bool.true_or] at HDB;obtain rfl:=HDB.out
   clear HI1;go_wp2_with fail;exact HQ.out _ _ _ _ _ _ _ _ _ _ _ _ _ _ _ _ _ _ _ _ H2.out
end
def zq1 (out:List Hav)(x:Syn):List Hav:=
 if x.kind=1∨x.kind=2∨x.kind=3 then zlc out ⟨x.path,x.num,x.dst⟩ else if x.kind=4 then out.filter (fun a=>decide (a.path≠x.path)) else out
def zq2 (x:Syn):Prop:=z3o x.kind=true∨(x.kind=z3p x.frm x.dst∧¬(x.frm=z2l∧x.dst=z2l))
theorem zq3 (f d:ByteArray)(h:¬(f=z2l∧d=z2l)):(d≠z2l∧(z3p f d=1∨z3p f d=2∨z3p f d=3))∨(d=z2l∧z3p f d=4):=by
 unfold z3p;by_cases h1:f=z2l
 ·rw[if_pos h1];exact .inl ⟨fun e=>h ⟨h1,e⟩,.inl rfl⟩
 ·rw[if_neg h1];by_cases h2:d=z2l
  ·rw[if_pos h2];exact .inr ⟨h2,rfl⟩
  ·rw[if_neg h2];by_cases h3:f=d
   ·rw[if_pos h3];exact .inl ⟨h2,.inr (.inl rfl)⟩
   ·rw[if_neg h3];exact .inl ⟨h2,.inr (.inr rfl)⟩
theorem zq4 {l:List Hav}(h:z6c l)(q p:ByteArray):z6e (l.filter (fun a=>decide (a.path≠q))) p=if p=q then none else z6e l p:=by
 show z5y Hav.path _ p=_
 rw[z6p h];show (z6e l p).filter _=_
 cases e:z6e l p with
 | none=>split <;> rfl
 | some a =>
  have ea:=(z61 e).2;by_cases c:p=q
  ·rw[if_pos c,z6o (by rw[ea];simpa using c)]
  ·rw[if_neg c,z6n (by rw[ea];simpa using c)]
structure zq5 (hs:List Hav)(ps:List Syn)(k:Nat)(out:List Hav):Prop where
 srt:z6c out
 val:∀ a∈out,z2s a.path=true
 get:∀ p,z6e out p=zeu (z6e hs p) (z6f (ps.take k) p)
 len:out.length≤hs.length+k
section
variable {hs : List Hav} {ps : List Syn} {k : Nat} {out : List Hav}
theorem aft_0 (h1:z6c hs)(h2:∀ a∈hs,z2s a.path=true):zq5 hs ps 0 hs:=⟨h1,h2,fun p=>by rw[List.take_zero];rfl,Nat.le_refl _⟩
theorem zq6 (hk:k<ps.length)(p:ByteArray):z6f (ps.take (k+1)) p=(z6f (ps.take k) p).or (if ps[k].path=p then some ps[k] else none):=by
 rw[List.take_succ_eq_append_getElem hk];show z5y Syn.path _ p=_
 rw[z64,z63];rfl
theorem zq7 (h:z6d ps)(hk:k<ps.length):z6f (ps.take k) ps[k].path=none:=z62.2 fun c hc ec=>by
 obtain⟨j,hj,rfl⟩:=List.getElem_of_mem hc;rw[List.getElem_take] at ec;have hjk:j<k:=by rw[List.length_take] at hj;omega
 exact z5z (List.pairwise_iff_getElem.1 h j k (by omega) hk hjk) ec
theorem zq8 (h:zq5 hs ps k out)(hS:z6d ps)(hk:k<ps.length)(hv:z2s ps[k].path=true)(hK:zq2 ps[k]):zq5 hs ps (k+1) (zq1 out ps[k]):=by
 have hno:=zq7 hS hk;have hother:∀ p,p≠ps[k].path→z6f (ps.take (k+1)) p=z6f (ps.take k) p:=fun p c=>by
  rw[zq6 hk,if_neg (fun e=>c e.symm),Option.or_none]
 have hself:z6f (ps.take (k+1)) ps[k].path=some ps[k]:=by
  rw[zq6 hk,if_pos rfl,hno];rfl
 rcases hK with hK | ⟨hK,hne⟩
 ·have e0:zq1 out ps[k]=out:=by
   unfold zq1;unfold z3o at hK;simp only[Bool.or_eq_true,beq_iff_eq] at hK
   rw[if_neg (by omega),if_neg (by omega)]
  rw[e0];refine⟨h.srt,h.val,fun p=>?_,by have:=h.len;omega⟩
  rw[h.get p];by_cases c:p=ps[k].path
  ·subst c;rw[hself,hno];show z6e hs _=if z3o ps[k].kind then _ else _
   rw[if_pos hK]
  ·rw[hother p c]
 ·have hst:¬ z3o ps[k].kind=true:=by rw[hK,zfg];decide
  rcases zq3 _ _ hne with⟨h1,h2⟩ | ⟨h1,h2⟩
  ·rw[← hK] at h2;have e0:zq1 out ps[k]=zlc out ⟨ps[k].path,ps[k].num,ps[k].dst⟩:=if_pos h2;rw[e0];obtain⟨i1,i2⟩:=zlj out ⟨ps[k].path,ps[k].num,ps[k].dst⟩ h.srt h.val hv;refine⟨i1,fun a ha=>?_,fun p=>?_,by have:=zli out ⟨ps[k].path,ps[k].num,ps[k].dst⟩;have:=h.len;omega⟩
   ·rcases zlh _ _ _ ha with rfl | ha
    ·exact hv
    ·exact h.val a ha
   ·rw[i2 p];by_cases c:p=ps[k].path
    ·rw[if_pos c];subst c;rw[hself];show _=if z3o ps[k].kind then _ else _
     rw[if_neg hst,if_neg h1]
    ·rw[if_neg c,h.get p,hother p c]
  ·rw[← hK] at h2;have e0:zq1 out ps[k]=out.filter (fun a=>decide (a.path≠ps[k].path)):=by
    unfold zq1;rw[if_neg (by omega),if_pos h2]
   rw[e0];refine⟨z6b h.srt _,fun a ha=>h.val a (List.mem_filter.1 ha).1,fun p=>?_,by have:=List.length_filter_le (fun a:Hav=>decide (a.path≠ps[k].path)) out;have:=h.len;omega⟩
   rw[zq4 h.srt];by_cases c:p=ps[k].path
   ·rw[if_pos c];subst c;rw[hself];show _=if z3o ps[k].kind then _ else _
    rw[if_neg hst,if_pos h1]
   ·rw[if_neg c,h.get p,hother p c]
theorem aft_end (h:zq5 hs ps ps.length out)(h1:z6c hs)(h2:∀ a∈hs,z2s a.path=true)(hS:z6d ps)(hv:∀ x∈ps,z2s x.path=true):out=z4y hs ps:=by
 obtain⟨r1,-,r3⟩:=zf5 (hs.length+ps.length) hs ps (Nat.le_refl _) h1 hS h2 hv;refine z67 h.srt r1 fun p=>?_;have:=h.get p;rw[List.take_length] at this;exact this.trans (r3 p).symm
end
