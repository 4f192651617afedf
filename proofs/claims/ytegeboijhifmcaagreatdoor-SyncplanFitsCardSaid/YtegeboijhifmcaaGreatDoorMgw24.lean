/- At, Last. -/
import Derived.Test.YtegeboijhifmcaaGreatDoorMgw18
import Derived.Test.YtegeboijhifmcaaGreatDoorMgw23
import Derived.Test.YtegeboijhifmcaaGreatDoorMgw21
import Derived.Test.YtegeboijhifmcaaGreatDoorMgw6
import Derived.Test.YtegeboijhifmcaaGreatDoorMgw17
import Derived.Test.YtegeboijhifmcaaGreatDoorMgw12
namespace Go.Proofs.YtegeboijhifmcaaGreatDoor
set_option linter.unusedVariables false
set_option linter.unusedSimpArgs false
set_option maxHeartbeats 16000000
set_option maxRecDepth 100000
open Go.RowKit
theorem at_any (revs:List Rev)(q:ByteArray)(m:Int)(dv dr:Value)(w:World)(hR:z45 w dv revs)(hl:revs.length≤1000000):
  Calls Tryz.prog 27 #[.agg #[dv,dr],.string q,.int .i64 m] w
   fun e w'=>e=.returned (.tuple #[.agg #[.string (zec (z30 revs q (fun v:Rev=>decide (v.chg≤m)))).path,.int .i64 (zec (z30 revs q (fun v:Rev=>decide (v.chg≤m)))).num,.int .i64 (zec (z30 revs q (fun v:Rev=>decide (v.chg≤m)))).chg,.int .i64 (zec (z30 revs q (fun v:Rev=>decide (v.chg≤m)))).act,.int .i64 (zec (z30 revs q (fun v:Rev=>decide (v.chg≤m)))).ty.base,.bool (zec (z30 revs q (fun v:Rev=>decide (v.chg≤m)))).ty.k,.bool (zec (z30 revs q (fun v:Rev=>decide (v.chg≤m)))).ty.l,.bool (zec (z30 revs q (fun v:Rev=>decide (v.chg≤m)))).ty.x,.int .u64 (zec (z30 revs q (fun v:Rev=>decide (v.chg≤m)))).sum,.int .i64 (zec (z30 revs q (fun v:Rev=>decide (v.chg≤m)))).size,.string (zec (z30 revs q (fun v:Rev=>decide (v.chg≤m)))).frm,.int .i64 (zec (z30 revs q (fun v:Rev=>decide (v.chg≤m)))).fnum],.bool (z30 revs q (fun v:Rev=>decide (v.chg≤m))).isSome])∧Below w.heap.size w w':=by
 have HR:=hd_ hR;obtain⟨Ar,cr,rfl,-⟩:=hR;obtain⟨dv,hdv⟩:∃ v,Value.slice Ar revs.length cr=v:=⟨_,rfl⟩;have hb0:Below w.heap.size w (((w.alloc (.cells #[(.slice Ar revs.length cr),dr] 26)).alloc (.cells #[.int .i64 m] 3)).alloc (.cells #[.string ⟨#[]⟩,.int .i64 0,.int .i64 0,.int .i64 0,.int .i64 0,.bool false,.bool false,.bool false,.int .u64 0,.int .i64 0,.string ⟨#[]⟩,.int .i64 0] 66)):=((((Below.refl _ _).alloc (Nat.le_refl _) _).alloc (by simp) _).alloc (by simp;omega) _)
 have hZ:Blk (((w.alloc (.cells #[(.slice Ar revs.length cr),dr] 26)).alloc (.cells #[.int .i64 m] 3)).alloc (.cells #[.string ⟨#[]⟩,.int .i64 0,.int .i64 0,.int .i64 0,.int .i64 0,.bool false,.bool false,.bool false,.int .u64 0,.int .i64 0,.string ⟨#[]⟩,.int .i64 0] 66)) (w.heap.size+1+1) 66 [.string ⟨#[]⟩,.int .i64 0,.int .i64 0,.int .i64 0,.int .i64 0,.bool false,.bool false,.bool false,.int .u64 0,.int .i64 0,.string ⟨#[]⟩,.int .i64 0]:=by
  have h1:=z0l ((w.alloc (.cells #[(.slice Ar revs.length cr),dr] 26)).alloc (.cells #[.int .i64 m] 3)) [.string ⟨#[]⟩,.int .i64 0,.int .i64 0,.int .i64 0,.int .i64 0,.bool false,.bool false,.bool false,.int .u64 0,.int .i64 0,.string ⟨#[]⟩,.int .i64 0] 66;simp only[World.size_alloc] at h1
  exact h1
 have hcell:(((w.alloc (.cells #[(.slice Ar revs.length cr),dr] 26)).alloc (.cells #[.int .i64 m] 3)).alloc (.cells #[.string ⟨#[]⟩,.int .i64 0,.int .i64 0,.int .i64 0,.int .i64 0,.bool false,.bool false,.bool false,.int .u64 0,.int .i64 0,.string ⟨#[]⟩,.int .i64 0] 66)).cell? ⟨w.heap.size+1,0,none⟩=some (.int .i64 m):=by
  have h1:=(z0l (w.alloc (.cells #[(.slice Ar revs.length cr),dr] 26)) [.int .i64 m] 3).alloc (.cells #[.string ⟨#[]⟩,.int .i64 0,.int .i64 0,.int .i64 0,.int .i64 0,.bool false,.bool false,.bool false,.int .u64 0,.int .i64 0,.string ⟨#[]⟩,.int .i64 0] 66);simp only[World.size_alloc] at h1
  exact h1.cell 0
 have HC:=hd_ (zed revs q m (w.heap.size+1) (.slice Ar revs.length cr) dr _ (HR.out.below hb0) hcell hl);clear hdv dv hcell;generalize z30 revs q (fun v:Rev=>decide (v.chg≤m))=o at HC ⊢;generalize zec o=r at HC ⊢;go_enter Tryz.func27,Tryz.ntmps27;go_wp2_with fail;refine HC.out.mono ?_;rintro e w1 ⟨rfl,hb1⟩;have hZ1:=hZ.below hb1 hZ.lt;have hbw1:=z0r hb0 hb1;obtain⟨z0,z1,z2,z3,z4,z5,z6,z7,z8,z9,z10,z11⟩:=z7z hZ1;obtain⟨y0,y1,y2,y3,y4,y5,y6,y7,y8,y9,y10,y11⟩:=zdz hZ1;clear hb1;go_wp2_with fail;have hZ3:=ze0 hZ1 r;have hB3:=ze1 hbw1 (show w.heap.size≤w.heap.size+1+1 by omega) r
 generalize ((((((((((((w1.setCell ⟨w.heap.size+1+1,0,none⟩ (.string r.path)).setCell ⟨w.heap.size+1+1,1,none⟩ (.int .i64 r.num)).setCell ⟨w.heap.size+1+1,2,none⟩ (.int .i64 r.chg)).setCell ⟨w.heap.size+1+1,3,none⟩ (.int .i64 r.act)).setCell ⟨w.heap.size+1+1,4,none⟩ (.int .i64 r.ty.base)).setCell ⟨w.heap.size+1+1,5,none⟩ (.bool r.ty.k)).setCell ⟨w.heap.size+1+1,6,none⟩ (.bool r.ty.l)).setCell ⟨w.heap.size+1+1,7,none⟩ (.bool r.ty.x)).setCell ⟨w.heap.size+1+1,8,none⟩ (.int .u64 r.sum)).setCell ⟨w.heap.size+1+1,9,none⟩ (.int .i64 r.size)).setCell ⟨w.heap.size+1+1,10,none⟩ (.string r.frm)).setCell ⟨w.heap.size+1+1,11,none⟩ (.int .i64 r.fnum))=W3 at hZ3 hB3 ⊢;obtain⟨e0,e1,e2,e3,e4,e5,e6,e7,e8,e9,e10,e11⟩:=z7z hZ3;exact bodyPost_ret (v:=.tuple #[.agg #[.string r.path,.int .i64 r.num,.int .i64 r.chg,.int .i64 r.act,.int .i64 r.ty.base,.bool r.ty.k,.bool r.ty.l,.bool r.ty.x,.int .u64 r.sum,.int .i64 r.size,.string r.frm,.int .i64 r.fnum],.bool o.isSome]) (by simp [results,Tryz.results27,go_sem,e0,e1,e2,e3,e4,e5,e6,e7,e8,e9,e10,e11]) rfl ⟨rfl,hB3⟩
theorem add_c (a:Int):((a == 1)=true∧(a == 4)=false)∨((a == 1)=false∧(a == 4)=true)∨((a == 1)=false∧(a == 4)=false):=by
 by_cases h1:a=1
 ·subst h1;exact .inl ⟨rfl,rfl⟩
 ·by_cases h4:a=4
  ·subst h4;exact .inr (.inl ⟨rfl,rfl⟩)
  ·exact .inr (.inr ⟨by simpa using h1,by simpa using h4⟩)
theorem weT8 (T:Code)(hT:Tryz.f126.body.bind (zhv 8)=some T)(R:Ending→World→Prop)(revs:List Rev)(c:Chg)(x:Edt)(Ar Ae Ac:Option Addr)(dr:Value)(cr ce cc g3 g4 g7:Nat)(w3:World)
  (hR:z45 w3 (.slice Ar revs.length cr) revs) (hl:revs.length≤100000)
  (hD:Blk w3 g3 26 [.slice Ar revs.length cr,dr]) (hC:Blk w3 g4 95 [.int .i64 c.num,.string c.client,.string c.text,.slice Ae c.edits.length ce,.slice Ac c.recs.length cc]) (hX:Blk w3 g7 90 [.string x.path,.int .i64 x.act,.int .i64 x.ty.base,.bool x.ty.k,.bool x.ty.l,.bool x.ty.x,.int .u64 x.sum,.int .i64 x.size,.int .i64 x.base,.string x.frm,.int .i64 x.fnum,.int .i64 x.fence])
  (hRR:∀(n:Int) (w':World),Below w3.heap.size w3 w'→R (.returned (.int .i64 n)) w')
  (u0 u1 u2 u5 u6 u8 u9 gu gx gy gz gA gC gD gE gF gG gH gI gJ gK gL gM gN gO gP gQ gR gT gV gW gX gY gZ i6 i7 i8 ia ib ic ie ig ii ij ik il im io ip iq ir iu iv iw ix iy iz iA iB iC iD iE iF iG iH iI iJ iK iL iM iN iO iP iQ iR iS iT iU iV iW iX iY iZ j0 j1 j2 j5 j6 j7 j8 j9 jb jd je jf bw bz bA bB bD bE bF bG bH bI bJ bK bL bM bN bO bP bQ bT bU bV bW bX bY bZ ca cj ck cn cx cy cz cA cB cD cE cG cH cI cJ cM cN cO cP cQ cT cU cW:Value) (lv:Bool) (ln:Int) (hbs:0≤x.base∧x.base≤1000000):
  T.wp Tryz.prog (bodyPost Tryz.prog Tryz.f126 R) ⟨#[u0,u1,u2,.pointer (some ⟨g3,0,none⟩),.pointer (some ⟨g4,0,none⟩),u5,u6,.pointer (some ⟨g7,0,none⟩),u8,u9,.bool lv,.int .i64 ln,gu,gx,gy,gz,gA,gC,gD,gE,gF,gG,gH,gI,gJ,gK,gL,gM,gN,gO,gP,gQ,gR,gT,gV,gW,gX,gY,gZ,i6,i7,i8,ia,ib,ic,ie,ig,ii,ij,ik,il,im,io,ip,iq,ir,iu,iv,iw,ix,iy,iz,iA,iB,iC,iD,iE,iF,iG,iH,iI,iJ,iK,iL,iM,iN,iO,iP,iQ,iR,iS,iT,iU,iV,iW,iX,iY,iZ,j0,j1,j2,j5,j6,j7,j8,j9,jb,jd,je,jf,bw,bz,bA,bB,bD,bE,bF,bG,bH,bI,bJ,bK,bL,bM,bN,bO,bP,bQ,bT,bU,bV,bW,bX,bY,bZ,ca,cj,ck,cn,cx,cy,cz,cA,cB,cD,cE,cG,cH,cI,cJ,cM,cN,cO,cP,cQ,cT,cU,cW],[]⟩ w3:=by
 simp only[Tryz.f126,Option.bind_some,zhv,zhu] at hT
 simp at hT
 subst hT;have HRR:=hd_ hRR;have HR:=hd_ hR;have HBS:=hd_ hbs;have HX3:=hd_ hX;have HD3:=hd_ hD;have HC3:=hd_ hC;have HLIVE:=hd_ (fun p X (hX:Below w3.heap.size w3 X)=>zi2 revs p (.slice Ar revs.length cr) dr X (HR.out.below hX) (by omega))
 have HT18:=hd_ (fun T hT R W hR hbs hD hC hX hRR=>weT18 T hT R revs c x Ar Ae Ac dr cr ce cc g3 g4 g7 W hR hl hbs hD hC hX hRR);clear hRR hR hD hC hX;obtain⟨c0,c1,c2,c3,c4,c5,c6,c7,c8,c9,c10,c11⟩:=z7z HX3.out;dsimp only;go_upto_region 8 with fail;go_cut [76] (fun v wx=>∃ bb,v=.bool bb∧Hid (wx=w3))
 case first =>
  by_cases hlt1:x.act<1
  case pos =>
   have q:decide (x.act<1)=true:=by simp;omega
   clear hlt1;go_wp2_with fail;go_meet
   exact⟨true,rfl,rfl⟩
  have dlt:decide (x.act<1)=false:=by simp;omega
  by_cases hgt5:5<x.act
  case pos =>
   have q:decide (5<x.act)=true:=by simp;omega
   clear hlt1 hgt5;go_wp2_with fail;go_meet
   exact⟨true,rfl,rfl⟩
  have dgt:decide (5<x.act)=false:=by simp;omega
  clear hlt1 hgt5;rcases add_c x.act with⟨q1,q4⟩ | ⟨q1,q4⟩ | ⟨q1,q4⟩
  all_goals
   cases lv
   all_goals
    go_wp2_with fail;go_meet
    first
     | exact⟨true,rfl,rfl⟩
     | exact⟨false,rfl,rfl⟩
 case rest =>
  obtain⟨bb,rfl,HBB⟩:=hcut;obtain rfl:wc=w3:=HBB.out
  cases bb with
  | true =>
   clear HBB;go_wp2_with fail;exact HRR.out _ _ (Below.refl _ _)
  | false =>
   clear HBB;by_cases hbb:x.base=ln
   case neg =>
    have qb:(x.base != ln)=true:=by simpa using hbb
    clear hbb;go_wp2_with fail;exact HRR.out _ _ (Below.refl _ _)
   have qb:(x.base != ln)=false:=by simpa using hbb
   clear hbb;go_upto_if 83 with fail
   clear qb;go_cut [] (fun wx=>Hid (Below wc.heap.size wc wx))
   case first =>
    by_cases h4:x.act=4
    ·have q4:(x.act == 4)=true:=by simpa using h4
     clear h4;obtain⟨d0,d1,-,-⟩:=box2 HD3.out;have HLV2:=hd_ (HLIVE.out x.frm wc (Below.refl _ _));go_wp2_with fail;refine HLV2.out.mono ?_;rintro e w4 ⟨rfl,hb4⟩;have HW4:=hd_ hb4;have HX4:=hd_ (HX3.out.below hb4 HX3.out.lt);clear hb4 d0 d1 c0 c1 c2 c3 c4 c5 c6 c7 c8 c9 c10 c11;obtain⟨c0,c1,c2,c3,c4,c5,c6,c7,c8,c9,c10,c11⟩:=z7z HX4.out;generalize zi0 revs x.frm=lv2;generalize (zec (zgs revs x.frm)).num=fn2;cases lv2 with
     | false =>
      go_wp2_with fail;exact HRR.out _ _ HW4.out
     | true =>
      by_cases hfn:x.fnum=fn2
      case neg =>
       have qf:(fn2 != x.fnum)=true:=by simp;exact fun h=>hfn h.symm
       clear hfn;go_wp2_with fail;exact HRR.out _ _ HW4.out
      have qf:(fn2 != x.fnum)=false:=by simp [hfn]
      have sq:=ze7 x.frm x.path;by_cases hfp:x.frm=x.path
      case pos =>
       rw[decide_eq_true hfp] at sq;clear hfp hfn;go_wp2_with fail;exact HRR.out _ _ HW4.out
      rw[decide_eq_false hfp] at sq;clear hfp hfn;go_wp2_with fail;go_meet
      exact HW4
    ·have q4:(x.act == 4)=false:=by simpa using h4
     clear h4;by_cases hfr:x.frm=z2l
     case neg =>
      have s1:=ze6 hfr;have s2:=ze5 hfr;clear hfr;go_wp2_with fail;exact HRR.out _ _ (Below.refl _ _)
     have s1:=ze4 hfr;by_cases hfn:x.fnum=0
     case neg =>
      have qf:(x.fnum != 0)=true:=by simpa using hfn
      clear hfr hfn;go_wp2_with fail;exact HRR.out _ _ (Below.refl _ _)
     have qf:(x.fnum != 0)=false:=by simpa using hfn
     clear hfr hfn;go_wp2_with fail;go_meet
     exact hd_ (Below.refl _ _)
   case rest =>
    rename_i wc2
    have HW4:=hd_ hcut.out;clear hcut;have hk:=‹∀(a:Act) (w:World),Code.wp _ _ _ a w→_›;refine hk _ _ (HT18.out _ (by kernel_rfl) _ _ (HR.out.below HW4.out) HBS.out (HD3.out.below HW4.out HD3.out.lt) (HC3.out.below HW4.out HC3.out.lt) (HX3.out.below HW4.out HX3.out.lt) (fun n w' hb=>HRR.out n w' (z0r HW4.out hb)) _ _ _ _ _ _ _ _ _ _ _ _ _ _ _ _ _ _ _ _ _ _ _ _ _ _ _ _ _ _ _ _ _ _ _ _ _ _ _ _ _ _ _ _ _ _ _ _ _ _ _ _ _ _ _ _ _ _ _ _ _ _ _ _ _ _ _ _ _ _ _ _ _ _ _ _ _ _ _ _ _ _ _ _ _ _ _ _ _ _ _ _ _ _ _ _ _ _ _ _ _ _ _ _ _ _ _ _ _ _ _ _ _ _ _ _ _ _ _ _ _ _ _ _ _ _ _ _ _ _ _ _ _ _ _ _ _ _ _ _ _ _ _ _ _)
def zi4 (w:World)(e:Ending)(w':World):Prop:=(∃ n:Int,e=.returned (.int .i64 n))∧Below w.heap.size w w'
theorem zi5 (d:Dep)(c:Chg)(dv dr:Value)(Ae Ac:Option Addr)(ce cc i:Nat)(w:World)(he:Env w)(hR:z45 w dv d.revs)(hl:d.revs.length≤100000)(hE:z47 w (.slice Ae c.edits.length ce) c.edits)(hi:i<c.edits.length)(hel:c.edits.length≤100000)
  (hsz:∀ e∈c.edits,e.path.size≤2000000∧0≤e.base∧e.base≤1000000):
  Calls Tryz.prog 126 #[.agg #[dv,dr],.agg #[.int .i64 c.num,.string c.client,.string c.text,.slice Ae c.edits.length ce,.slice Ac c.recs.length cc],.int .i64 i] w (zi4 w):=by
 obtain⟨Ar,cr,rfl,-⟩:=id hR;have HR:=hd_ hR;have HE:=hd_ hE;have HEN:=hd_ he;have HLIVE:=hd_ (fun p X (hX:Below w.heap.size w X)=>zi2 d.revs p (.slice Ar d.revs.length cr) dr X (HR.out.below hX) (by omega))
 have HSZ:=hd_ hsz;clear hR hE he hsz;have hb0:Below w.heap.size w ((w.alloc (.cells #[.slice Ar d.revs.length cr,dr] 26)).alloc (.cells #[.int .i64 c.num,.string c.client,.string c.text,.slice Ae c.edits.length ce,.slice Ac c.recs.length cc] 95)):=((Below.refl _ _).alloc (Nat.le_refl _) _).alloc (by simp) _
 have hC:Blk ((w.alloc (.cells #[.slice Ar d.revs.length cr,dr] 26)).alloc (.cells #[.int .i64 c.num,.string c.client,.string c.text,.slice Ae c.edits.length ce,.slice Ac c.recs.length cc] 95)) (w.heap.size+1) 95 [.int .i64 c.num,.string c.client,.string c.text,.slice Ae c.edits.length ce,.slice Ac c.recs.length cc]:=by
  have h1:=z0l (w.alloc (.cells #[.slice Ar d.revs.length cr,dr] 26)) [.int .i64 c.num,.string c.client,.string c.text,.slice Ae c.edits.length ce,.slice Ac c.recs.length cc] 95;simp only[World.size_alloc] at h1
  exact h1
 have hD:Blk ((w.alloc (.cells #[.slice Ar d.revs.length cr,dr] 26)).alloc (.cells #[.int .i64 c.num,.string c.client,.string c.text,.slice Ae c.edits.length ce,.slice Ac c.recs.length cc] 95)) w.heap.size 26 [.slice Ar d.revs.length cr,dr]:=(z0l w _ _).alloc _;have hld0:=fun X (hX:Below w.heap.size w X)=>z47.at_ (HE.out.below hX) hi;have HXM0:=hd_ (HSZ.out _ (List.getElem_mem hi));generalize c.edits[i]=x at hld0 HXM0;have HXM:Hid (x.path.size≤2000000):=hd_ HXM0.out.1;have HLD:=hd_ hld0;clear hld0;have HT8:=hd_ (fun T hT R g3 g4 g7 W hR hD hC hX hRR=>weT8 T hT R d.revs c x Ar Ae Ac dr cr ce cc g3 g4 g7 W hR hl hD hC hX hRR);go_enter Tryz.func126,Tryz.ntmps126;go_upto_region 1 with fail;generalize (w.alloc (.cells #[.slice Ar d.revs.length cr,dr] 26)).alloc (.cells #[.int .i64 c.num,.string c.client,.string c.text,.slice Ae c.edits.length ce,.slice Ac c.recs.length cc] 95)=W1 at hb0 hC hD ⊢;obtain⟨k0,k1,k2,k3,k4⟩:=zhx hC;obtain⟨ad,rfl,hab,hld⟩:=HLD.out _ hb0;have hiz:(i:Int)<(c.edits.length:Int):=by omega
 obtain⟨x0,x1,x2,x3,x4,x5,x6,x7,x8,x9,x10,x11⟩:=hld;have hX:=z0l W1 [.string x.path,.int .i64 x.act,.int .i64 x.ty.base,.bool x.ty.k,.bool x.ty.l,.bool x.ty.x,.int .u64 x.sum,.int .i64 x.size,.int .i64 x.base,.string x.frm,.int .i64 x.fnum,.int .i64 x.fence] 90;have hA1:=hb0.alloc hb0.size (.cells #[.string x.path,.int .i64 x.act,.int .i64 x.ty.base,.bool x.ty.k,.bool x.ty.l,.bool x.ty.x,.int .u64 x.sum,.int .i64 x.size,.int .i64 x.base,.string x.frm,.int .i64 x.fnum,.int .i64 x.fence] 90);have HC1:=hd_ (hC.alloc (.cells #[.string x.path,.int .i64 x.act,.int .i64 x.ty.base,.bool x.ty.k,.bool x.ty.l,.bool x.ty.x,.int .u64 x.sum,.int .i64 x.size,.int .i64 x.base,.string x.frm,.int .i64 x.fnum,.int .i64 x.fence] 90));have HD1:=hd_ (hD.alloc (.cells #[.string x.path,.int .i64 x.act,.int .i64 x.ty.base,.bool x.ty.k,.bool x.ty.l,.bool x.ty.x,.int .u64 x.sum,.int .i64 x.size,.int .i64 x.base,.string x.frm,.int .i64 x.fnum,.int .i64 x.fence] 90));go_upto_region 2 with fail;clear x0 x1 x2 x3 x4 x5 x6 x7 x8 x9 x10 x11 k0 k1 k2 k3 k4 hC hD hb0;generalize W1.alloc (.cells #[.string x.path,.int .i64 x.act,.int .i64 x.ty.base,.bool x.ty.k,.bool x.ty.l,.bool x.ty.x,.int .u64 x.sum,.int .i64 x.size,.int .i64 x.base,.string x.frm,.int .i64 x.fnum,.int .i64 x.fence] 90)=W2 at hX hA1 HC1 HD1 ⊢;generalize W1.heap.size=g7 at hX ⊢;have HX1:=hd_ hX;have HW1:=hd_ hA1;clear hX hA1;obtain⟨c0,c1,c2,c3,c4,c5,c6,c7,c8,c9,c10,c11⟩:=z7z HX1.out;cases hdp:z2q x.path.data.toList 2 with
 | none =>
  have HPN:=hd_ (z92 x.path W2 (HEN.out.below HW1.out) HXM.out hdp);clear hdp;go_wp2_with fail;refine HPN.out.mono ?_;rintro e w2 ⟨rfl,hb2⟩;have HB2:=hd_ hb2;clear hb2;go_wp2_with fail;go_ret;exact⟨⟨_,rfl⟩,z0r HW1.out HB2.out⟩
 | some ps =>
  have HPS:=hd_ (z91 x.path ps W2 (HEN.out.below HW1.out) HXM.out hdp);have hA2:Below W2.heap.size W2 (W2.alloc (.cells (z6v ps).toArray 9)):=(Below.refl _ _).alloc (Nat.le_refl _) _;clear hdp;go_wp2_with fail;refine HPS.out.mono ?_;rintro e w2 ⟨rfl,rfl⟩;have HX2:=hd_ (HX1.out.below hA2 HX1.out.lt);have HC2:=hd_ (HC1.out.below hA2 HC1.out.lt);have HD2:=hd_ (HD1.out.below hA2 HD1.out.lt);have HW2:=hd_ (z0r HW1.out hA2);clear hA2 c0 c1 c2 c3 c4 c5 c6 c7 c8 c9 c10 c11;generalize W2.alloc (.cells (z6v ps).toArray 9)=w2 at HX2 HC2 HD2 HW2 ⊢;generalize Value.slice (some ⟨W2.heap.size,0,none⟩) ps.length ps.length=pv;obtain⟨c0,c1,c2,c3,c4,c5,c6,c7,c8,c9,c10,c11⟩:=z7z HX2.out;by_cases h200:200<x.path.size
  case pos =>
   have q:decide ((200:Int)<(x.path.size:Int))=true:=by simp;omega
   clear h200;go_wp2_with fail;go_ret;exact⟨⟨_,rfl⟩,HW2.out⟩
  have q:decide ((200:Int)<(x.path.size:Int))=false:=by simp;omega
  clear h200;go_upto_region 5 with fail;clear q;go_cut [49] (fun v wx=>∃ bb,v=.bool bb∧Hid (Below w2.heap.size w2 wx))
  case first =>
   by_cases h0:i=0
   ·have d0:decide (0<i)=false:=by simp;omega
    have d1:decide ((0:Int)<(i:Int))=false:=by simp;omega
    clear h0;go_quiet (fail)
    go_wp2_with fail;go_meet
    exact⟨false,rfl,hd_ (z0p (Below.refl _ _) _)⟩
   ·obtain⟨j,rfl⟩:∃ j,i=j+1:=⟨i - 1,by omega⟩
    have hj:j<c.edits.length:=by omega
    obtain⟨ad2,had,hab2,hld2⟩:=z47.at_ (HE.out.below HW2.out) hj;injection had with had
    subst had;have HSY:=hd_ (HSZ.out _ (List.getElem_mem hj));generalize c.edits[j]=y at hld2 HSY;have e0:=hld2.1;obtain⟨k0,k1,k2,k3,k4⟩:=zhx HC2.out;have d0:decide (0<j+1)=true:=by simp
    have d1:decide ((0:Int)<((j+1:Nat):Int))=true:=decide_eq_true (by omega)
    have d2:decide ((0:Int)<(j:Int)+1)=true:=decide_eq_true (by omega)
    have hwp:IntKind.i64.wrap (j:Int)=(j:Int):=by rw[IntKind.wrap_i64];omega
    have hjz:(j:Int)<(c.edits.length:Int):=by omega
    have HOR:=hd_ (fun X (hX:Below w2.heap.size w2 X)=>zhq y.path x.path X (HEN.out.below (z0r HW2.out hX)) HSY.out.1 HXM.out);clear hld2 h0;refine wp_region_noPanic ?_;first
     | go_region_law (go_simp;go_at_call 175;refine (HOR.out _ (Below.refl _ _).drew).mono ?_;rintro e w5 ⟨n,rfl,hb5,hn⟩;have HB5:=hd_ ((Below.refl w2.heap.size w2).drew.trans hb5);clear hb5 hn)
     | fail
    all_goals
     refine NoPanic.normal ?_;go_wp2_with fail;go_meet
     exact⟨decide (0≤n),rfl,HB5⟩
  case rest =>
   obtain⟨bb,rfl,HBB⟩:=hcut;have HW3:=hd_ (z0r HW2.out HBB.out);have HX3:=hd_ (HX2.out.below HBB.out HX2.out.lt);have HD3:=hd_ (HD2.out.below HBB.out HD2.out.lt);have HC3:=hd_ (HC2.out.below HBB.out HC2.out.lt);cases bb with
   | true =>
    go_wp2_with fail;go_ret;exact⟨⟨_,rfl⟩,HW3.out⟩
   | false =>
    clear HBB;generalize wc=w30 at HW3 HX3 HD3 HC3 ⊢;obtain⟨d0,d1,-,-⟩:=box2 HD3.out;obtain⟨c0,c1,c2,c3,c4,c5,c6,c7,c8,c9,c10,c11⟩:=z7z HX3.out;have HLV1:=hd_ (HLIVE.out x.path w30 HW3.out);go_upto_region 7 with fail;go_cut [10,11] (fun v10 v11 wx=>∃(lv:Bool) (ln:Int),v10=.bool lv∧v11=.int .i64 ln∧Hid (Below w30.heap.size w30 wx))
    case first =>
     go_wp2_with fail;refine HLV1.out.mono ?_;rintro e w3 ⟨rfl,hb3⟩;have HB3:=hd_ hb3;clear hb3;go_wp2_with fail;go_meet
     exact⟨_,_,rfl,rfl,HB3⟩
    case rest =>
     obtain⟨lv,ln,rfl,rfl,HV⟩:=hcut;have hk:=‹∀(a:Act) (w:World),Code.wp _ _ _ a w→_›;refine hk _ _ (HT8.out _ (by kernel_rfl) _ _ _ _ _ (HR.out.below (z0r HW3.out HV.out)) (HD3.out.below HV.out HD3.out.lt) (HC3.out.below HV.out HC3.out.lt) (HX3.out.below HV.out HX3.out.lt) (fun n w' hb=>⟨⟨n,rfl⟩,z0r (z0r HW3.out HV.out) hb⟩) _ _ _ _ _ _ _ _ _ _ _ _ _ _ _ _ _ _ _ _ _ _ _ _ _ _ _ _ _ _ _ _ _ _ _ _ _ _ _ _ _ _ _ _ _ _ _ _ _ _ _ _ _ _ _ _ _ _ _ _ _ _ _ _ _ _ _ _ _ _ _ _ _ _ _ _ _ _ _ _ _ _ _ _ _ _ _ _ _ _ _ _ _ _ _ _ _ _ _ _ _ _ _ _ _ _ _ _ _ _ _ _ _ _ _ _ _ _ _ _ _ _ _ _ _ _ _ _ _ _ _ _ _ _ _ _ _ _ _ _ _ _ _ lv ln HXM0.out.2)
open Go.Sort (grow)
theorem intElem:z0e Tryz.prog 22 3 1 8:=z0f Tryz.underlying22 (z:=.int .i64 0) (by kernel_rfl) rfl (by decide)
structure Bk1 (X wr:World)(bS bC:Nat)(F:ByteArray→Option Nat)(f:ByteArray→List Nat):Prop where
 low:Below X.heap.size X wr
 st:z2f Value.string natV wr bS F
 com:zkp wr X.heap.size wr.heap.size bC f
 ne:bS≠bC
 leC:X.heap.size≤bC
theorem Bk1.under {X wr wx:World}{bS bC:Nat}{F:ByteArray→Option Nat}{f:ByteArray→List Nat}(h:Bk1 X wr bS bC F f)(hb:Below wr.heap.size wr wx):Bk1 X wx bS bC F f:=
 ⟨z0r h.low hb,h.st.below hb,(h.com.keep fun x hx _=>hb.block x hx).upTo hb.size,h.ne,h.leC⟩
theorem zky {w:World}{B g:Nat}{e e2:TypeId}{size n:Nat}{v:Value}{xs cs:List Value}(h:w.ownsRow B e size v n xs)(hb:Blk w g e2 cs)(he:e≠e2):v.ownBlock≠some g:=by
 intro hx;rcases h.2 with⟨rfl,_⟩ | ⟨g',cap,cur,rfl,_,hg,_⟩
 ·cases hx
 ·injection hx with hx
  have hx':g'=g:=hx;subst hx';have hb':w.heap[g']? = _:=hb;rw[hg] at hb';injection hb' with hb'
  injection hb' with _ e1
  exact he e1
theorem bkR7 (ops:Array Oper)(hops:Tryz.f38.body.bind (zci 7)=some ops)(Q:Exit→Act→World→Prop)(X V1:World)(g7 bS bC:Nat)(F:ByteArray→Option Nat)(f:ByteArray→List Nat)(x:Syn)(i:Nat)
  (hI:Bk1 X V1 bS bC F f) (hx:Blk V1 g7 48 [.int .i64 x.kind,.string x.path,.int .i64 x.num,.string x.frm,.string x.dst]) (hf:(f x.dst).length≤1000000) (hX:X.heap.size≤V1.heap.size)
  (u0 u1 u2 u3 u4 u8 u9 gn gt gu gx gy gz gA gC gD gE gF gG gH gI gJ gK gL gM gN gO gP gQ gR gT gV gW gX gY gZ i6 i7 i8 ia ib ic ie ig ii ij ik il im io ip iq ir iu iv iw ix iy iz iA iB iC iD iE iF iG iH iI iJ iK iL iM iN iO iP iQ iR iS iT iU iV iW iX iY iZ j0 j1 j2 j5 j6 j7 j8 j9 jb jd je jf bw bz bA bB bD bE bF bG bH bI bJ bK bL bM bN bO bP bQ bT bU bV bW bX bY bZ ca cj:Value)
  (hQ:∀(eJ eK eL eM eN eO eP eQ eR eS:Value) (w':World),Hid (Bk1 X w' bS bC F (putF f x.dst i))→Q .normal ⟨#[u0,u1,u2,u3,u4,.map (some bC),.int .i64 i,.pointer (some ⟨g7,0,none⟩),u8,u9,gn,gt,gu,gx,gy,gz,gA,gC,gD,gE,gF,gG,gH,gI,gJ,gK,gL,gM,gN,gO,gP,gQ,eJ,eK,eL,eM,eN,eO,eP,eQ,eR,eS,ia,ib,ic,ie,ig,ii,ij,ik,il,im,io,ip,iq,ir,iu,iv,iw,ix,iy,iz,iA,iB,iC,iD,iE,iF,iG,iH,iI,iJ,iK,iL,iM,iN,iO,iP,iQ,iR,iS,iT,iU,iV,iW,iX,iY,iZ,j0,j1,j2,j5,j6,j7,j8,j9,jb,jd,je,jf,bw,bz,bA,bB,bD,bE,bF,bG,bH,bI,bJ,bK,bL,bM,bN,bO,bP,bQ,bT,bU,bV,bW,bX,bY,bZ,ca,cj],[]⟩ w'):
  (Code.region 7 ops true).wp Tryz.prog Q ⟨#[u0,u1,u2,u3,u4,.map (some bC),.int .i64 i,.pointer (some ⟨g7,0,none⟩),u8,u9,gn,gt,gu,gx,gy,gz,gA,gC,gD,gE,gF,gG,gH,gI,gJ,gK,gL,gM,gN,gO,gP,gQ,gR,gT,gV,gW,gX,gY,gZ,i6,i7,i8,ia,ib,ic,ie,ig,ii,ij,ik,il,im,io,ip,iq,ir,iu,iv,iw,ix,iy,iz,iA,iB,iC,iD,iE,iF,iG,iH,iI,iJ,iK,iL,iM,iN,iO,iP,iQ,iR,iS,iT,iU,iV,iW,iX,iY,iZ,j0,j1,j2,j5,j6,j7,j8,j9,jb,jd,je,jf,bw,bz,bA,bB,bD,bE,bF,bG,bH,bI,bJ,bK,bL,bM,bN,bO,bP,bQ,bT,bU,bV,bW,bX,bY,bZ,ca,cj],[]⟩ V1:=by
 simp only[Tryz.f38,Option.bind_some,zci] at hops
 simp at hops
 subst hops;obtain⟨A,c,hlk,hrow,hup,hback⟩:=hI.com.look x.dst;have hbC:bC<V1.heap.size:=by obtain⟨g,hg⟩:=hI.com;exact hg.map.lt
 have hnr:=zky hrow hx (by decide)
 have HL:Hid (∀ W,Below V1.heap.size V1 W→(Instr.lookup 123 (.map (some bC)) (.string x.dst) false).run Tryz.prog W=.ok (.slice A (f x.dst).length c) W):=hd_ fun W hW=>hlk W (hW.block bC hbC);have HX:Hid (∀ W,Below V1.heap.size V1 W→W.cell? ⟨g7,4,none⟩=some (.string x.dst)):=hd_ fun W hW=>(hx.below hW hx.lt).cell 4;have HX2:Hid (∀ Y W,Below V1.heap.size V1 Y→Y.grownBy W (Value.slice A (f x.dst).length c).ownBlock→W.cell? ⟨g7,4,none⟩=some (.string x.dst)):=hd_ fun Y W hY hG=>((hx.below hY hx.lt).grown hG (fun e=>hnr e.symm)).cell 4;have HROW:Hid (∀ W,Below V1.heap.size V1 W→W.ownsRow X.heap.size 3 1 (.slice A (f x.dst).length c) (f x.dst).length (zkl (f x.dst))):=hd_ fun W hW=>z0n hrow hW;have HEND:Hid (∀(Y W:World) (A':Option Addr) (c':Nat),Below V1.heap.size V1 Y→Y.grownBy W (Value.slice A (f x.dst).length c).ownBlock→W.ownsRow X.heap.size 3 1 (.slice A' ((f x.dst).length+1) c') ((f x.dst).length+1) (zkl (f x.dst)++[.int .i64 i]) →
   ((Value.slice A' ((f x.dst).length+1) c').ownBlock=(Value.slice A (f x.dst).length c).ownBlock∨(Value.slice A' ((f x.dst).length+1) c').ownBlock=some Y.heap.size) →
   ∃ W2,(Instr.mapUpdate 123 (.map (some bC)) (.string x.dst) (.slice A' ((f x.dst).length+1) c')).run Tryz.prog W=.ok () W2∧Bk1 X W2 bS bC F (putF f x.dst i)):=hd_ fun Y W A' c' hY hG hO hB=>by
  have hg1:V1.grownBy W (Value.slice A (f x.dst).length c).ownBlock:=⟨hG.os.trans hY.os,hG.tape.trans hY.tape,hG.output.trans hY.output,Nat.le_trans hY.size hG.size,fun k hk hne=>(hG.block k (Nat.lt_of_lt_of_le hk hY.size) hne).trans (hY.block k hk)⟩;obtain⟨W2,h1,h2,h3,h4⟩:=hback W A' c' _ i W.heap.size hg1 rfl hO (Nat.le_refl _) hg1.size (Nat.le_refl _) (by
   rcases hB with e | e
   ·exact .inl e
   ·exact .inr ⟨_,e,hY.size⟩)
  have hrb:∀ k,(Value.slice A (f x.dst).length c).ownBlock=some k→X.heap.size≤k:=fun k hk=>(hup k hk).2;obtain⟨es,cc,hm⟩:=zko hI.st;have hbS:(Value.slice A (f x.dst).length c).ownBlock≠some bS:=fun e=>zkn hrow e hm;have hl1:Below X.heap.size X W:=hI.low.grown hg1 hX hrb;exact⟨W2,h1,⟨hl1.grown h3 (Nat.le_trans hX hg1.size) (fun k e=>by injection e with e;have:=hI.leC;omega),(hI.st.grown hg1 (fun e=>hbS e.symm)).grown h3 (fun e=>hI.ne (by injection e)),by rw[h4];exact h2,hI.ne,hI.leC⟩⟩
 have HQ:=hd_ hQ;have hdr:Below V1.heap.size V1 V1.drew:=(Below.refl _ _).drew;have hda:Below V1.heap.size V1 (V1.alloc (.cells #[.int .i64 i] 3)).drew:=(zcf (Below.refl _ _) _).drew;have HDA:=hd_ hda;have x1:=HX.out V1 (Below.refl _ _);have x2:=HX.out _ hda;have l1:=HL.out _ hdr;have l2:=HL.out _ hda;have HF:=hd_ hf;have HSZ:Hid (X.heap.size≤(V1.alloc (.cells #[.int .i64 i] 3)).drew.heap.size):=hd_ (Nat.le_trans hX hda.size);clear hQ hI hx hlk hrow hup hback hdr hda hf hX hbC hnr;generalize f x.dst=fl at *;refine wp_region_noPanic ?_;go_region_law (first
  | (refine zce (base:=X.heap.size) rfl rfl intElem (HROW.out _ HDA.out) (by simp [Act.eval,Act.put];done) (Row.drew (z0i V1 [.int .i64 i] _ 1 1 rfl (by decide) _ rfl)) (by simp [Act.eval,Act.put];done) (by simp [Value.oneCell']) (by have:=HF.out;omega) (by have:=HF.out;unfold maxLen;omega) HSZ.out ?_;intro A6 c6 w6 hO6 hG6 hw6;have x6:=HX2.out _ _ HDA.out hG6;obtain⟨W2,hup2,hfin⟩:=HEND.out _ _ _ _ HDA.out hG6 hO6 hw6))
 all_goals exact NoPanic.normal (HQ.out _ _ _ _ _ _ _ _ _ _ _ (hd_ hfin))
theorem znl {p:Pat}(h:z7e p=0):p.parts.length≤12:=by
 unfold z7e at h;split at h
 ·cases h
 ·split at h
  ·cases h
  ·split at h
   ·cases h
   ·omega
theorem znm (p q:Pat)(A B:Option Addr)(a b:Nat)(w:World)(hp:za9 w (.slice A p.parts.length a) p)(hq:za9 w (.slice B q.parts.length b) q)(hpr:p.rest=true)(hqr:q.rest=true)(hpe:z7e p=0)(hqe:z7e q=0)(hw:WiOk p q):
  Calls Tryz.prog 221 #[.agg #[.slice A p.parts.length a,.bool true],.agg #[.slice B q.parts.length b,.bool true]] w fun e w'=>e=.returned (.bool true)∧Below w.heap.size w w':=by
 have hA:Below w.heap.size w ((w.alloc (.cells #[.slice A p.parts.length a,.bool true] 97)).alloc (.cells #[.slice B q.parts.length b,.bool true] 97)):=((Below.refl _ _).alloc (Nat.le_refl _) _).alloc (by simp) _
 have h2:zbo ((w.alloc (.cells #[.slice A p.parts.length a,.bool true] 97)).alloc (.cells #[.slice B q.parts.length b,.bool true] 97)) w.heap.size (.slice A p.parts.length a) true:=(z0l w [.slice A p.parts.length a,.bool true] 97).alloc _;have h3:zbo ((w.alloc (.cells #[.slice A p.parts.length a,.bool true] 97)).alloc (.cells #[.slice B q.parts.length b,.bool true] 97)) (w.heap.size+1) (.slice B q.parts.length b) true:=by
  have:=z0l (w.alloc (.cells #[.slice A p.parts.length a,.bool true] 97)) [.slice B q.parts.length b,.bool true] 97;rw[World.size_alloc] at this;exact this
 have HCP:=hd_ (fun X (hX:Below w.heap.size w X)=>zca p A a X (hp.below hX).1 hp.small);have HCQ:=hd_ (fun X (hX:Below w.heap.size w X)=>zca q B b X (hq.below hX).1 hq.small);rw[hpe,hpr] at HCP;rw[hqe,hqr] at HCQ;have HIN:Hid (∀(k:Nat) (h:k<q.parts.length) (h2:k<p.parts.length) X,Calls Tryz.prog 223 #[.string p.parts[k],.string q.parts[k]] X fun e w'=>e=.returned (.bool true)∧Below X.heap.size X w'):=hd_ fun k h h2 X=>by
  have:=zme p.parts[k] q.parts[k] X (zcc hpe _) (zcc hqe h) (hp.2 _ (List.getElem_mem _)) (hq.2 _ (List.getElem_mem h));rw[hw.all k h] at this;exact this
 have HP:=hd_ hp;have HQ:=hd_ hq;have hle:=hw.le;have hq12:=znl hqe;have q1:decide ((p.parts.length:Int)<(q.parts.length:Int))=false:=by simp;omega
 clear hp hq hpe hqe hpr hqr hw;go_enter Tryz.func221,Tryz.ntmps221;go_upto_region 1 with fail;generalize (w.alloc (.cells #[.slice A p.parts.length a,.bool true] 97)).alloc (.cells #[.slice B q.parts.length b,.bool true] 97)=W1 at hA h2 h3 ⊢;have x0:=h2.c0;have x1:=h2.c1;have y0:=h3.c0;have y1:=h3.c1;have H:=hd_ (And.intro hA (And.intro h2 h3));have HC1:=hd_ (HCP.out W1 hA);clear hA h2 h3;go_wp2_with fail;refine HC1.out.mono ?_;rintro e w2 ⟨rfl,hb⟩;dsimp only;have HB:=hd_ (z0r H.out.1 hb);have HG:=hd_ (And.intro (H.out.2.1.low hb) (H.out.2.2.low hb));have HC2:=hd_ (HCQ.out w2 HB.out);clear hb x0 x1 y0 y1;have x0:=HG.out.1.c0;have x1:=HG.out.1.c1;have y0:=HG.out.2.c0;have y1:=HG.out.2.c1;go_wp2_with fail;refine HC2.out.mono ?_;rintro e w3 ⟨rfl,hb⟩;dsimp only;have HB3:=hd_ (z0r HB.out hb);have HG3:=hd_ (And.intro (HG.out.1.low hb) (HG.out.2.low hb));clear hb x0 x1 y0 y1;have x0:=HG3.out.1.c0;have x1:=HG3.out.1.c1;have y0:=HG3.out.2.c0;have y1:=HG3.out.2.c1;obtain⟨cc,hcc⟩:∃ cc,((p.parts.length:Int) == (q.parts.length:Int))=cc:=⟨_,rfl⟩;cases cc
 all_goals
  go_wp2_with fail;clear x0 x1 y0 y1 hcc;go_loopw [59] (fun i wr=>∃ k:Nat,i=.int .i64 k∧k≤q.parts.length∧Hid (Below w3.heap.size w3 wr)) (fun i _=>q.parts.length - (intOf i).toNat)
  case atStart=>exact⟨0,rfl,Nat.zero_le _,hd_ (Below.refl _ _)⟩
  case round =>
   obtain⟨k,rfl,hk,HI⟩:=hrel;by_cases hlt:k<q.parts.length
   ·obtain⟨ad,rfl,hab,s0⟩:=Strs.at_ (HQ.out.below (z0r HB3.out HI.out)).1 hlt;obtain⟨ad2,rfl,hab2,s1⟩:=Strs.at_ (HP.out.below (z0r HB3.out HI.out)).1 (Nat.lt_of_lt_of_le hlt hle);have HCI:=hd_ (HIN.out k hlt (Nat.lt_of_lt_of_le hlt hle) wr);have hlt2:=Nat.lt_of_lt_of_le hlt hle;have x0:=(HG3.out.1.low HI.out).c0;have HLT:=hd_ hlt;generalize q.parts[k]=u at s0 HCI;generalize p.parts[k]=v at s1 HCI;go_wp2_with fail;refine HCI.out.mono ?_;rintro e w4 ⟨rfl,hb⟩;dsimp only;have HB4:=hd_ (z0r HI.out hb);clear hb s0 s1 x0;go_wp2_with fail;go_roundw
    case rel=>exact⟨k+1,by go_num,by have:=HLT.out;omega,HB4⟩
    case measure=>have:=HLT.out;simp [intOf];omega
   ·have hke:k=q.parts.length:=by omega
    have HB5:=hd_ (z0r HB3.out HI.out);subst hke;go_wp2_with fail;go_ret;exact⟨rfl,HB5.out⟩
end Go.Proofs.YtegeboijhifmcaaGreatDoor
