/- A part of the proof. -/
import Derived.Test.YtegeboijhifmcaaGreatDoorMgw24
import Derived.Test.YtegeboijhifmcaaGreatDoorMgw29
set_option linter.unusedVariables false
set_option linter.unusedSimpArgs false
set_option maxHeartbeats 16000000
set_option maxRecDepth 100000
namespace Go.Proofs.YtegeboijhifmcaaGreatDoor
open Go.Proofs.Tryz
open Go.RowKit
def zhu (n:Nat):Code→Bool
 | .region i _ _=>i == n
 | .seq a b=>zhu n a || zhu n b
 | .cond _ a b=>zhu n a || zhu n b
 | .block _ a=>zhu n a
 | .loop a=>zhu n a
 | _=>false
def zhv (n:Nat):Code→Option Code
 | .seq a b=>if zhu n a then some (.seq a b) else zhv n b
 | c=>if zhu n c then some c else none
theorem weT18 (T:Code)(hT:Tryz.f126.body.bind (zhv 18)=some T)(R:Ending→World→Prop)(revs:List Rev)(c:Chg)(x:Edt)(Ar Ae Ac:Option Addr)(dr:Value)(cr ce cc g3 g4 g7:Nat)(w4:World)
  (hR:z45 w4 (.slice Ar revs.length cr) revs) (hl:revs.length≤100000) (hbs:0≤x.base∧x.base≤1000000)
  (hD:Blk w4 g3 26 [.slice Ar revs.length cr,dr]) (hC:Blk w4 g4 95 [.int .i64 c.num,.string c.client,.string c.text,.slice Ae c.edits.length ce,.slice Ac c.recs.length cc]) (hX:Blk w4 g7 90 [.string x.path,.int .i64 x.act,.int .i64 x.ty.base,.bool x.ty.k,.bool x.ty.l,.bool x.ty.x,.int .u64 x.sum,.int .i64 x.size,.int .i64 x.base,.string x.frm,.int .i64 x.fnum,.int .i64 x.fence])
  (hRR:∀(n:Int) (w':World),Below w4.heap.size w4 w'→R (.returned (.int .i64 n)) w')
  (u0 u1 u2 u5 u6 u8 u9 gn gt gu gx gy gz gA gC gD gE gF gG gH gI gJ gK gL gM gN gO gP gQ gR gT gV gW gX gY gZ i6 i7 i8 ia ib ic ie ig ii ij ik il im io ip iq ir iu iv iw ix iy iz iA iB iC iD iE iF iG iH iI iJ iK iL iM iN iO iP iQ iR iS iT iU iV iW iX iY iZ j0 j1 j2 j5 j6 j7 j8 j9 jb jd je jf bw bz bA bB bD bE bF bG bH bI bJ bK bL bM bN bO bP bQ bT bU bV bW bX bY bZ ca cj ck cn cx cy cz cA cB cD cE cG cH cI cJ cM cN cO cP cQ cT cU cW:Value):
  T.wp prog (bodyPost prog Tryz.f126 R) ⟨#[u0,u1,u2,.pointer (some ⟨g3,0,none⟩),.pointer (some ⟨g4,0,none⟩),u5,u6,.pointer (some ⟨g7,0,none⟩),u8,u9,gn,gt,gu,gx,gy,gz,gA,gC,gD,gE,gF,gG,gH,gI,gJ,gK,gL,gM,gN,gO,gP,gQ,gR,gT,gV,gW,gX,gY,gZ,i6,i7,i8,ia,ib,ic,ie,ig,ii,ij,ik,il,im,io,ip,iq,ir,iu,iv,iw,ix,iy,iz,iA,iB,iC,iD,iE,iF,iG,iH,iI,iJ,iK,iL,iM,iN,iO,iP,iQ,iR,iS,iT,iU,iV,iW,iX,iY,iZ,j0,j1,j2,j5,j6,j7,j8,j9,jb,jd,je,jf,bw,bz,bA,bB,bD,bE,bF,bG,bH,bI,bJ,bK,bL,bM,bN,bO,bP,bQ,bT,bU,bV,bW,bX,bY,bZ,ca,cj,ck,cn,cx,cy,cz,cA,cB,cD,cE,cG,cH,cI,cJ,cM,cN,cO,cP,cQ,cT,cU,cW],[]⟩ w4:=by
 simp only[Tryz.f126,Option.bind_some,zhv,zhu] at hT
 simp at hT
 subst hT;have HRR:=hd_ hRR;have HR:=hd_ hR;have HBS:=hd_ hbs;have HX4:=hd_ hX;have HD4:=hd_ hD;have HC4:=hd_ hC;have HLAST:=hd_ (fun p X (hX:Below w4.heap.size w4 X)=>zh1 revs p (.slice Ar revs.length cr) dr X (HR.out.below hX) (by omega))
 clear hRR hR hbs hD hC hX;obtain⟨c0,c1,c2,c3,c4,c5,c6,c7,c8,c9,c10,c11⟩:=z7z HX4.out;have HCK:=hd_ (fun X=>zi3 x.ty.base x.ty.k x.ty.l x.ty.x X);cases htk:z2j x.ty.base x.ty.k x.ty.x with
 | false =>
  rw[htk] at HCK;clear htk;go_wp2_with fail;refine (HCK.out _).mono ?_;rintro e w5 ⟨rfl,hb5⟩;have HB5:=hd_ hb5;clear hb5;go_wp2_with fail;exact HRR.out _ _ (HB5.out)
 | true =>
  rw[htk] at HCK;clear htk;go_wp2_with fail;refine (HCK.out _).mono ?_;rintro e w5 ⟨rfl,hb5⟩;have HW5:=hd_ hb5;have HX5:=hd_ (HX4.out.below hb5 HX4.out.lt);have HD5:=hd_ (HD4.out.below hb5 HD4.out.lt);have HC5:=hd_ (HC4.out.below hb5 HC4.out.lt);clear hb5 c0 c1 c2 c3 c4 c5 c6 c7 c8 c9 c10 c11;obtain⟨c0,c1,c2,c3,c4,c5,c6,c7,c8,c9,c10,c11⟩:=z7z HX5.out;by_cases hz:x.size<0
  ·have q:decide (x.size<0)=true:=by simp;omega
   clear hz;go_wp2_with fail;exact HRR.out _ _ (HW5.out)
  ·have q:decide (x.size<0)=false:=by simp;omega
   clear hz;obtain⟨d0,d1,-,-⟩:=box2 HD5.out;have HL2:=hd_ (HLAST.out x.path w5 HW5.out);go_wp2_with fail;refine HL2.out.mono ?_;rintro e w6 ⟨rfl,hb6⟩;generalize zec (zgs revs x.path)=r;generalize (zgs revs x.path).isSome=okb;have hY:=z0l w6 [.string r.path,.int .i64 r.num,.int .i64 r.chg,.int .i64 r.act,.int .i64 r.ty.base,.bool r.ty.k,.bool r.ty.l,.bool r.ty.x,.int .u64 r.sum,.int .i64 r.size,.string r.frm,.int .i64 r.fnum] 66;have hA6:Below w5.heap.size w5 (w6.alloc (.cells #[.string r.path,.int .i64 r.num,.int .i64 r.chg,.int .i64 r.act,.int .i64 r.ty.base,.bool r.ty.k,.bool r.ty.l,.bool r.ty.x,.int .u64 r.sum,.int .i64 r.size,.string r.frm,.int .i64 r.fnum] 66)):=zcf hb6 _;clear hb6 c0 c1 c2 c3 c4 c5 c6 c7 c8 c9 c10 c11 d0 d1;go_upto_region 21 with fail;generalize w6.alloc (.cells #[.string r.path,.int .i64 r.num,.int .i64 r.chg,.int .i64 r.act,.int .i64 r.ty.base,.bool r.ty.k,.bool r.ty.l,.bool r.ty.x,.int .u64 r.sum,.int .i64 r.size,.string r.frm,.int .i64 r.fnum] 66)=w7 at hY hA6 ⊢;generalize w6.heap.size=g14 at hY ⊢;have HX7:=hd_ (HX5.out.below hA6 HX5.out.lt);have HC7:=hd_ (HC5.out.below hA6 HC5.out.lt);have HY:=hd_ hY;have HW7:=hd_ (z0r HW5.out hA6);clear hY hA6;obtain⟨c0,c1,c2,c3,c4,c5,c6,c7,c8,c9,c10,c11⟩:=z7z HX7.out;obtain⟨k0,k1,k2,k3,k4⟩:=zhx HC7.out;have HMD:=hd_ (zhz c.num c.client c.text Ae Ac c.edits.length c.recs.length ce cc x w7 HBS.out);go_wp2_with fail;refine HMD.out.mono ?_;rintro e w8 ⟨rfl,hb8⟩;have HB8:=hd_ hb8;clear hb8 c0 c1 c2 c3 c4 c5 c6 c7 c8 c9 c10 c11 k0 k1 k2 k3 k4;have HGO:=hd_ (zhw (zhy c.num x) w8);go_wp2_with fail;refine HGO.out.mono ?_;rintro e w9 ⟨rfl,hb9⟩;have HB9:=hd_ (z0r HB8.out hb9);clear hb9;obtain⟨c0,c1,c2,c3,c4,c5,c6,c7,c8,c9,c10,c11⟩:=z7z (HX7.out.below HB9.out HX7.out.lt);obtain⟨b0,b1,b2,b3,b4,b5,b6,b7,b8,b9,b10,b11⟩:=z7z (HY.out.below HB9.out HY.out.lt);have hact:(zhy c.num x).act=x.act:=rfl;rw[hact];clear hact;have hty:=zhr x.ty r.ty;have hcn:=zhs x.sum x.size 0 0;generalize (decide (x.sum=0) && decide (x.size=0))=bc at hcn
   generalize decide (x.ty=r.ty)=bt at hty;cases hlv:z2v x.act with
   | true =>
    clear hlv;go_wp2_with fail;exact HRR.out _ _ (z0r HW7.out HB9.out)
   | false =>
    clear hlv;cases bt with
    | false =>
     go_wp2_with fail;exact HRR.out _ _ (z0r HW7.out HB9.out)
    | true =>
     cases bc with
     | false =>
      go_wp2_with fail;exact HRR.out _ _ (z0r HW7.out HB9.out)
     | true =>
      go_wp2_with fail;exact HRR.out _ _ (z0r HW7.out HB9.out)
def zmo (w:World)(v:Value)(b:Bool)(e:Ending)(w':World):Prop:=Below w.heap.size w w'∧∃ H n c,e=.returned (.agg #[v,.bool b,.slice H n c])
theorem zmp (T:Code)(hT:Tryz.f184.body.bind (zhv 9)=some T)(w W:World)(A:Option Addr)(n a g2 g4:Nat)(b:Bool)(hP:zbo W g2 (.slice A n a) b)(hR:Blk W g4 115 [.slice none 0 0,.bool false,.slice none 0 0])(hb:Below w.heap.size w W)(h4:w.heap.size≤g4)
  (u0 u1 u3 u6 u7 u8 u9 gn gt gu gx gy gz gA gC gD gE gF gG gH gI gJ gK gL gM gN gO gP gQ gR gT gV gW gX gY gZ i6 i7 i8 ia ib ic ie ig ii ij ik il im io ip iq ir iu iv iw ix iy iz iA iB iC iD iE iF iG iH iI iJ iK iL iM iN iO iP iQ iR iS iT iU iV iW iX iY iZ j0 j1 j2 j5 j6 j7 j8 j9 jb jd je jf bw bz bA bB bD bE bF bG bH bI bJ bK bL bM bN bO bP bQ bT bU bV bW:Value):
  T.wp prog (bodyPost prog Tryz.f184 (zmo w (.slice A n a) b)) ⟨#[u0,u1,.pointer (some ⟨g2,0,none⟩),u3,.pointer (some ⟨g4,0,none⟩),.slice none 0 0,u6,u7,u8,u9,gn,gt,gu,gx,gy,gz,gA,gC,gD,gE,gF,gG,gH,gI,gJ,gK,gL,gM,gN,gO,gP,gQ,gR,gT,gV,gW,gX,gY,gZ,i6,i7,i8,ia,ib,ic,ie,ig,ii,ij,ik,il,im,io,ip,iq,ir,iu,iv,iw,ix,iy,iz,iA,iB,iC,iD,iE,iF,iG,iH,iI,iJ,iK,iL,iM,iN,iO,iP,iQ,iR,iS,iT,iU,iV,iW,iX,iY,iZ,j0,j1,j2,j5,j6,j7,j8,j9,jb,jd,je,jf,bw,bz,bA,bB,bD,bE,bF,bG,bH,bI,bJ,bK,bL,bM,bN,bO,bP,bQ,bT,bU,bV,bW],[]⟩ W:=by
 simp only[Tryz.f184,Option.bind_some,zhv,zhu] at hT
 simp at hT
 subst hT;have HP:=hd_ hP;have HR:=hd_ hR;have HB:=hd_ hb;clear hP hR hb;go_wp2_with fail;go_loopw [38] (fun i wr=>i=.int .i64 0∧wr=W) (fun i _=>0)
 case atStart=>exact⟨rfl,rfl⟩
 case round =>
  obtain⟨rfl,rfl⟩:=hrel;have x0:=HP.out.c0;have x1:=HP.out.c1;go_wp2_with fail;have hX:Below wr.heap.size wr (wr.alloc (.cells #[.slice A n a,.bool b,.slice none 0 0] 115)):=(Below.refl _ _).alloc (Nat.le_refl _) _;have HZ:=hd_ (z0l wr [.slice A n a,.bool b,.slice none 0 0] 115);have HR2:=hd_ (HR.out.below hX HR.out.lt);have HB2:=hd_ (z0r HB.out hX);have HLT:=hd_ HR.out.lt;clear hX x0 x1;generalize wr.alloc (.cells #[.slice A n a,.bool b,.slice none 0 0] 115)=W2 at HZ HR2 HB2 ⊢;generalize wr.heap.size=g12 at HZ HLT ⊢;go_loopw [81] (fun i wr=>i=.int .i64 0∧wr=W2) (fun i _=>0)
  case atStart=>exact⟨rfl,rfl⟩
  case round =>
   obtain⟨rfl,rfl⟩:=hrel;obtain⟨z0,z1,z2⟩:=(⟨HZ.out.cell 0,HZ.out.cell 1,HZ.out.cell 2⟩:wr.cell? ⟨g12,0,none⟩=some (.slice A n a)∧wr.cell? ⟨g12,1,none⟩=some (.bool b)∧wr.cell? ⟨g12,2,none⟩=some (.slice none 0 0));obtain⟨u0,u1,u2⟩:=(⟨HR2.out.cell 0,HR2.out.cell 1,HR2.out.cell 2⟩:wr.cell? ⟨g4,0,none⟩=some (.slice none 0 0)∧wr.cell? ⟨g4,1,none⟩=some (.bool false)∧wr.cell? ⟨g4,2,none⟩=some (.slice none 0 0));obtain⟨v0,v1,v2⟩:=(⟨HR2.out.frozen 0,HR2.out.frozen 1,HR2.out.frozen 2⟩:wr.frozen? ⟨g4,0,none⟩=false∧wr.frozen? ⟨g4,1,none⟩=false∧wr.frozen? ⟨g4,2,none⟩=false);go_wp2_with fail;have hE:=((HR2.out.set_ 0 (.slice A n a)).set_ 1 (.bool b)).set_ 2 (.slice none 0 0);have hb:=((HB2.out.setCell (p:=⟨g4,0,none⟩) h4 (.slice A n a)).setCell (p:=⟨g4,1,none⟩) h4 (.bool b)).setCell (p:=⟨g4,2,none⟩) h4 (.slice none 0 0);generalize ((wr.setCell ⟨g4,0,none⟩ (.slice A n a)).setCell ⟨g4,1,none⟩ (.bool b)).setCell ⟨g4,2,none⟩ (.slice none 0 0)=W3 at hE hb ⊢;have e0:=hE.cell 0;have e1:=hE.cell 1;have e2:=hE.cell 2;exact bodyPost_ret (v:=.agg #[.slice A n a,.bool b,.slice none 0 0]) (by simp [results,results184,go_sem,e0,e1,e2]) rfl ⟨hb,_,_,_,rfl⟩
def znf (w:World)(U g m:Nat)(e:Ending)(w':World):Prop:=∃(k:Nat) (es:List zd8) (v:Value),e=.returned v∧k<8∧es.map zd8.pl=zg3 k∧zdi w' v es∧zgf w' U g (m+1)∧z6t [g] w w'
theorem zng (U g m:Nat)(w:World)(hT:zgf w U g m)(hm:m≤1000000):Calls prog 25 #[.pointer (some ⟨g,0,none⟩)] w (znf w U g m):=by
 have HN:=hd_ (zgg U g m 8 w hT hm (by omega))
 clear hT hm;go_enter func25,ntmps25;go_upto_region 2 with fail;refine HN.out.mono ?_;rintro e w1 ⟨k,rfl,hk,hT1,hK1⟩;dsimp only;have HT:=hd_ hT1;have HK:=hd_ hK1;have h8:k=0∨k=1∨k=2∨k=3∨k=4∨k=5∨k=6∨k=7:=by obtain⟨a,b,-⟩:=hk;have:=b (by omega);omega
 clear hT1 hK1 hk HN;have HF:Hid (∀(k:Nat) (es:List zd8) (v:Value) (w':World),k<8→es.map zd8.pl=zg3 k→zdi w' v es→Below w1.heap.size w1 w'→znf w U g m (.returned v) w'):=hd_ fun k es v w' h1 h2 h3 h4=>⟨k,es,v,rfl,h1,h2,h3,HT.out.below h4,HK.out.under h4⟩;rcases h8 with rfl | rfl | rfl | rfl | rfl | rfl | rfl | rfl
 ·as_aux_lemma =>
  go_upto_region 3 with fail;refine mpR3 _ (by kernel_rfl) _ w1 ?_
  intro t7 t8 t9 ed ef ei es A' n c w' H;go_wp2_with fail;go_ret;exact HF.out 0 es _ w' (by decide) H.out.1 H.out.2.1 H.out.2.2
 ·as_aux_lemma =>
  go_upto_region 5 with fail;refine mpR5 _ (by kernel_rfl) _ w1 ?_
  intro el em en eo er et eu ez eA es A' n c w' H;go_wp2_with fail;go_ret;exact HF.out 1 es _ w' (by decide) H.out.1 H.out.2.1 H.out.2.2
 ·as_aux_lemma =>
  go_upto_region 7 with fail;refine mpR7 _ (by kernel_rfl) _ w1 ?_
  intro eD eE eF eG eH eI eJ eK eL eM eN es A' n c w' H;go_wp2_with fail;go_ret;exact HF.out 2 es _ w' (by decide) H.out.1 H.out.2.1 H.out.2.2
 ·as_aux_lemma =>
  go_upto_region 9 with fail;refine mpR9 _ (by kernel_rfl) _ w1 ?_
  intro eQ eR eS eT eU eV eW eX eY eZ fa fd fe ff fg fh es A' n c w' H;go_wp2_with fail;go_ret;exact HF.out 3 es _ w' (by decide) H.out.1 H.out.2.1 H.out.2.2
 ·as_aux_lemma =>
  go_upto_region 11 with fail;refine mpR11 _ (by kernel_rfl) _ w1 ?_
  intro fm fp fq ft fu fv fw fx fy fA fB fC fD fE fF fG es A' n c w' H;go_wp2_with fail;go_ret;exact HF.out 4 es _ w' (by decide) H.out.1 H.out.2.1 H.out.2.2
 ·as_aux_lemma =>
  go_upto_region 13 with fail;refine mpR13 _ (by kernel_rfl) _ w1 ?_
  intro fJ fK fL fM fN fO fP fQ fR fS fT es A' n c w' H;go_wp2_with fail;go_ret;exact HF.out 5 es _ w' (by decide) H.out.1 H.out.2.1 H.out.2.2
 ·as_aux_lemma =>
  go_upto_region 15 with fail;refine mpR15 _ (by kernel_rfl) _ w1 ?_
  intro fW fX fY fZ ga gb gf gg gh gi gj es A' n c w' H;go_wp2_with fail;go_ret;exact HF.out 6 es _ w' (by decide) H.out.1 H.out.2.1 H.out.2.2
 ·as_aux_lemma =>
  go_wp2_with fail;go_ret;exact HF.out 7 [] _ w1 (by decide) rfl ⟨Row.nil_ _ 5,fun x h=>by cases h⟩ (Below.refl _ _)
theorem zo5 (es:List zd8)(v:Value)(p:ByteArray)(w:World)(he:Env w)(hE:zdi w v es)(hl32:es.length≤32)(hz:p.size≤1000000)
  (hC:Calls prog 93 #[v] w fun e w'=>e=.returned (.tuple #[.int .i64 0,.int .i64 0])∧Below w.heap.size w w')
  (hF:∀ x∈es,∀ X,Below w.heap.size w X→Calls prog 188 #[.agg #[.bool false,x.l.v,.bool x.l.1.rest,x.r.v,.bool x.r.1.rest],.string p] X (zc3 X (zc2 x.l.1 x.r.1 p))):
  Calls prog 95 #[v,.string p] w (zc3 w (zdt es p)):=by
 obtain⟨A,c,rfl,-⟩:=id hE.1;have HC:=hd_ hC;have HB:=hd_ (fun X (hX:Below w.heap.size w X)=>rBy_ok es _ p X (he.below hX) (hE.below hX) hl32 hz (fun x hx Y hY=>hF x hx Y (z0r hX hY)));generalize zdt es p=o at HB ⊢;clear he hE hC hF;go_enter func95,ntmps95;go_upto_region 1 with fail;go_wp2_with fail;refine HC.out.mono ?_;rintro e w2 ⟨rfl,hb⟩;dsimp only;have HB2:=hd_ hb;have HY:=hd_ (HB.out w2 hb);clear hb HC HB;go_wp2_with fail;refine HY.out.mono ?_;rintro e w3 ⟨rfl,hb⟩;dsimp only;have HB3:=hd_ (z0r HB2.out hb);clear hb HY;go_wp2_with fail;go_ret2;exact⟨rfl,HB3.out⟩
theorem zo7 (p q:Pat)(A B:Option Addr)(a b:Nat)(hv hu:Value)(w:World)(hp:za9 w (.slice A p.parts.length a) p)(hq:za9 w (.slice B q.parts.length b) q)(hm:zai p q=none)(hsym:znr p q):
  Calls prog 139 #[.agg #[.slice A p.parts.length a,.bool p.rest,hv],.agg #[.slice B q.parts.length b,.bool q.rest,hu]] w fun e w'=>e=.returned (.bool false)∧Below w.heap.size w w':=by
 obtain⟨W1,hW1⟩:∃ W,W=(w.alloc (.cells #[.slice A p.parts.length a,.bool p.rest,hv] 115)).alloc (.cells #[.slice B q.parts.length b,.bool q.rest,hu] 115):=⟨_,rfl⟩;have hA:Below w.heap.size w W1:=by rw[hW1];exact ((Below.refl _ _).alloc (Nat.le_refl _) _).alloc (by simp) _
 have h2:Blk W1 w.heap.size 115 [.slice A p.parts.length a,.bool p.rest,hv]:=by rw[hW1];exact (z0l w _ _).alloc _
 have h3:Blk W1 (w.heap.size+1) 115 [.slice B q.parts.length b,.bool q.rest,hu]:=by
  rw[hW1];have:=z0l (w.alloc (.cells #[.slice A p.parts.length a,.bool p.rest,hv] 115)) [.slice B q.parts.length b,.bool q.rest,hu] 115;simp only[World.size_alloc] at this
  exact this
 have HME:=hd_ (zmn p q A B a b W1 (hp.below hA) (hq.below hA) hsym);have HM:=hd_ hm;have HA:=hd_ hA;have HW1:=hd_ hW1;obtain⟨x0,x1⟩:=(⟨h2.cell 0,h2.cell 1⟩:W1.cell? ⟨w.heap.size,0,none⟩=some (.slice A p.parts.length a)∧W1.cell? ⟨w.heap.size,1,none⟩=some (.bool p.rest));obtain⟨y0,y1⟩:=(⟨h3.cell 0,h3.cell 1⟩:W1.cell? ⟨w.heap.size+1,0,none⟩=some (.slice B q.parts.length b)∧W1.cell? ⟨w.heap.size+1,1,none⟩=some (.bool q.rest));clear hp hq hm hA hW1 h2 h3 hsym;go_enter func139,ntmps139;go_upto_region 1 with fail;rw[← HW1.out];go_wp2_with fail;refine HME.out.mono ?_;rintro e w4 ⟨hb,⟨-,rfl⟩ | ⟨m',A6,c6,hmm,-⟩⟩
 case inr=>rw[HM.out] at hmm;cases hmm
 dsimp only;have HB:=hd_ (z0r HA.out hb);have hX:Below w4.heap.size w4 (w4.alloc (.cells #[.slice none 0 0,.bool false] 97)):=(Below.refl _ _).alloc (Nat.le_refl _) _;have HB5:=hd_ (z0r HB.out hX);clear x0 x1 y0 y1 hb hX;go_wp2_with fail;go_ret;exact⟨rfl,HB5.out⟩
open Go.Sort (grow)
section
variable {u0 u1 u2 u3 u4 u5 u6 u7 u8 u9 gn gt gu gx gy gz gA gC gD gE gF gG gH gI gJ gK gL gM gN gO gP gQ gR gT gV gW gX gY gZ i6 i7 i8 ia ib ic ie ig ii ij ik il im io ip iq ir iu iv iw ix iy iz iA iB iC iD iE iF iG iH iI iJ iK iL iM iN iO iP iQ iR iS iT iU iV iW iX iY iZ j0 j1 j2 j5 : Value}
theorem rcR24 (ops:Array Oper)(hops:Tryz.f93.body.bind (zci 24)=some ops)(Q:Exit→Act→World→Prop)(V:World)(g11 g12 g15 g16:Nat)(p q r s:Pat)(A B C D H1 H2 H3 H4:Option Addr)(a b c d n1 n2 n3 n4 c1 c2 c3 c4:Nat)
  (h11:Blk V g11 100 [.slice A p.parts.length a,.bool p.rest,.slice C r.parts.length c,.bool r.rest,.slice H1 n1 c1])
  (h15:Blk V g15 100 [.slice B q.parts.length b,.bool q.rest,.slice D s.parts.length d,.bool s.rest,.slice H2 n2 c2])
  (h12:Blk V g12 115 [.slice C r.parts.length c,.bool r.rest,.slice H3 n3 c3])
  (h16:Blk V g16 115 [.slice D s.parts.length d,.bool s.rest,.slice H4 n4 c4])
  (hp:za9 V (.slice A p.parts.length a) p) (hq:za9 V (.slice B q.parts.length b) q) (hr:za9 V (.slice C r.parts.length c) r) (hs:za9 V (.slice D s.parts.length d) s)
  (hm1:zai p q=none) (hm2:zai r s=none) (hs1:znr p q) (hs2:znr r s)
  (hQ:∀(fN fO fP fQ fR fS fT fU fV:Value) (w':World),Below V.heap.size V w'→Q .normal ⟨#[u0,u1,u2,u3,u4,u5,u6,u7,u8,u9,gn,.pointer (some ⟨g11,0,none⟩),.pointer (some ⟨g12,0,none⟩),gx,gy,.pointer (some ⟨g15,0,none⟩),.pointer (some ⟨g16,0,none⟩),gC,gD,gE,gF,gG,gH,gI,gJ,gK,gL,gM,gN,gO,gP,gQ,gR,gT,gV,gW,gX,gY,gZ,i6,i7,i8,ia,ib,ic,ie,ig,ii,ij,ik,il,im,io,ip,iq,ir,iu,iv,iw,ix,iy,iz,iA,iB,iC,iD,iE,iF,iG,iH,iI,iJ,iK,iL,iM,iN,iO,iP,iQ,fN,fO,fP,fQ,fR,fS,fT,fU,fV,.bool false,j1,j2,j5],[]⟩ w'):
  (Code.region 24 ops true).wp prog Q ⟨#[u0,u1,u2,u3,u4,u5,u6,u7,u8,u9,gn,.pointer (some ⟨g11,0,none⟩),.pointer (some ⟨g12,0,none⟩),gx,gy,.pointer (some ⟨g15,0,none⟩),.pointer (some ⟨g16,0,none⟩),gC,gD,gE,gF,gG,gH,gI,gJ,gK,gL,gM,gN,gO,gP,gQ,gR,gT,gV,gW,gX,gY,gZ,i6,i7,i8,ia,ib,ic,ie,ig,ii,ij,ik,il,im,io,ip,iq,ir,iu,iv,iw,ix,iy,iz,iA,iB,iC,iD,iE,iF,iG,iH,iI,iJ,iK,iL,iM,iN,iO,iP,iQ,iR,iS,iT,iU,iV,iW,iX,iY,iZ,j0,j1,j2,j5],[]⟩ V:=by
 simp only[Tryz.f93,Option.bind_some,zci] at hops
 simp at hops
 subst hops;have HQ:=hd_ hQ;have bR:∀ d os,Below V.heap.size V (grow (redrawn V d) os):=fun d os=>below_regrown V d os;have cL1:∀ d os,Calls prog 137 #[.agg #[.slice A p.parts.length a,.bool p.rest,.slice C r.parts.length c,.bool r.rest,.slice H1 n1 c1]] (grow (redrawn V d) os) fun e w''=>e=.returned (.agg #[.slice A p.parts.length a,.bool p.rest,.slice H1 n1 c1])∧∃ p:Regrown,w''=grow (redrawn V p.d) p.os:=fun d os=>Calls.regrown_of (znv A H1 p.parts.length a n1 c1 p.rest r.rest _ _);have cL2:∀ d' os,Calls prog 137 #[.agg #[.slice B q.parts.length b,.bool q.rest,.slice D s.parts.length d,.bool s.rest,.slice H2 n2 c2]] (grow (redrawn V d') os) fun e w''=>e=.returned (.agg #[.slice B q.parts.length b,.bool q.rest,.slice H2 n2 c2])∧∃ p:Regrown,w''=grow (redrawn V p.d) p.os:=fun d' os=>Calls.regrown_of (znv B H2 q.parts.length b n2 c2 q.rest s.rest _ _);have cC1:∀ d' os,Calls prog 139 #[.agg #[.slice A p.parts.length a,.bool p.rest,.slice H1 n1 c1],.agg #[.slice B q.parts.length b,.bool q.rest,.slice H2 n2 c2]] (grow (redrawn V d') os) fun e w''=>e=.returned (.bool false)∧∃ p:Regrown,w''=grow (redrawn V p.d) p.os:=fun d' os=>Calls.regrown_of (zo7 p q A B a b _ _ _ (hp.below (bR d' os)) (hq.below (bR d' os)) hm1 hs1);have cC2:∀ d' os,Calls prog 139 #[.agg #[.slice C r.parts.length c,.bool r.rest,.slice H3 n3 c3],.agg #[.slice D s.parts.length d,.bool s.rest,.slice H4 n4 c4]] (grow (redrawn V d') os) fun e w''=>e=.returned (.bool false)∧∃ p:Regrown,w''=grow (redrawn V p.d) p.os:=fun d' os=>Calls.regrown_of (zo7 r s C D c d _ _ _ (hr.below (bR d' os)) (hs.below (bR d' os)) hm2 hs2);have x0:=cell_regrown (h11.cell 0);have x1:=cell_regrown (h11.cell 1);have x2:=cell_regrown (h11.cell 2);have x3:=cell_regrown (h11.cell 3);have x4:=cell_regrown (h11.cell 4);have y0:=cell_regrown (h15.cell 0);have y1:=cell_regrown (h15.cell 1);have y2:=cell_regrown (h15.cell 2);have y3:=cell_regrown (h15.cell 3);have y4:=cell_regrown (h15.cell 4);have u0:=cell_regrown (h12.cell 0)
 have u1:=cell_regrown (h12.cell 1);have u2:=cell_regrown (h12.cell 2);have v0:=cell_regrown (h16.cell 0);have v1:=cell_regrown (h16.cell 1);have v2:=cell_regrown (h16.cell 2);clear hQ h11 h12 h15 h16 hp hq hr hs hm1 hm2 hs1 hs2 bR;refine wp_region_quiet_below (by kernel_rfl) (by kernel_rfl) ?_
 iterate 2 (first | go_big_quiet_step (exact cL1 _ _) | quiet_step (exact cL1 _ _))
 iterate 2 (first | go_big_quiet_step (exact cL2 _ _) | quiet_step (exact cL2 _ _))
 iterate 2 (first | go_big_quiet_step (exact cC1 _ _) | quiet_step (exact cC1 _ _))
 repeat (first | go_big_quiet_step (exact cC2 _ _) | quiet_step (exact cC2 _ _))
 refine wpQuiet_nil ?_;intro _ hw9;obtain⟨⟨dq,osq⟩,hw9⟩:=hw9;subst hw9;exact HQ.out _ _ _ _ _ _ _ _ _ _ (below_regrown V dq osq)
end
end Go.Proofs.YtegeboijhifmcaaGreatDoor
