/- A part. -/
import Derived.Test.YtijghobkkdbhnaaGreatDoorMzMpB
import Derived.Test.YtijghobkkdbhnaaGreatDoorMgw33
import Derived.Test.YtijghobkkdbhnaaGreatDoorMgw35
set_option linter.unusedVariables false
set_option linter.unusedSimpArgs false
set_option maxHeartbeats 16000000
set_option maxRecDepth 100000
namespace Go.Proofs.YtijghobkkdbhnaaGreatDoor
open Go.Proofs.Tryz
open Go.RowKit
def zmu (w:World)(U g m:Nat)(e:Ending)(w':World):Prop:=∃(k:Nat) (es:List zdd) (v:Value),e=.returned v∧k<8∧es.map zdd.pl=zga k∧zdn w' v es∧zgm w' U g (m+1)∧z6y [g] w w'
theorem zmv (U g m:Nat)(w:World)(hT:zgm w U g m)(hm:m≤1000000):Calls prog 22 #[.pointer (some ⟨g,0,none⟩)] w (zmu w U g m):=by
 have HN:=hd_ (zgn U g m 8 w hT hm (by omega))
 clear hT hm;go_enter func22,ntmps22;go_upto_region 2 with fail;refine HN.out.mono ?_;rintro e w1 ⟨k,rfl,hk,hT1,hK1⟩;dsimp only;have HT:=hd_ hT1;have HK:=hd_ hK1;have h8:k=0∨k=1∨k=2∨k=3∨k=4∨k=5∨k=6∨k=7:=by obtain⟨a,b,-⟩:=hk;have:=b (by omega);omega
 clear hT1 hK1 hk HN;have HF:Hid (∀(k:Nat) (es:List zdd) (v:Value) (w':World),k<8→es.map zdd.pl=zga k→zdn w' v es→Below w1.heap.size w1 w'→zmu w U g m (.returned v) w'):=hd_ fun k es v w' h1 h2 h3 h4=>⟨k,es,v,rfl,h1,h2,h3,HT.out.below h4,HK.out.under h4⟩;rcases h8 with rfl | rfl | rfl | rfl | rfl | rfl | rfl | rfl
 ·as_aux_lemma =>
  go_upto_region 3 with fail;refine mpR3 _ (by kernel_rfl) _ w1 ?_
  intro t7 t8 t9 el en eo es A' n c w' H;go_wp2_with fail;go_ret;exact HF.out 0 es _ w' (by decide) H.out.1 H.out.2.1 H.out.2.2
 ·as_aux_lemma =>
  go_upto_region 5 with fail;refine mpR5 _ (by kernel_rfl) _ w1 ?_
  intro er et eu ez eA eB eC eD eE es A' n c w' H;go_wp2_with fail;go_ret;exact HF.out 1 es _ w' (by decide) H.out.1 H.out.2.1 H.out.2.2
 ·as_aux_lemma =>
  go_upto_region 7 with fail;refine mpR7 _ (by kernel_rfl) _ w1 ?_
  intro eH eI eJ eK eL eM eN eO eP eQ eR es A' n c w' H;go_wp2_with fail;go_ret;exact HF.out 2 es _ w' (by decide) H.out.1 H.out.2.1 H.out.2.2
 ·as_aux_lemma =>
  go_upto_region 9 with fail;refine mpR9 _ (by kernel_rfl) _ w1 ?_
  intro eU eV eW eX eY eZ fd fe ff fg fh fj fk fm fp fq es A' n c w' H;go_wp2_with fail;go_ret;exact HF.out 3 es _ w' (by decide) H.out.1 H.out.2.1 H.out.2.2
 ·as_aux_lemma =>
  go_upto_region 11 with fail;refine mpR11 _ (by kernel_rfl) _ w1 ?_
  intro fv fw fx fy fA fB fC fD fE fF fG fH fI fJ fK fL es A' n c w' H;go_wp2_with fail;go_ret;exact HF.out 4 es _ w' (by decide) H.out.1 H.out.2.1 H.out.2.2
 ·as_aux_lemma =>
  go_upto_region 13 with fail;refine mpR13 _ (by kernel_rfl) _ w1 ?_
  intro fO fP fQ fR fS fT fU fV fW fX fY es A' n c w' H;go_wp2_with fail;go_ret;exact HF.out 5 es _ w' (by decide) H.out.1 H.out.2.1 H.out.2.2
 ·as_aux_lemma =>
  go_upto_region 15 with fail;refine mpR15 _ (by kernel_rfl) _ w1 ?_
  intro gb gf gg gh gi gj gm gn gt gu gx es A' n c w' H;go_wp2_with fail;go_ret;exact HF.out 6 es _ w' (by decide) H.out.1 H.out.2.1 H.out.2.2
 ·as_aux_lemma =>
  go_wp2_with fail;go_ret;exact HF.out 7 [] _ w1 (by decide) rfl ⟨Row.nil_ _ 5,fun x h=>by cases h⟩ (Below.refl _ _)
theorem zmz (ex:Bool)(l r:Pat)(s:ByteArray)(A B:Option Addr)(a b:Nat)(w:World)(he:Env w)(hs:s.size≤1000000)(hl:zae w (.slice A l.parts.length a) l)(hr:zae w (.slice B r.parts.length b) r)(h1:z7j l=0)(h2:z7j r=0)(h3:za7 l=za7 r)(h4:l.rest=r.rest)(hf:∀ caps,z8j l s=some caps→zc0 r caps)
  (hF:∀ X caps cv,Below w.heap.size w X→Strs X cv caps→zc0 r caps→Calls prog 196 #[.agg #[.slice B r.parts.length b,.bool r.rest],cv] X fun e w'=>e=.returned (.tuple #[.string (zbz r caps),.int .i64 0])∧Below X.heap.size X w'):
  Calls prog 138 #[.agg #[.bool ex,.slice A l.parts.length a,.bool l.rest,.slice B r.parts.length b,.bool r.rest],.string s] w (zc8 w (zc7 l r s)):=by
 have hB:=z0l w [.bool ex,.slice A l.parts.length a,.bool l.rest,.slice B r.parts.length b,.bool r.rest] 74;have hA:Below w.heap.size w (w.alloc (.cells #[.bool ex,.slice A l.parts.length a,.bool l.rest,.slice B r.parts.length b,.bool r.rest] 74)):=(Below.refl _ _).alloc (Nat.le_refl _) _;have HC:=hd_ (fun X (hX:Below w.heap.size w X)=>zmy ex l r A B a b X (hl.below hX) (hr.below hX) h1 h2 h3 h4);have HM:=hd_ (fun X (hX:Below w.heap.size w X)=>zci l s A a X (he.below hX) hs (hl.below hX).1 hl.small);have HFI:=hd_ hF;have HF:=hd_ hf;have HR:Hid (zc7 l r s=(z8j l s).map (zbz r)):=hd_ rfl;clear he hl hr hf hF h1 h2 h3 h4;generalize zc7 l r s=o at HR ⊢;go_enter func138,ntmps138;go_upto_region 1 with fail;generalize w.alloc (.cells #[.bool ex,.slice A l.parts.length a,.bool l.rest,.slice B r.parts.length b,.bool r.rest] 74)=W1 at hA hB ⊢;obtain⟨d0,d1,d2,d3,d4⟩:=(⟨hB.cell 0,hB.cell 1,hB.cell 2,hB.cell 3,hB.cell 4⟩:W1.cell? ⟨w.heap.size,0,none⟩=some (.bool ex)∧W1.cell? ⟨w.heap.size,1,none⟩=some (.slice A l.parts.length a)∧W1.cell? ⟨w.heap.size,2,none⟩=some (.bool l.rest)∧W1.cell? ⟨w.heap.size,3,none⟩=some (.slice B r.parts.length b)∧W1.cell? ⟨w.heap.size,4,none⟩=some (.bool r.rest));have HB:=hd_ hB;have HA:=hd_ hA;have HC1:=hd_ (HC.out W1 hA);clear hA hB HC;go_wp2_with fail;refine HC1.out.mono ?_;rintro e w2 ⟨rfl,hb⟩;dsimp only;have HX2:=hd_ (HB.out.below hb HB.out.lt);have HB2:=hd_ (z0r HA.out hb);have HM2:=hd_ (HM.out w2 HB2.out);clear hb d0 d1 d2 d3 d4 HC1 HM HB;obtain⟨d1,d2⟩:=(⟨HX2.out.cell 1,HX2.out.cell 2⟩:w2.cell? ⟨w.heap.size,1,none⟩=some (.slice A l.parts.length a)∧w2.cell? ⟨w.heap.size,2,none⟩=some (.bool l.rest));go_wp2_with fail;refine HM2.out.mono ?_;rintro e w3 ⟨A3,n3,c3,rfl,hb,hm⟩;dsimp only;have HB3:=hd_ (z0r HB2.out hb);have HX3:=hd_ (HX2.out.below hb HX2.out.lt);clear hb d1 d2 HM2 HX2;cases hq:z8j l s with
 | none =>
  rw[hq] at HR;have HR2:Hid (o=none):=hd_ HR.out;clear hm hq HR;go_wp2_with fail;go_ret2;exact⟨by rw[HR2.out];rfl,HB3.out⟩
 | some caps =>
  rw[hq] at HR;have HR2:Hid (o=some (zbz r caps)):=hd_ HR.out;obtain⟨-,hst⟩:=hm caps hq;have HCA:=hd_ (HFI.out w3 caps _ HB3.out hst (HF.out caps hq));clear hm hq HR hst HFI HF;obtain⟨d3,d4⟩:=(⟨HX3.out.cell 3,HX3.out.cell 4⟩:w3.cell? ⟨w.heap.size,3,none⟩=some (.slice B r.parts.length b)∧w3.cell? ⟨w.heap.size,4,none⟩=some (.bool r.rest));go_wp2_with fail;refine HCA.out.mono ?_;rintro e w4 ⟨rfl,hb⟩;dsimp only;have HB4:=hd_ (z0r HB3.out hb);clear hb d3 d4 HCA;go_wp2_with fail;go_ret2;exact⟨by rw[HR2.out];rfl,HB4.out⟩
section
variable {u0 u1 u2 u3 u4 u5 u6 u7 u8 u9 gz gA gC gD gE gF gG gH gI gJ gK gL gM gN gO gP gQ gR gT gV gW gX gY gZ i6 i7 i8 ia ib ic ie ig ii ij ik il im io ip iq ir iu iv iw ix iy iz iA iB iC iD iE iF iG iH iI iJ iK iL iM iN iO iP iQ iR iS iT iU iV iW iX iY iZ j0 j1 j2 j5 j6 j7 j8 j9 jb jd jf jg jh ji jj jk jl bB bD bE bF bG bH bI bJ bK bL bM bN bO bP bQ bT bU bV bW bX bY bZ cj ck cn cx cy cz cA cB cD cF cG cH cI cJ cK cM cN cO cP cQ cS cT cU cW cZ da dc dd de df dg dh di dj dm du dw dx dy dz dA dB dC dD dE dF dG dH dI dJ dK dL dM dN dO dP dQ dR dS dT dU dV dW dX dY dZ ed ei : Value}
theorem chR16 (ops:Array Oper)(hops:Tryz.f57.body.bind (zcn 16)=some ops)(Q:Exit→Act→World→Prop)(V:World)(g gw g18 g20:Nat)(v:Rev)(x:Edt)(F:World→Prop)(h18:Blk V g18 90 [.string v.path,.int .i64 v.num,.int .i64 v.chg,.int .i64 v.act,.int .i64 v.ty.base,.bool v.ty.k,.bool v.ty.l,.bool v.ty.x,.int .u64 v.sum,.int .i64 v.size,.string v.frm,.int .i64 v.fnum])(hne:g20≠g18)
  (hCO:∀ X,Below V.heap.size V X→Calls prog 107 #[.pointer (some ⟨gw,0,none⟩),.pointer (some ⟨g,0,none⟩)] X fun e w'=>∃ s z:Nat,e=.returned (.agg #[.int .u64 s,.int .i64 z])∧Blk w' g18 90 [.string v.path,.int .i64 v.num,.int .i64 v.chg,.int .i64 v.act,.int .i64 v.ty.base,.bool v.ty.k,.bool v.ty.l,.bool v.ty.x,.int .u64 v.sum,.int .i64 v.size,.string v.frm,.int .i64 v.fnum]∧Blk w' g20 100 [.string x.path,.int .i64 x.act,.int .i64 x.ty.base,.bool x.ty.k,.bool x.ty.l,.bool x.ty.x,.int .u64 x.sum,.int .i64 x.size,.int .i64 x.base,.string x.frm,.int .i64 x.fnum,.int .i64 x.fence]∧F w')
  (hQ:∀(ab ac ag ah ai aj ak am:Value) (s z:Nat) (w8 w':World),F w8→Blk w' g20 100 [.string x.path,.int .i64 2,.int .i64 v.ty.base,.bool v.ty.k,.bool v.ty.l,.bool v.ty.x,.int .u64 s,.int .i64 z,.int .i64 x.base,.string x.frm,.int .i64 x.fnum,.int .i64 x.fence]→Blk w8 g18 90 [.string v.path,.int .i64 v.num,.int .i64 v.chg,.int .i64 v.act,.int .i64 v.ty.base,.bool v.ty.k,.bool v.ty.l,.bool v.ty.x,.int .u64 v.sum,.int .i64 v.size,.string v.frm,.int .i64 v.fnum]→w8.grownBy w' (some g20)→Q .normal ⟨#[.pointer (some ⟨gw,0,none⟩),.pointer (some ⟨g,0,none⟩),u2,u3,u4,u5,u6,u7,u8,u9,gz,gA,gC,gD,gE,gF,gG,gH,.pointer (some ⟨g18,0,none⟩),gJ,.pointer (some ⟨g20,0,none⟩),gL,gM,gN,gO,gP,gQ,gR,gT,gV,gW,gX,gY,gZ,i6,i7,i8,ia,ib,ic,ie,ig,ii,ij,ik,il,im,io,ip,iq,ir,iu,iv,iw,ix,iy,iz,iA,iB,iC,iD,iE,iF,iG,iH,iI,iJ,iK,iL,iM,iN,iO,iP,iQ,iR,iS,iT,iU,iV,iW,iX,iY,iZ,j0,j1,j2,j5,j6,j7,j8,j9,jb,jd,jf,jg,jh,ji,jj,jk,jl,bB,bD,ab,ac,ag,ah,ai,aj,ak,am,bM,bN,bO,bP,bQ,bT,bU,bV,bW,bX,bY,bZ,cj,ck,cn,cx,cy,cz,cA,cB,cD,cF,cG,cH,cI,cJ,cK,cM,cN,cO,cP,cQ,cS,cT,cU,cW,cZ,da,dc,dd,de,df,dg,dh,di,dj,dm,du,dw,dx,dy,dz,dA,dB,dC,dD,dE,dF,dG,dH,dI,dJ,dK,dL,dM,dN,dO,dP,dQ,dR,dS,dT,dU,dV,dW,dX,dY,dZ,ed,ei],[]⟩ w'):
  (Code.region 16 ops true).wp prog Q ⟨#[.pointer (some ⟨gw,0,none⟩),.pointer (some ⟨g,0,none⟩),u2,u3,u4,u5,u6,u7,u8,u9,gz,gA,gC,gD,gE,gF,gG,gH,.pointer (some ⟨g18,0,none⟩),gJ,.pointer (some ⟨g20,0,none⟩),gL,gM,gN,gO,gP,gQ,gR,gT,gV,gW,gX,gY,gZ,i6,i7,i8,ia,ib,ic,ie,ig,ii,ij,ik,il,im,io,ip,iq,ir,iu,iv,iw,ix,iy,iz,iA,iB,iC,iD,iE,iF,iG,iH,iI,iJ,iK,iL,iM,iN,iO,iP,iQ,iR,iS,iT,iU,iV,iW,iX,iY,iZ,j0,j1,j2,j5,j6,j7,j8,j9,jb,jd,jf,jg,jh,ji,jj,jk,jl,bB,bD,bE,bF,bG,bH,bI,bJ,bK,bL,bM,bN,bO,bP,bQ,bT,bU,bV,bW,bX,bY,bZ,cj,ck,cn,cx,cy,cz,cA,cB,cD,cF,cG,cH,cI,cJ,cK,cM,cN,cO,cP,cQ,cS,cT,cU,cW,cZ,da,dc,dd,de,df,dg,dh,di,dj,dm,du,dw,dx,dy,dz,dA,dB,dC,dD,dE,dF,dG,dH,dI,dJ,dK,dL,dM,dN,dO,dP,dQ,dR,dS,dT,dU,dV,dW,dX,dY,dZ,ed,ei],[]⟩ V:=by
 simp only[Tryz.f57,Option.bind_some,zcn] at hops
 simp at hops
 subst hops;have HQ:=hd_ hQ;have HCO:=hd_ hCO;obtain⟨r0,r1,r2,r3,r4,r5,r6,r7,r8,r9,r10,r11⟩:=z84 h18;have hne2:¬(g18=g20):=fun e=>hne e.symm;clear hQ h18 hCO;refine wp_region_noPanic ?_;go_region_law (first
  | (go_simp;go_at_call 107;refine (HCO.out _ (by repeat (first | exact Below.refl _ _ | refine Below.drew ?_))).mono ?_;rintro e w8 ⟨s,z,rfl,h18,h20,hF⟩;obtain⟨p0,p1,p2,p3,p4,p5,p6,p7,p8,p9,p10,p11⟩:=z84 h18;obtain⟨x0,x1,x2,x3,x4,x5,x6,x7,x8,x9,x10,x11⟩:=z84 h20;obtain⟨f0,f1,f2,f3,f4,f5,f6,f7,f8,f9,f10,f11⟩:=ze4 h20))
 all_goals refine NoPanic.normal ?_
 all_goals first
  | exact HQ.out _ _ _ _ _ _ _ _ s z w8 _ hF ((((((((h20).set_ 1 (.int .i64 2)).set_ 2 (.int .i64 v.ty.base)).set_ 3 (.bool v.ty.k)).set_ 4 (.bool v.ty.l)).set_ 5 (.bool v.ty.x)).set_ 6 (.int .u64 s)).set_ 7 (.int .i64 z)) h18 (zos (zos (zos (zos (zos (zos (zos (zou _ _) 1 (.int .i64 2)) 2 (.int .i64 v.ty.base)) 3 (.bool v.ty.k)) 4 (.bool v.ty.l)) 5 (.bool v.ty.x)) 6 (.int .u64 s)) 7 (.int .i64 z))
  | exact HQ.out _ _ _ _ _ _ _ _ s z w8 _ hF (Blk.drew' ((((((((h20).set_ 1 (.int .i64 2)).set_ 2 (.int .i64 v.ty.base)).set_ 3 (.bool v.ty.k)).set_ 4 (.bool v.ty.l)).set_ 5 (.bool v.ty.x)).set_ 6 (.int .u64 s)).set_ 7 (.int .i64 z))) h18 (zot (zos (zos (zos (zos (zos (zos (zos (zou _ _) 1 (.int .i64 2)) 2 (.int .i64 v.ty.base)) 3 (.bool v.ty.k)) 4 (.bool v.ty.l)) 5 (.bool v.ty.x)) 6 (.int .u64 s)) 7 (.int .i64 z)))
end
open Go.Sort (grow)
def ChPost (w wr:World)(U g gw m:Nat)(D:List Rev)(dv dr cv:Value)(n:Nat)(num:Int)(e:Ending)(w':World):Prop:=∃(ev:Value) (es:List Edt) (cv':Value) (l':List Cnk),e=.returned (.agg #[.int .i64 num,.string ⟨#[]⟩,.string ⟨#[]⟩,ev,.slice none 0 0])∧z47 w' ev es∧EdK D 6 es∧WsB w w' U g gw m D dv dr cv' l'∧l'.length≤n+6∧Frm wr w' g gw cv cv'
theorem edtElem:z0e prog 103 100 12 96:=z0f underlying103 (z:=z2n.val) (by kernel_rfl) rfl (by decide)
theorem chT10 (T:Code)(hT:Tryz.f57.body.bind (zi2 10)=some T){w we W3:World}{U g gw m g6 g7 gp B n0:Nat}{D:List Rev}{dr cv:Value}{l:List Cnk}{Ar:Option Addr}{cr:Nat}{num a c:Int}(hm:m≤80000)(hD:D.length≤1000)(hl:l.length=n0)(hn0:n0≤50000)
  (hac:a=-1∧c=-1∨(0≤a∧a<6)∧0≤c∧c<6) (hS:zow w we W3 U g gw m D (.slice Ar D.length cr) dr cv cv l g6 g7 gp B num [] (.slice none 0 0))
  (u3 u4 u5 gA gC gD gE gF gG gH gI gJ gK gL gM gN gO gP gQ gR gT gV gW gX gY gZ i6 i7 i8 ia ib ic ie ig ii ij ik il im io ip iq ir iu iv iw ix iy iz iA iB iC iD iE iF iG iH iI iJ iK iL iM iN iO iP iQ iR iS iT iU iV iW iX iY iZ j0 j1 j2 j5 j6 j7 j8 j9 jb jd jf jg jh ji jj jk jl bB bD bE bF bG bH bI bJ bK bL bM bN bO bP bQ bT bU bV bW bX bY bZ cj ck cn cx cy cz cA cB cD cF cG cH cI cJ cK cM cN cO cP cQ cS cT cU cW cZ da dc dd de df dg dh di dj dm du dw dx dy dz dA dB dC dD dE dF dG dH dI dJ dK dL dM dN dO dP dQ dR dS dT dU dV dW dX dY dZ ed ei:Value):
  T.wp prog (bodyPost prog Tryz.f57 (ChPost w we U g gw (m+67) D (.slice Ar D.length cr) dr cv n0 num)) ⟨#[.pointer (some ⟨gw,0,none⟩),.pointer (some ⟨g,0,none⟩),.int .i64 num,u3,u4,u5,.pointer (some ⟨g6,0,none⟩),.pointer (some ⟨g7,0,none⟩),.slice (some ⟨gp,0,none⟩) 6 6,.int .i64 a,.int .i64 c,gA,gC,gD,gE,gF,gG,gH,gI,gJ,gK,gL,gM,gN,gO,gP,gQ,gR,gT,gV,gW,gX,gY,gZ,i6,i7,i8,ia,ib,ic,ie,ig,ii,ij,ik,il,im,io,ip,iq,ir,iu,iv,iw,ix,iy,iz,iA,iB,iC,iD,iE,iF,iG,iH,iI,iJ,iK,iL,iM,iN,iO,iP,iQ,iR,iS,iT,iU,iV,iW,iX,iY,iZ,j0,j1,j2,j5,j6,j7,j8,j9,jb,jd,jf,jg,jh,ji,jj,jk,jl,bB,bD,bE,bF,bG,bH,bI,bJ,bK,bL,bM,bN,bO,bP,bQ,bT,bU,bV,bW,bX,bY,bZ,cj,ck,cn,cx,cy,cz,cA,cB,cD,cF,cG,cH,cI,cJ,cK,cM,cN,cO,cP,cQ,cS,cT,cU,cW,cZ,da,dc,dd,de,df,dg,dh,di,dj,dm,du,dw,dx,dy,dz,dA,dB,dC,dD,dE,dF,dG,dH,dI,dJ,dK,dL,dM,dN,dO,dP,dQ,dR,dS,dT,dU,dV,dW,dX,dY,dZ,ed,ei],[]⟩ W3:=by
 simp only[Tryz.f57,Option.bind_some,zi2,zi1] at hT
 simp at hT
 subst hT;have HL:Hid (∀(p:ByteArray) X,z45 X (.slice Ar D.length cr) D→Calls prog 105 #[.agg #[.slice Ar D.length cr,dr],.string p] X fun e w'=>e=.returned (.tuple #[.bool (zi7 D p),.int .i64 (zeh (zgz D p)).num])∧Below X.heap.size X w'):=hd_ fun p X hX=>zi9 D p _ dr X hX (by omega)
 have HLA:Hid (∀(p:ByteArray) X,z45 X (.slice Ar D.length cr) D→Calls prog 106 #[.agg #[.slice Ar D.length cr,dr],.string p] X (zh7 X (zgz D p))):=hd_ fun p X hX=>zh8 D p _ dr X hX (by omega)
 have HAC:=hd_ hac;have HI0:Hid (∃ m' cv' l' es ev,m'≤m+11 * 0∧l'.length≤n0+0∧EdK D 0 es∧zow w we W3 U g gw m' D (.slice Ar D.length cr) dr cv cv' l' g6 g7 gp B num es ev):=hd_ ⟨m,cv,l,[],_,by omega,by omega,edK_0 D,hS⟩
 clear hac hS hl;go_wp2_with fail;go_loopw [15] (fun i wx=>∃ k:Nat,i=.int .i64 k∧k≤6∧Hid (∃ m' cv' l' es ev,m'≤m+11 * k∧l'.length≤n0+k∧EdK D k es∧zow w we wx U g gw m' D (.slice Ar D.length cr) dr cv cv' l' g6 g7 gp B num es ev)) (fun i _=>6 - (intOf i).toNat)
 case atStart=>exact⟨0,rfl,Nat.zero_le _,HI0⟩
 case round =>
  obtain⟨k,rfl,hk,HI⟩:=hrel;clear HI0;by_cases hlt:k<6
  ·obtain⟨m',cv',l',es,ev,hm',hl',hEK,hST⟩:=HI.out;have HS:=hd_ hST;have HB:=hd_ (And.intro hm' (And.intro hl' hEK));have HLT:=hd_ hlt;have k6:=hlt;have hmb:m'≤80100:=by omega
   clear HI hm' hl' hEK hST;have fs:wr.cell? ⟨gp,k,none⟩=some (.string (zfm[k]'(show k<zfm.length from k6))):=(HS.out.bp.cell k).trans (by rw[List.getElem?_map,List.getElem?_eq_getElem (show k<zfm.length from k6)];rfl)
   have fc:=HL.out (zfm[k]'(show k<zfm.length from k6));have HPP:Hid (zfm[k]'(show k<zfm.length from k6)=zfm[k]'(show k<zfm.length from k6)):=hd_ rfl;generalize hpp:zfm[k]'(show k<zfm.length from k6)=p at fs fc;have HPE:=hd_ hpp;clear hpp HPP;have HNU:Hid (∃ q,(zeh (zgz D p)).num=q):=hd_ ⟨_,rfl⟩;generalize zi7 D p=fb at fc;generalize hnn:(zeh (zgz D p)).num=fn at fc;have HNN:=hd_ hnn;clear hnn HNU;have cL:∀ d os,Calls prog 105 #[.agg #[.slice Ar D.length cr,dr],.string p] (grow (redrawn wr d) os) fun e w''=>e=.returned (.tuple #[.bool fb,.int .i64 fn])∧∃ p:Regrown,w''=grow (redrawn wr p.d) p.os:=fun d os=>Calls.regrown_of (fc _ (HS.out.ws.revs.below (below_regrown wr d os)));have x0:=cell_regrown (show wr.cell? ⟨gw,0,none⟩=some (.slice Ar D.length cr) from HS.out.ws.box.cell 0);have x1:=cell_regrown (show wr.cell? ⟨gw,1,none⟩=some dr from HS.out.ws.box.cell 1);have x2:=cell_regrown fs;have qz:(k:Int)<6:=by omega
   clear fs fc;go_upto_region 13 with fail;refine wp_region_quiet_below (by kernel_rfl) (by kernel_rfl) ?_
   repeat (first | go_big_quiet_step (exact cL _ _) | quiet_step (exact cL _ _))
   refine wpQuiet_nil ?_;intro _ hw9;obtain⟨⟨dq,osq⟩,hw9⟩:=hw9;subst hw9;have HS7:=hd_ (HS.out.under (below_regrown wr dq osq));clear cL x0 x1 x2 qz;generalize grow (redrawn wr dq) osq=w7 at HS7 ⊢;have HC:Hid (∀ w',Below w7.heap.size w7 w'→w'.cell? ⟨gw,0,none⟩=some (.slice Ar D.length cr)∧w'.cell? ⟨gw,1,none⟩=some dr∧w'.cell? ⟨gp,k,none⟩=some (.string p)):=hd_ fun w' hb=>⟨(HS7.out.under hb).ws.box.cell 0,(HS7.out.under hb).ws.box.cell 1,((HS7.out.under hb).bp.cell k).trans (by rw[List.getElem?_map,List.getElem?_eq_getElem (show k<zfm.length from k6),HPE.out];rfl)⟩
   have HR7:=hd_ HS7.out.ws.revs;have HLP:=HLA.out p;unfold zh7 at HLP;generalize zeh (zgz D p)=v at HLP;generalize (zgz D p).isSome=bo at HLP;have qz:(k:Int)<6:=by omega
   go_upto_region 14 with fail;refine chR14 _ (by kernel_rfl) _ w7 gw gp k D.length cr Ar dr p v bo HC.out qz (fun X hX=>HLP X (z45.below HR7.out hX)) ?_
   intro fX fY fZ ga gb gf gg gh gi gj gm gn tb g18 w8 hb18 hge18 hbel;have HS8:=hd_ (HS7.out.under hbel);have H18:=hd_ hb18;have HG18:Hid (B≤g18):=hd_ (Nat.le_trans HS7.out.ord.2.2.2.2 hge18);clear HLP HR7 hb18 hge18 hbel HC HS7;have s8:w8.cell? ⟨gp,k,none⟩=some (.string p):=(HS8.out.bp.cell k).trans (by rw[List.getElem?_map,List.getElem?_eq_getElem (show k<zfm.length from k6),HPE.out];rfl)
   have hal:Below w8.heap.size w8 (w8.alloc (.cells #[.string p,.int .i64 0,.int .i64 0,.bool false,.bool false,.bool false,.int .u64 0,.int .i64 0,.int .i64 fn,.string ⟨#[]⟩,.int .i64 0,.int .i64 0] 100)):=(Below.refl _ _).alloc (Nat.le_refl _) _;have HS9:=hd_ (HS8.out.under hal);have H189:=hd_ (H18.out.below hal H18.out.lt);have H20:Hid (Blk _ _ 100 [.string p,.int .i64 0,.int .i64 0,.bool false,.bool false,.bool false,.int .u64 0,.int .i64 0,.int .i64 fn,.string ⟨#[]⟩,.int .i64 0,.int .i64 0]):=hd_ (z0l w8 _ _);have HO:Hid (B≤w8.heap.size∧w8.heap.size≠g18∧cv'.ownBlock≠some w8.heap.size∧ev.ownBlock≠some w8.heap.size):=hd_ ⟨HS8.out.ord.2.2.2.2,by have:=H18.out.lt;omega,fun e=>by have:=(HS8.out.ws.cnk.lt _ e).2;omega,fun e=>by have:=(HS8.out.own.lt _ e).2;omega⟩
   clear hal H18;go_upto_block 2 with fail
   clear s8;generalize w8.alloc (.cells #[.string p,.int .i64 0,.int .i64 0,.bool false,.bool false,.bool false,.int .u64 0,.int .i64 0,.int .i64 fn,.string ⟨#[]⟩,.int .i64 0,.int .i64 0] 100)=w9 at HS9 H189 H20 ⊢;generalize w8.heap.size=g20 at H20 HO ⊢;clear HS8;go_cut [] (fun wx=>Hid (∃(x:Edt) (m'':Nat) (cv'':Value) (l'':List Cnk),x.path=p∧x.base=fn∧m''≤m'+11∧l''.length≤l'.length+1∧Blk wx g20 100 [.string x.path,.int .i64 x.act,.int .i64 x.ty.base,.bool x.ty.k,.bool x.ty.l,.bool x.ty.x,.int .u64 x.sum,.int .i64 x.size,.int .i64 x.base,.string x.frm,.int .i64 x.fnum,.int .i64 x.fence]∧zow w we wx U g gw m'' D (.slice Ar D.length cr) dr cv cv'' l'' g6 g7 gp B num es ev))
   case first =>
    by_cases h1:(k:Int)=a
    ·have q1:((k:Int) == a)=true:=by simpa using h1
     clear h1;go_upto_region 20 with fail;refine chR20 _ (by kernel_rfl) _ w9 g18 g20 v ⟨p,0,z2i,0,0,fn,z2l,0,0⟩ H189.out H20.out HO.out.2.1 ?_
     intro aC aD aE aF w10 hB hG;have HB10:=hd_ hB;have HS10:=hd_ (HS9.out.grownAt hG (fun k e=>by injection e with e;subst e;exact⟨HO.out.1,HO.out.2.2⟩))
     clear hB hG q1;go_wp2_with fail;go_meet
     exact hd_ ⟨⟨p,5,v.ty,0,0,fn,z2l,0,0⟩,m',cv',l',rfl,rfl,by omega,by omega,HB10.out,HS10.out⟩
    ·have q1:((k:Int) == a)=false:=by simpa using h1
     clear h1;by_cases h2:(k:Int)=c
     ·have q2:((k:Int) == c)=true:=by simpa using h2
      have ha0:0≤a∧a<6:=by rcases HAC.out with e | e <;> omega
      obtain⟨ja,rfl⟩:∃ j:Nat,a=j:=⟨a.toNat,by omega⟩
      have ja6:ja<6:=by omega
      have HC9:Hid (∀ w',Below w9.heap.size w9 w'→w'.cell? ⟨gw,0,none⟩=some (.slice Ar D.length cr)∧w'.cell? ⟨gw,1,none⟩=some dr∧w'.cell? ⟨gp,ja,none⟩=some (.string (zfm[ja]'ja6))):=hd_ fun w' hb=>⟨(HS9.out.under hb).ws.box.cell 0,(HS9.out.under hb).ws.box.cell 1,((HS9.out.under hb).bp.cell ja).trans (by rw[List.getElem?_map,List.getElem?_eq_getElem (show ja<zfm.length from ja6)];rfl)⟩
      have HLP:=HLA.out (zfm[ja]'ja6);generalize zfm[ja]'ja6=p2 at HC9 HLP;unfold zh7 at HLP;generalize zeh (zgz D p2)=v2 at HLP;generalize (zgz D p2).isSome=bo2 at HLP;have HR9:=hd_ HS9.out.ws.revs;have qa:(ja:Int)<6:=by omega
      clear h2 ha0;go_upto_region 22 with fail;refine chR22 _ (by kernel_rfl) _ w9 gw gp ja D.length cr Ar dr p2 v2 bo2 HC9.out qa (fun X hX=>HLP X (z45.below HR9.out hX)) ?_
      intro aI aJ aK aL aM aN aO aP aQ aR aS aT tb2 g21 w10 hb21 hge21 hbel;have HS10:=hd_ (HS9.out.under hbel);have H2010:=hd_ (H20.out.below hbel H20.out.lt);have H21:=hd_ hb21;have hne21:g20≠g21:=by have:=H20.out.lt;omega
      clear HLP HR9 hb21 hge21 hbel HC9 HS9 q2 qa;go_upto_region 23 with fail;refine chR23 _ (by kernel_rfl) _ w10 g21 g20 v2 ⟨p,0,z2i,0,0,fn,z2l,0,0⟩ H21.out H2010.out hne21 ?_
      intro aU aV aW aX aY aZ ba bd bf bg bh bi bj w11 hB hG;have HB11:=hd_ hB;have HS11:=hd_ (HS10.out.grownAt hG (fun k e=>by injection e with e;subst e;exact⟨HO.out.1,HO.out.2.2⟩))
      have HX:=hd_ (zgn U g m' 2 w11 HS11.out.ws.tape (by omega) (by omega))
      clear hB hG H21 hne21 HS10 H2010 q1;go_wp2_with fail;refine HX.out.mono ?_;rintro e w12 ⟨k1,rfl,hk1,hT,hK⟩;dsimp only;have HS12:=hd_ (HS11.out.next hK hT);have HB12:=hd_ (hK.blk HB11.out (by have:=HO.out.1;have:=HS11.out.ord;have:=HS11.out.ws.gU;have:=HS11.out.ws.UU;have:=HS11.out.ws.kept.size;have:=HS11.out.lo.1;simp;omega))
      obtain⟨bb,q3⟩:∃ b,(k1 == 0)=b:=⟨_,rfl⟩;clear hk1 hT hK HX HS11 HB11;cases bb with
      | false =>
       go_wp2_with fail;go_meet
       exact hd_ ⟨⟨p,4,v2.ty,v2.sum,v2.size,fn,v2.path,v2.num,0⟩,m'+1,cv',l',rfl,rfl,by omega,by omega,HB12.out,HS12.out⟩
      | true =>
       have HCO:=hd_ (zor HS12.out.ws (by have:=HB.out.2.1;omega) (by omega))
       go_wp2_with fail;refine HCO.out.mono ?_;rintro e w13 ⟨s,z,cv2,l2,rfl,hS,hll,hF⟩;dsimp only;have HS13:=hd_ (HS12.out.step hF hS);have HB13:=hd_ (hF.blk HB12.out (by have:=HO.out.1;have:=HS12.out.ord;have:=HS12.out.ws.gU;have:=HS12.out.ws.UU;have:=HS12.out.ws.kept.size;have:=HS12.out.lo.1;omega) (by have:=HO.out.1;have:=HS12.out.ord;have:=HS12.out.lo.2.1;omega) (zkh HS12.out.ws.cnk HB12.out (by decide)))
       have HLL:=hd_ hll;have HNB:Hid (cv2.ownBlock≠some g20∧ev.ownBlock≠some g20):=hd_ ⟨zkh hS.cnk HB13.out (by decide),HO.out.2.2.2⟩
       clear hS hll hF HCO HS12 HB12 q3;obtain⟨x0,x1,x2,x3,x4,x5,x6,x7,x8,x9,x10,x11⟩:=z84 HB13.out;obtain⟨f0,f1,f2,f3,f4,f5,f6,f7,f8,f9,f10,f11⟩:=ze4 HB13.out;have HN:=hd_ ((HB13.out.set_ 6 (.int .u64 (s:Int))).set_ 7 (.int .i64 (z:Int)));have HG:=hd_ (HS13.out.grownAt (zos (zos (zou _ (some g20)) 6 (.int .u64 (s:Int))) 7 (.int .i64 (z:Int))) (fun k e=>by injection e with e;subst e;exact⟨HO.out.1,HNB.out⟩))
       go_wp2_with fail;go_meet
       exact hd_ ⟨⟨p,4,v2.ty,s,z,fn,v2.path,v2.num,0⟩,m'+1+5,cv2,l2,rfl,rfl,by omega,HLL.out,HN.out,HG.out⟩
     ·have q2:((k:Int) == c)=false:=by simpa using h2
      have HX:=hd_ (zgn U g m' 3 w9 HS9.out.ws.tape (by omega) (by omega))
      clear h2;go_wp2_with fail;refine HX.out.mono ?_;rintro e w10 ⟨k1,rfl,hk1,hT,hK⟩;dsimp only;have HS10:=hd_ (HS9.out.next hK hT);have HB10:=hd_ (hK.blk H20.out (by have:=HO.out.1;have:=HS9.out.ord;have:=HS9.out.ws.gU;have:=HS9.out.ws.UU;have:=HS9.out.ws.kept.size;have:=HS9.out.lo.1;have:=HS9.out.lo.2.1;simp;omega))
      have HV10:=hd_ (hK.blk H189.out (by have:=HG18.out;have:=HS9.out.ord;have:=HS9.out.ws.gU;have:=HS9.out.ws.UU;have:=HS9.out.ws.kept.size;have:=HS9.out.lo.1;simp;omega))
      clear hT hK HX HS9 H20 H189;by_cases h3:0<k1
      ·have q3:decide (0<k1)=true:=decide_eq_true h3;clear h3 hk1;go_wp2_with fail;go_roundw
       case rel=>exact⟨k+1,by go_num,by have:=HLT.out;omega,hd_ ⟨m'+1,cv',l',es,ev,by have:=HB.out.1;omega,by have:=HB.out.2.1;omega,HB.out.2.2.skip,HS10.out⟩⟩
       case measure=>have:=HLT.out;simp [intOf];omega
      ·have q3:decide (0<k1)=false:=decide_eq_false h3;clear h3 hk1;cases fb with
       | false =>
        have HTY:Hid (Calls prog 108 #[.pointer (some ⟨g,0,none⟩)] w10 fun e w'=>∃ ty:Ty,e=.returned (.agg #[.int .i64 ty.base,.bool ty.k,.bool ty.l,.bool ty.x])∧zgm w' U g (m'+1+1)∧z6y [g] w10 w'):=hd_ (zmh U g (m'+1) w10 HS10.out.ws.tape (by have:=HS10.out.ws.UU;have:=HS10.out.ws.kept.size;omega) (by omega))
        go_wp2_with fail;refine HTY.out.mono ?_;rintro e w11 ⟨ty,rfl,hT,hK⟩;dsimp only;have HS11:=hd_ (HS10.out.next hK hT);have HB11:=hd_ (hK.blk HB10.out (by have:=HO.out.1;have:=HS10.out.ord;have:=HS10.out.ws.gU;have:=HS10.out.ws.UU;have:=HS10.out.ws.kept.size;have:=HS10.out.lo.1;have:=HS10.out.lo.2.1;simp;omega))
        have HCO:=hd_ (zor HS11.out.ws (by have:=HB.out.2.1;omega) (by omega))
        clear hT hK HTY HS10 HB10 HV10;go_wp2_with fail;refine HCO.out.mono ?_;rintro e w13 ⟨s,z,cv2,l2,rfl,hS,hll,hF⟩;dsimp only;have HS13:=hd_ (HS11.out.step hF hS);have HB13:=hd_ (hF.blk HB11.out (by have:=HO.out.1;have:=HS11.out.ord;have:=HS11.out.ws.gU;have:=HS11.out.ws.UU;have:=HS11.out.ws.kept.size;have:=HS11.out.lo.1;have:=HS11.out.lo.2.1;omega) (by have:=HO.out.1;have:=HS11.out.ord;have:=HS11.out.ws.gU;have:=HS11.out.ws.UU;have:=HS11.out.ws.kept.size;have:=HS11.out.lo.1;have:=HS11.out.lo.2.1;omega) (zkh HS11.out.ws.cnk HB11.out (by decide)))
        have HLL:=hd_ hll;have HNB:Hid (cv2.ownBlock≠some g20∧ev.ownBlock≠some g20):=hd_ ⟨zkh hS.cnk HB13.out (by decide),HO.out.2.2.2⟩
        clear hS hll hF HCO HS11 HB11;obtain⟨x0,x1,x2,x3,x4,x5,x6,x7,x8,x9,x10,x11⟩:=z84 HB13.out;obtain⟨f0,f1,f2,f3,f4,f5,f6,f7,f8,f9,f10,f11⟩:=ze4 HB13.out;have HN:=hd_ (((((((HB13.out.set_ 1 (.int .i64 1)).set_ 2 (.int .i64 ty.base)).set_ 3 (.bool ty.k)).set_ 4 (.bool ty.l)).set_ 5 (.bool ty.x)).set_ 6 (.int .u64 (s:Int))).set_ 7 (.int .i64 (z:Int)));have HG:=hd_ (HS13.out.grownAt (zos (zos (zos (zos (zos (zos (zos (zou _ (some g20)) 1 (.int .i64 1)) 2 (.int .i64 ty.base)) 3 (.bool ty.k)) 4 (.bool ty.l)) 5 (.bool ty.x)) 6 (.int .u64 (s:Int))) 7 (.int .i64 (z:Int))) (fun k e=>by injection e with e;subst e;exact⟨HO.out.1,HNB.out⟩))
        go_wp2_with fail;go_meet
        exact hd_ ⟨⟨p,1,ty,s,z,fn,z2l,0,0⟩,m'+1+1+5,cv2,l2,rfl,rfl,by omega,HLL.out,HN.out,HG.out⟩
       | true =>
        have HX:=hd_ (zgn U g (m'+1) 4 w10 HS10.out.ws.tape (by omega) (by omega))
        go_wp2_with fail;refine HX.out.mono ?_;rintro e w11 ⟨k2,rfl,hk2,hT,hK⟩;dsimp only;have HS11:=hd_ (HS10.out.next hK hT);have HB11:=hd_ (hK.blk HB10.out (by have:=HO.out.1;have:=HS10.out.ord;have:=HS10.out.ws.gU;have:=HS10.out.ws.UU;have:=HS10.out.ws.kept.size;have:=HS10.out.lo.1;have:=HS10.out.lo.2.1;simp;omega))
        have HV11:=hd_ (hK.blk HV10.out (by have:=HG18.out;have:=HS10.out.ord;have:=HS10.out.ws.gU;have:=HS10.out.ws.UU;have:=HS10.out.ws.kept.size;have:=HS10.out.lo.1;simp;omega))
        obtain⟨bb,q4⟩:∃ b,(k2 == 0)=b:=⟨_,rfl⟩;clear hk2 hT hK HX HS10 HB10 HV10;cases bb with
        | true =>
         go_upto_region 30 with fail;refine chR30 _ (by kernel_rfl) _ w11 g18 g20 v ⟨p,0,z2i,0,0,fn,z2l,0,0⟩ HV11.out HB11.out HO.out.2.1 ?_
         intro bq bw bz bA w12 hB hG;have HB12:=hd_ hB;have HS12:=hd_ (HS11.out.grownAt hG (fun k e=>by injection e with e;subst e;exact⟨HO.out.1,HO.out.2.2⟩))
         clear hB hG;go_wp2_with fail;go_meet
         exact hd_ ⟨⟨p,3,v.ty,0,0,fn,z2l,0,0⟩,m'+1+1,cv',l',rfl,rfl,by omega,by omega,HB12.out,HS12.out⟩
        | false =>
         have HCO:Hid (∀ X,Below w11.heap.size w11 X→Calls prog 107 #[.pointer (some ⟨gw,0,none⟩),.pointer (some ⟨g,0,none⟩)] X fun e w'=>∃ s z:Nat,e=.returned (.agg #[.int .u64 s,.int .i64 z])∧Blk w' g18 90 [.string v.path,.int .i64 v.num,.int .i64 v.chg,.int .i64 v.act,.int .i64 v.ty.base,.bool v.ty.k,.bool v.ty.l,.bool v.ty.x,.int .u64 v.sum,.int .i64 v.size,.string v.frm,.int .i64 v.fnum]∧Blk w' g20 100 [.string p,.int .i64 0,.int .i64 0,.bool false,.bool false,.bool false,.int .u64 0,.int .i64 0,.int .i64 fn,.string ⟨#[]⟩,.int .i64 0,.int .i64 0]∧(∃ cv2 l2,zow w we w' U g gw (m'+1+1+5) D (.slice Ar D.length cr) dr cv cv2 l2 g6 g7 gp B num es ev∧l2.length≤l'.length+1∧Blk w' g20 100 [.string p,.int .i64 0,.int .i64 0,.bool false,.bool false,.bool false,.int .u64 0,.int .i64 0,.int .i64 fn,.string ⟨#[]⟩,.int .i64 0,.int .i64 0])):=hd_ fun X hX=>by
          have HSX:=hd_ (HS11.out.under hX);have hB:=HB11.out.below hX HB11.out.lt;have hV:=HV11.out.below hX HV11.out.lt;refine (zor HSX.out.ws (by have:=HB.out.2.1;omega) (by omega)).mono ?_
          rintro e w13 ⟨s,z,cv2,l2,rfl,hS,hll,hF⟩;have hB2:=hF.blk hB (by have:=HO.out.1;have:=HSX.out.ord;have:=HSX.out.ws.gU;have:=HSX.out.ws.UU;have:=HSX.out.ws.kept.size;have:=HSX.out.lo.1;have:=HSX.out.lo.2.1;omega) (by have:=HO.out.1;have:=HSX.out.ord;have:=HSX.out.ws.gU;have:=HSX.out.ws.UU;have:=HSX.out.ws.kept.size;have:=HSX.out.lo.1;have:=HSX.out.lo.2.1;omega) (zkh HSX.out.ws.cnk hB (by decide))
          have hV2:=hF.blk hV (by have:=HG18.out;have:=HSX.out.ord;have:=HSX.out.ws.gU;have:=HSX.out.ws.UU;have:=HSX.out.ws.kept.size;have:=HSX.out.lo.1;have:=HSX.out.lo.2.1;omega) (by have:=HG18.out;have:=HSX.out.ord;have:=HSX.out.ws.gU;have:=HSX.out.ws.UU;have:=HSX.out.ws.kept.size;have:=HSX.out.lo.1;have:=HSX.out.lo.2.1;omega) (zkh HSX.out.ws.cnk hV (by decide))
          exact⟨s,z,rfl,hV2,hB2,cv2,l2,HSX.out.step hF hS,hll,hB2⟩
         clear q1 q2 q3;go_upto_region 16 with fail;refine chR16 _ (by kernel_rfl) _ w11 g gw g18 g20 v ⟨p,0,z2i,0,0,fn,z2l,0,0⟩ _ HV11.out HO.out.2.1 HCO.out ?_
         intro ab ac ag ah ai aj ak am s z w12 w13 hF hB hV hG;obtain⟨cv2,l2,hS,hll,hB2⟩:=hF;have HNB:Hid (cv2.ownBlock≠some g20∧ev.ownBlock≠some g20):=hd_ ⟨zkh hS.ws.cnk hB2 (by decide),HO.out.2.2.2⟩
         have HS13:=hd_ (hS.grownAt hG (fun k e=>by injection e with e;subst e;exact⟨HO.out.1,HNB.out⟩))
         have HB13:=hd_ hB;have HLL:=hd_ hll;have HX:=hd_ (zgn U g (m'+1+1+5) 4 w13 HS13.out.ws.tape (by omega) (by omega))
         clear hS hll hB2 hB hV hG HCO HS11 HB11 HV11 q4;go_wp2_with fail;refine HX.out.mono ?_;rintro e w14 ⟨k3,rfl,hk3,hT,hK⟩;dsimp only;have HS14:=hd_ (HS13.out.next hK hT);have HB14:=hd_ (hK.blk HB13.out (by have:=HO.out.1;have:=HS13.out.ord;have:=HS13.out.ws.gU;have:=HS13.out.ws.UU;have:=HS13.out.ws.kept.size;have:=HS13.out.lo.1;have:=HS13.out.lo.2.1;simp;omega))
         obtain⟨bb,q5⟩:∃ b,(k3 == 0)=b:=⟨_,rfl⟩;clear hk3 hT hK HX HS13 HB13;cases bb with
         | false =>
          go_wp2_with fail;go_meet
          exact hd_ ⟨⟨p,2,v.ty,s,z,fn,z2l,0,0⟩,m'+1+1+5+1,cv2,l2,rfl,rfl,by omega,HLL.out,HB14.out,HS14.out⟩
         | true =>
          have HTY:Hid (Calls prog 108 #[.pointer (some ⟨g,0,none⟩)] w14 fun e w'=>∃ ty:Ty,e=.returned (.agg #[.int .i64 ty.base,.bool ty.k,.bool ty.l,.bool ty.x])∧zgm w' U g (m'+1+1+5+1+1)∧z6y [g] w14 w'):=hd_ (zmh U g (m'+1+1+5+1) w14 HS14.out.ws.tape (by have:=HS14.out.ws.UU;have:=HS14.out.ws.kept.size;omega) (by omega))
          go_wp2_with fail;refine HTY.out.mono ?_;rintro e w15 ⟨ty,rfl,hT,hK⟩;dsimp only;have HS15:=hd_ (HS14.out.next hK hT);have HB15:=hd_ (hK.blk HB14.out (by have:=HO.out.1;have:=HS14.out.ord;have:=HS14.out.ws.gU;have:=HS14.out.ws.UU;have:=HS14.out.ws.kept.size;have:=HS14.out.lo.1;have:=HS14.out.lo.2.1;simp;omega))
          clear hT hK HTY HS14 HB14 q5;obtain⟨x0,x1,x2,x3,x4,x5,x6,x7,x8,x9,x10,x11⟩:=z84 HB15.out;obtain⟨f0,f1,f2,f3,f4,f5,f6,f7,f8,f9,f10,f11⟩:=ze4 HB15.out;have HN:=hd_ ((((HB15.out.set_ 2 (.int .i64 ty.base)).set_ 3 (.bool ty.k)).set_ 4 (.bool ty.l)).set_ 5 (.bool ty.x));have HG:=hd_ (HS15.out.grownAt (zos (zos (zos (zos (zou _ (some g20)) 2 (.int .i64 ty.base)) 3 (.bool ty.k)) 4 (.bool ty.l)) 5 (.bool ty.x)) (fun k e=>by injection e with e;subst e;exact⟨HO.out.1,HNB.out⟩))
          go_wp2_with fail;go_meet
          exact hd_ ⟨⟨p,2,ty,s,z,fn,z2l,0,0⟩,m'+1+1+5+1+1,cv2,l2,rfl,rfl,by omega,HLL.out,HN.out,HG.out⟩
   case rest =>
    obtain⟨x,m2,cv2,l2,hx1,hx2,hm2,hl2,hXB,hS⟩:=hcut.out;have HS2:=hd_ hS;have HX2:=hd_ (And.intro hx1 (And.intro hx2 (And.intro hm2 hl2)));obtain⟨Ae,ce,rfl⟩:=z0o hS.own;have e3:wc.cell? ⟨g7,3,none⟩=some (.slice Ae es.length ce):=hS.b7.cell 3;obtain⟨x0,x1,x2,x3,x4,x5,x6,x7,x8,x9,x10,x11⟩:=z84 hXB;have hel:es.length≤6:=by have:=HB.out.2.2.len;omega
    have HSA:=hd_ (hS.under ((Below.refl wc.heap.size wc).alloc (Nat.le_refl _) (.cells #[.string x.path,.int .i64 x.act,.int .i64 x.ty.base,.bool x.ty.k,.bool x.ty.l,.bool x.ty.x,.int .u64 x.sum,.int .i64 x.size,.int .i64 x.base,.string x.frm,.int .i64 x.fnum,.int .i64 x.fence] 100)));have hrow:=z0i wc [.string x.path,.int .i64 x.act,.int .i64 x.ty.base,.bool x.ty.k,.bool x.ty.l,.bool x.ty.x,.int .u64 x.sum,.int .i64 x.size,.int .i64 x.base,.string x.frm,.int .i64 x.fnum,.int .i64 x.fence] 100 12 1 rfl (by unfold maxLen;omega) wc.heap.size rfl
    clear hcut hx1 hx2 hm2 hl2 hXB hS HS9 H20 H189;go_wp2_with (at_builtin;refine z0j rfl rfl edtElem HSA.out.own rfl hrow rfl (by simp [Value.oneCell']) (by omega) (by unfold maxLen;omega) HSA.out.ord.2.2.2.2 ?_;intro A' c' w6 hown hgr hob;obtain⟨⟨y3,f3⟩,hNS⟩:=HSA.out.push (es':=es++[x]) hgr (by rw[List.length_append,List.flatMap_append];exact hown))
    have HN:=hd_ hNS;have HEK:Hid (EdK D (k+1) (es++[x])):=hd_ (HB.out.2.2.push (show k<zfm.length from k6) (HX2.out.1.trans HPE.out.symm) (by rw[HX2.out.2.1,HX2.out.1];exact HNN.out.symm))
    clear hown hgr hob hNS hrow e3 x0 x1 x2 x3 x4 x5 x6 x7 x8 x9 x10 x11;go_wp2_with fail;go_roundw
    case rel=>exact⟨k+1,by go_num,by have:=HLT.out;omega,hd_ ⟨m2,cv2,l2,es++[x],_,by have:=HB.out.1;have:=HX2.out.2.2.1;omega,by have:=HB.out.2.1;have:=HX2.out.2.2.2;omega,HEK.out,HN.out⟩⟩
    case measure=>have:=HLT.out;simp [intOf];omega
  ·have hk6:k=6:=by omega
   subst hk6;obtain⟨m',cv',l',es,ev,hm',hl',hEK,hS⟩:=HI.out;obtain⟨Ae,ce,rfl⟩:=z0o hS.own;obtain⟨c0,c1,c2,c3,c4⟩:=zi4 hS.b7;obtain⟨z0,z1,z2,z3,z4⟩:=zi4 hS.b6;obtain⟨f0,f1,f2,f3,f4⟩:=(⟨hS.b6.frozen 0,hS.b6.frozen 1,hS.b6.frozen 2,hS.b6.frozen 3,hS.b6.frozen 4⟩:wr.frozen? ⟨g6,0,none⟩=false∧wr.frozen? ⟨g6,1,none⟩=false∧wr.frozen? ⟨g6,2,none⟩=false∧wr.frozen? ⟨g6,3,none⟩=false∧wr.frozen? ⟨g6,4,none⟩=false);have hE:=((((hS.b6.set_ 0 (.int .i64 num)).set_ 1 (.string ⟨#[]⟩)).set_ 2 (.string ⟨#[]⟩)).set_ 3 (.slice Ae es.length ce)).set_ 4 (.slice none 0 0);have hG:=zos (zos (zos (zos (zos (zou wr (some g6)) 0 (.int .i64 num)) 1 (.string ⟨#[]⟩)) 2 (.string ⟨#[]⟩)) 3 (.slice Ae es.length ce)) 4 (.slice none 0 0);have hne:(Value.slice Ae es.length ce).ownBlock≠some g6:=fun e=>by have:=(hS.own.lt g6 e).1;have:=hS.ord;omega
   have HF:Hid (z47 _ (.slice Ae es.length ce) es∧WsB w _ U g gw m' D (.slice Ar D.length cr) dr cv' l'∧Frm we _ g gw cv cv'):=hd_ ⟨Row.of_own (zox hS.own (fun x hx=>hG.block x (hS.own.lt x hx).2 (fun e=>by injection e with e;subst e;exact hne hx))),hS.ws.grownAt hG (fun q e=>by injection e with e;subst e;exact⟨by have:=hS.ord.1;have:=hS.lo.1;omega,by have:=hS.ord.1;have:=hS.lo.2.1;omega,zkh hS.ws.cnk hS.b6 (by decide),fun e2=>by have:=hS.lo.2.2 _ e2;have:=hS.ord.1;omega⟩),hS.frm.grownAt hG (fun q e=>by injection e with e;have:=hS.ord.1;omega)⟩
   have HE:=hd_ hE;have HK:=hd_ (And.intro hm' (And.intro hl' hEK));clear HI hm' hl' hEK hS hE hG hne;go_wp2_with fail;have hE:=HE.out;have hF:=HF.out;generalize ((((wr.setCell ⟨g6,0,none⟩ (.int .i64 num)).setCell ⟨g6,1,none⟩ (.string ⟨#[]⟩)).setCell ⟨g6,2,none⟩ (.string ⟨#[]⟩)).setCell ⟨g6,3,none⟩ (.slice Ae es.length ce)).setCell ⟨g6,4,none⟩ (.slice none 0 0)=W8 at hE hF ⊢;obtain⟨e0,e1,e2,e3,e4⟩:=zi4 hE;exact bodyPost_ret (v:=.agg #[.int .i64 num,.string ⟨#[]⟩,.string ⟨#[]⟩,(.slice Ae es.length ce),.slice none 0 0]) (by simp [results,results57,go_sem,e0,e1,e2,e3,e4]) rfl ⟨.slice Ae es.length ce,es,cv',l',rfl,hF.1,HK.out.2.2,hF.2.1.mono (by have:=HK.out.1;omega),HK.out.2.1,hF.2.2⟩
