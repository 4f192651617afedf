/- A part of the proof. -/
import Derived.Test.YtegeboijhifmcaaGreatDoorMsAlR
import Derived.Test.YtegeboijhifmcaaGreatDoorMgs24
import Derived.Test.YtegeboijhifmcaaGreatDoorMsBlD
set_option linter.unusedVariables false
set_option linter.unusedSimpArgs false
set_option maxHeartbeats 16000000
set_option maxRecDepth 100000
namespace Go.Proofs.YtegeboijhifmcaaGreatDoor
open Go.RowKit
def zmo (w:World)(v:Value)(b:Bool)(e:Ending)(w':World):Prop:=Below w.heap.size w w'∧∃ H n c,e=.returned (.agg #[v,.bool b,.slice H n c])
theorem zmp (T:Code)(hT:Tryz.f184.body.bind (zhv 9)=some T)(w W:World)(A:Option Addr)(n a g2 g4:Nat)(b:Bool)(hP:zbo W g2 (.slice A n a) b)(hR:Blk W g4 115 [.slice none 0 0,.bool false,.slice none 0 0])(hb:Below w.heap.size w W)(h4:w.heap.size≤g4)
  (u0 u1 u3 u6 u7 u8 u9 gn gt gu gx gy gz gA gC gD gE gF gG gH gI gJ gK gL gM gN gO gP gQ gR gT gV gW gX gY gZ i6 i7 i8 ia ib ic ie ig ii ij ik il im io ip iq ir iu iv iw ix iy iz iA iB iC iD iE iF iG iH iI iJ iK iL iM iN iO iP iQ iR iS iT iU iV iW iX iY iZ j0 j1 j2 j5 j6 j7 j8 j9 jb jd je jf bw bz bA bB bD bE bF bG bH bI bJ bK bL bM bN bO bP bQ bT bU bV bW:Value):
  T.wp Tryz.prog (bodyPost Tryz.prog Tryz.f184 (zmo w (.slice A n a) b)) ⟨#[u0,u1,.pointer (some ⟨g2,0,none⟩),u3,.pointer (some ⟨g4,0,none⟩),.slice none 0 0,u6,u7,u8,u9,gn,gt,gu,gx,gy,gz,gA,gC,gD,gE,gF,gG,gH,gI,gJ,gK,gL,gM,gN,gO,gP,gQ,gR,gT,gV,gW,gX,gY,gZ,i6,i7,i8,ia,ib,ic,ie,ig,ii,ij,ik,il,im,io,ip,iq,ir,iu,iv,iw,ix,iy,iz,iA,iB,iC,iD,iE,iF,iG,iH,iI,iJ,iK,iL,iM,iN,iO,iP,iQ,iR,iS,iT,iU,iV,iW,iX,iY,iZ,j0,j1,j2,j5,j6,j7,j8,j9,jb,jd,je,jf,bw,bz,bA,bB,bD,bE,bF,bG,bH,bI,bJ,bK,bL,bM,bN,bO,bP,bQ,bT,bU,bV,bW],[]⟩ W:=by
 simp only[Tryz.f184,Option.bind_some,zhv,zhu] at hT
 simp at hT
 subst hT;have HP:=hd_ hP;have HR:=hd_ hR;have HB:=hd_ hb;clear hP hR hb;go_wp2_with fail;go_loopw [38] (fun i wr=>i=.int .i64 0∧wr=W) (fun i _=>0)
 case atStart=>exact⟨rfl,rfl⟩
 case round =>
  obtain⟨rfl,rfl⟩:=hrel;have x0:=HP.out.c0;have x1:=HP.out.c1;go_wp2_with fail;have hX:Below wr.heap.size wr (wr.alloc (.cells #[.slice A n a,.bool b,.slice none 0 0] 115)):=(Below.refl _ _).alloc (Nat.le_refl _) _;have HZ:=hd_ (z0l wr [.slice A n a,.bool b,.slice none 0 0] 115);have HR2:=hd_ (HR.out.below hX HR.out.lt);have HB2:=hd_ (z0r HB.out hX);have HLT:=hd_ HR.out.lt;clear hX x0 x1;generalize wr.alloc (.cells #[.slice A n a,.bool b,.slice none 0 0] 115)=W2 at HZ HR2 HB2 ⊢;generalize wr.heap.size=g12 at HZ HLT ⊢;go_loopw [81] (fun i wr=>i=.int .i64 0∧wr=W2) (fun i _=>0)
  case atStart=>exact⟨rfl,rfl⟩
  case round =>
   obtain⟨rfl,rfl⟩:=hrel;obtain⟨z0,z1,z2⟩:=(⟨HZ.out.cell 0,HZ.out.cell 1,HZ.out.cell 2⟩:wr.cell? ⟨g12,0,none⟩=some (.slice A n a)∧wr.cell? ⟨g12,1,none⟩=some (.bool b)∧wr.cell? ⟨g12,2,none⟩=some (.slice none 0 0));obtain⟨u0,u1,u2⟩:=(⟨HR2.out.cell 0,HR2.out.cell 1,HR2.out.cell 2⟩:wr.cell? ⟨g4,0,none⟩=some (.slice none 0 0)∧wr.cell? ⟨g4,1,none⟩=some (.bool false)∧wr.cell? ⟨g4,2,none⟩=some (.slice none 0 0));obtain⟨v0,v1,v2⟩:=(⟨HR2.out.frozen 0,HR2.out.frozen 1,HR2.out.frozen 2⟩:wr.frozen? ⟨g4,0,none⟩=false∧wr.frozen? ⟨g4,1,none⟩=false∧wr.frozen? ⟨g4,2,none⟩=false);go_wp2_with fail;have hE:=((HR2.out.set_ 0 (.slice A n a)).set_ 1 (.bool b)).set_ 2 (.slice none 0 0);have hb:=((HB2.out.setCell (p:=⟨g4,0,none⟩) h4 (.slice A n a)).setCell (p:=⟨g4,1,none⟩) h4 (.bool b)).setCell (p:=⟨g4,2,none⟩) h4 (.slice none 0 0);generalize ((wr.setCell ⟨g4,0,none⟩ (.slice A n a)).setCell ⟨g4,1,none⟩ (.bool b)).setCell ⟨g4,2,none⟩ (.slice none 0 0)=W3 at hE hb ⊢;have e0:=hE.cell 0;have e1:=hE.cell 1;have e2:=hE.cell 2;exact bodyPost_ret (v:=.agg #[.slice A n a,.bool b,.slice none 0 0]) (by simp [results,Tryz.results184,go_sem,e0,e1,e2]) rfl ⟨hb,_,_,_,rfl⟩
open Go.Sort (grow)
structure SmSt (w W wr:World)(A:Option Addr)(n a g4 g12:Nat)(b:Bool)(hv:Value):Prop where
 low:Below W.heap.size W wr
 res:Blk wr g4 115 [.slice none 0 0,.bool false,.slice none 0 0]
 box:Blk wr g12 115 [.slice A n a,.bool b,hv]
theorem SmSt.under {w W wr wx:World}{A:Option Addr}{n a g4 g12:Nat}{b:Bool}{hv:Value}(h:SmSt w W wr A n a g4 g12 b hv)(hb:Below wr.heap.size wr wx):SmSt w W wx A n a g4 g12 b hv:=
 ⟨z0r h.low hb,h.res.below hb h.res.lt,h.box.below hb h.box.lt⟩
theorem zmq (T:Code)(hT:Tryz.f184.body.bind (zhv 9)=some T)(w W:World)(A Am:Option Addr)(n a g2 g4 g cap nm cm:Nat)(b bm:Bool)(hP:zbo W g2 (.slice A n a) b)(hR:Blk W g4 115 [.slice none 0 0,.bool false,.slice none 0 0])(hb:Below w.heap.size w W)(h4:w.heap.size≤g4)(hc:1≤cap)
  (hm0:W.cell? ⟨g,0,none⟩=some (.slice Am nm cm)) (hm1:W.cell? ⟨g,1,none⟩=some (.bool bm))
  (u0 u1 u3 u6 u7 u8 u9 gn gt gu gx gy gz gA gC gD gE gF gG gH gI gJ gK gL gM gN gO gP gQ gR gT gV gW gX gY gZ i6 i7 i8 ia ib ic ie ig ii ij ik il im io ip iq ir iu iv iw ix iy iz iA iB iC iD iE iF iG iH iI iJ iK iL iM iN iO iP iQ iR iS iT iU iV iW iX iY iZ j0 j1 j2 j5 j6 j7 j8 j9 jb jd je jf bw bz bA bB bD bE bF bG bH bI bJ bK bL bM bN bO bP bQ bT bU bV bW:Value):
  T.wp Tryz.prog (bodyPost Tryz.prog Tryz.f184 (zmo w (.slice A n a) b)) ⟨#[u0,u1,.pointer (some ⟨g2,0,none⟩),u3,.pointer (some ⟨g4,0,none⟩),.slice (some ⟨g,0,none⟩) 1 cap,u6,u7,u8,u9,gn,gt,gu,gx,gy,gz,gA,gC,gD,gE,gF,gG,gH,gI,gJ,gK,gL,gM,gN,gO,gP,gQ,gR,gT,gV,gW,gX,gY,gZ,i6,i7,i8,ia,ib,ic,ie,ig,ii,ij,ik,il,im,io,ip,iq,ir,iu,iv,iw,ix,iy,iz,iA,iB,iC,iD,iE,iF,iG,iH,iI,iJ,iK,iL,iM,iN,iO,iP,iQ,iR,iS,iT,iU,iV,iW,iX,iY,iZ,j0,j1,j2,j5,j6,j7,j8,j9,jb,jd,je,jf,bw,bz,bA,bB,bD,bE,bF,bG,bH,bI,bJ,bK,bL,bM,bN,bO,bP,bQ,bT,bU,bV,bW],[]⟩ W:=by
 simp only[Tryz.f184,Option.bind_some,zhv,zhu] at hT
 simp at hT
 subst hT;have HP:=hd_ hP;have HR:=hd_ hR;have HB:=hd_ hb;have HM:Hid (∀ X,Below W.heap.size W X→X.cell? ⟨g,0,none⟩=some (.slice Am nm cm)∧X.cell? ⟨g,1,none⟩=some (.bool bm)):=hd_ fun X hX=>⟨z04 hm0 hX (z03 hm0),z04 hm1 hX (z03 hm1)⟩;clear hP hR hb hm0 hm1;go_wp2_with fail;go_loopw [38] (fun i wr=>∃ k:Nat,i=.int .i64 k∧k≤1∧Hid (Below W.heap.size W wr)) (fun i _=>1 - (intOf i).toNat)
 case atStart=>exact⟨0,rfl,Nat.zero_le _,hd_ (Below.refl _ _)⟩
 case round =>
  obtain⟨k,rfl,hk,HI⟩:=hrel;by_cases hlt:k<1
  ·have hk0:k=0:=by omega
   subst hk0;go_wp2_with fail;have HW:=hd_ HI.out;generalize hgw:wr=wo at HW ⊢;clear hgw;go_loopw [11] (fun i wq=>i=.int .i64 0∧Hid (Below wo.heap.size wo wq)) (fun i _=>0)
   case atStart=>exact⟨rfl,hd_ (Below.refl _ _)⟩
   case round =>
    obtain⟨rfl,HJ⟩:=hrel;go_wp2_with fail;refine wp_region_quiet_below (by kernel_rfl) (by kernel_rfl) ?_
    repeat (first | go_big_quiet_step (fail) | quiet_step (fail))
    refine wpQuiet_nil ?_;intro _ hw9;obtain⟨⟨dq,osq⟩,hw9⟩:=hw9;subst hw9;have HN:=hd_ (z0r HW.out (z0r HJ.out (below_regrown wr dq osq)));generalize grow (redrawn wr dq) osq=W1 at HN ⊢;go_wp2_with fail;go_roundw
    case rel=>exact⟨1,by go_num,Nat.le_refl _,HN⟩
    case measure=>simp [intOf]
  ·have hk1:k=1:=by omega
   subst hk1;generalize hz:((1:Nat):Int)=z;have hz2:z=1:=by omega
   subst hz2;clear hz;have x0:=(HP.out.low HI.out).c0;have x1:=(HP.out.low HI.out).c1;have HIW:=hd_ HI.out;have HR1:=hd_ (HR.out.below HI.out HR.out.lt);have hX:Below wr.heap.size wr (wr.alloc (.cells #[.slice A n a,.bool b,.slice none 0 0] 115)):=(Below.refl _ _).alloc (Nat.le_refl _) _;have HS:Hid (SmSt w W (wr.alloc (.cells #[.slice A n a,.bool b,.slice none 0 0] 115)) A n a g4 wr.heap.size b (.slice none 0 0)):=hd_ ⟨z0r HI.out hX,HR1.out.below hX HR1.out.lt,z0l wr _ _⟩;have HG:Hid (W.heap.size≤wr.heap.size):=hd_ HI.out.size;have HNE:Hid (g4<wr.heap.size):=hd_ (Nat.lt_of_lt_of_le HR.out.lt HI.out.size);clear hX HI;go_wp2_with fail;clear x0 x1;generalize wr.alloc (.cells #[.slice A n a,.bool b,.slice none 0 0] 115)=W2 at HS ⊢;generalize wr.heap.size=g12 at HS HG HNE ⊢;go_loopw [81] (fun i wr=>∃(k:Nat) (H:Option Addr) (nh ch:Nat),i=.int .i64 k∧k≤1∧(k=0→Value.slice H nh ch=.slice none 0 0)∧Hid (SmSt w W wr A n a g4 g12 b (.slice H nh ch))) (fun i _=>1 - (intOf i).toNat)
   case atStart=>exact⟨0,none,0,0,rfl,Nat.zero_le _,fun _=>rfl,HS⟩
   case round =>
    obtain⟨k,H,nh,ch,rfl,hk,hnil,HJ⟩:=hrel;clear HS;by_cases hlt:k<1
    ·have hk0:k=0:=by omega
     subst hk0;have hv:=hnil rfl;injection hv with hv1 hv2 hv3
     subst hv1 hv2 hv3;obtain⟨s0,s1⟩:=HM.out wr HJ.out.low;have hX:Below wr.heap.size wr (wr.alloc (.cells #[.slice Am nm cm,.bool bm] 97)):=(Below.refl _ _).alloc (Nat.le_refl _) _;have HJ5:=hd_ (HJ.out.under hX);have HX5:=hd_ (z0l wr [.slice Am nm cm,.bool bm] 97);clear hnil hX;go_upto_region 22 with fail;clear s0 s1;generalize wr.alloc (.cells #[.slice Am nm cm,.bool bm] 97)=W5 at HJ5 HX5 ⊢;generalize wr.heap.size=g14 at HX5 ⊢;go_wp2_with fail;go_loopw [15,88] (fun z i wq=>∃ j:Nat,z=.bool true∧i=.int .i64 j∧j≤1∧Hid (Below W5.heap.size W5 wq)) (fun _ i _=>1 - (intOf i).toNat)
     case atStart=>exact⟨0,rfl,rfl,Nat.zero_le _,hd_ (Below.refl _ _)⟩
     case round =>
      obtain⟨j,rfl,rfl,hj,HK⟩:=hrel;by_cases hlt2:j<1
      ·have hj0:j=0:=by omega
       subst hj0;obtain⟨s0,s1⟩:=HM.out wr (z0r HJ5.out.low HK.out);have hX:Below wr.heap.size wr (wr.alloc (.cells #[.slice Am nm cm,.bool bm] 97)):=(Below.refl _ _).alloc (Nat.le_refl _) _;have HN:=hd_ (z0r HK.out hX);clear hX;go_wp2_with fail;go_roundw
       case rel=>exact⟨1,rfl,by go_num,Nat.le_refl _,HN⟩
       case measure=>simp [intOf]
      ·have hj1:j=1:=by omega
       subst hj1;have HJ6:=hd_ (HJ5.out.under HK.out);have HX6:=hd_ (HX5.out.below HK.out HX5.out.lt);clear HK;obtain⟨y0,y1⟩:=(⟨HX6.out.cell 0,HX6.out.cell 1⟩:wr.cell? ⟨g14,0,none⟩=some (.slice Am nm cm)∧wr.cell? ⟨g14,1,none⟩=some (.bool bm));have z2:wr.cell? ⟨g12,2,none⟩=some (.slice none 0 0):=HJ6.out.box.cell 2;have hba:Below wr.heap.size wr (wr.alloc (.cells #[.slice Am nm cm,.bool bm] 97)):=(Below.refl _ _).alloc (Nat.le_refl _) _;have HJ7:=hd_ (HJ6.out.under hba);have hrow:=z0i wr [.slice Am nm cm,.bool bm] 97 2 1 rfl (by unfold maxLen;omega) wr.heap.size rfl
       have HON:=hd_ (World.ownsRow_nil (wr.alloc (.cells #[.slice Am nm cm,.bool bm] 97)) (wr.alloc (.cells #[.slice Am nm cm,.bool bm] 97)).heap.size 97 2);clear hba;go_wp2_with (at_builtin;refine z0j rfl rfl zdd HON.out rfl hrow rfl (by simp [Value.oneCell']) (by omega) (by unfold maxLen;omega) (Nat.le_refl _) ?_;intro A' c' w6 hown hgr hob;have hb6:=zm9 hgr rfl;have hbx:=(HJ7.out.under hb6).box;have zf:=Blk.frozen hbx 2;have zc:=Blk.cell hbx 2)
       have HJ8:=hd_ (HJ7.out.under hb6);have HN:Hid (SmSt w W (w6.setCell ⟨g12,2,none⟩ (.slice A' (0+1) c')) A n a g4 g12 b (.slice A' (0+1) c')):=hd_ ⟨HJ8.out.low.setCell (p:=⟨g12,2,none⟩) HG.out _,Blk.far HJ8.out.res (p:=⟨g12,2,none⟩) (by have:=HNE.out;simp;omega) _,HJ8.out.box.set_ 2 _⟩
       clear hown hgr hob hb6 hbx zf zc y0 y1 z2 hrow;go_wp2_with fail;go_roundw
       case rel=>exact⟨1,A',0+1,c',by go_num,Nat.le_refl _,fun h=>by omega,HN⟩
       case measure=>simp [intOf]
    ·have hk1:k=1:=by omega
     subst hk1;obtain⟨z0,z1,z2⟩:=(⟨HJ.out.box.cell 0,HJ.out.box.cell 1,HJ.out.box.cell 2⟩:wr.cell? ⟨g12,0,none⟩=some (.slice A n a)∧wr.cell? ⟨g12,1,none⟩=some (.bool b)∧wr.cell? ⟨g12,2,none⟩=some (.slice H nh ch));obtain⟨u0,u1,u2⟩:=(⟨HJ.out.res.cell 0,HJ.out.res.cell 1,HJ.out.res.cell 2⟩:wr.cell? ⟨g4,0,none⟩=some (.slice none 0 0)∧wr.cell? ⟨g4,1,none⟩=some (.bool false)∧wr.cell? ⟨g4,2,none⟩=some (.slice none 0 0));obtain⟨v0,v1,v2⟩:=(⟨HJ.out.res.frozen 0,HJ.out.res.frozen 1,HJ.out.res.frozen 2⟩:wr.frozen? ⟨g4,0,none⟩=false∧wr.frozen? ⟨g4,1,none⟩=false∧wr.frozen? ⟨g4,2,none⟩=false);have HB2:=hd_ (z0r HB.out HJ.out.low);have HR2:=hd_ HJ.out.res;clear hnil;go_wp2_with fail;have hE:=((HR2.out.set_ 0 (.slice A n a)).set_ 1 (.bool b)).set_ 2 (.slice H nh ch);have hb:=((HB2.out.setCell (p:=⟨g4,0,none⟩) h4 (.slice A n a)).setCell (p:=⟨g4,1,none⟩) h4 (.bool b)).setCell (p:=⟨g4,2,none⟩) h4 (.slice H nh ch);generalize ((wr.setCell ⟨g4,0,none⟩ (.slice A n a)).setCell ⟨g4,1,none⟩ (.bool b)).setCell ⟨g4,2,none⟩ (.slice H nh ch)=W3 at hE hb ⊢;have e0:=hE.cell 0;have e1:=hE.cell 1;have e2:=hE.cell 2;exact bodyPost_ret (v:=.agg #[.slice A n a,.bool b,.slice H nh ch]) (by simp [results,Tryz.results184,go_sem,e0,e1,e2]) rfl ⟨hb,_,_,_,rfl⟩
theorem znk (ex:Bool)(l r:Pat)(s:ByteArray)(A B:Option Addr)(a b:Nat)(w:World)(he:Env w)(hs:s.size≤1000000)(hl:za9 w (.slice A l.parts.length a) l)(hr:za9 w (.slice B r.parts.length b) r)(h1:z7e l=0)(h2:z7e r=0)(h3:za2 l=za2 r)(h4:l.rest=r.rest)(hf:∀ caps,z8e l s=some caps→zbv r caps)
  (hF:∀ X caps cv,Below w.heap.size w X→Strs X cv caps→zbv r caps→Calls Tryz.prog 226 #[.agg #[.slice B r.parts.length b,.bool r.rest],cv] X fun e w'=>e=.returned (.tuple #[.string (zbu r caps),.int .i64 0])∧Below X.heap.size X w'):
  Calls Tryz.prog 188 #[.agg #[.bool ex,.slice A l.parts.length a,.bool l.rest,.slice B r.parts.length b,.bool r.rest],.string s] w (zc3 w (zc2 l r s)):=by
 have hB:=z0l w [.bool ex,.slice A l.parts.length a,.bool l.rest,.slice B r.parts.length b,.bool r.rest] 119;have hA:Below w.heap.size w (w.alloc (.cells #[.bool ex,.slice A l.parts.length a,.bool l.rest,.slice B r.parts.length b,.bool r.rest] 119)):=(Below.refl _ _).alloc (Nat.le_refl _) _;have HC:=hd_ (fun X (hX:Below w.heap.size w X)=>znj ex l r A B a b X (hl.below hX) (hr.below hX) h1 h2 h3 h4);have HM:=hd_ (fun X (hX:Below w.heap.size w X)=>zcd l s A a X (he.below hX) hs (hl.below hX).1 hl.small);have HFI:=hd_ hF;have HF:=hd_ hf;have HR:Hid (zc2 l r s=(z8e l s).map (zbu r)):=hd_ rfl;clear he hl hr hf hF h1 h2 h3 h4;generalize zc2 l r s=o at HR ⊢;go_enter Tryz.func188,Tryz.ntmps188;go_upto_region 1 with fail;generalize w.alloc (.cells #[.bool ex,.slice A l.parts.length a,.bool l.rest,.slice B r.parts.length b,.bool r.rest] 119)=W1 at hA hB ⊢;obtain⟨d0,d1,d2,d3,d4⟩:=(⟨hB.cell 0,hB.cell 1,hB.cell 2,hB.cell 3,hB.cell 4⟩:W1.cell? ⟨w.heap.size,0,none⟩=some (.bool ex)∧W1.cell? ⟨w.heap.size,1,none⟩=some (.slice A l.parts.length a)∧W1.cell? ⟨w.heap.size,2,none⟩=some (.bool l.rest)∧W1.cell? ⟨w.heap.size,3,none⟩=some (.slice B r.parts.length b)∧W1.cell? ⟨w.heap.size,4,none⟩=some (.bool r.rest));have HB:=hd_ hB;have HA:=hd_ hA;have HC1:=hd_ (HC.out W1 hA);clear hA hB HC;go_wp2_with fail;refine HC1.out.mono ?_;rintro e w2 ⟨rfl,hb⟩;dsimp only;have HX2:=hd_ (HB.out.below hb HB.out.lt);have HB2:=hd_ (z0r HA.out hb);have HM2:=hd_ (HM.out w2 HB2.out);clear hb d0 d1 d2 d3 d4 HC1 HM HB;obtain⟨d1,d2⟩:=(⟨HX2.out.cell 1,HX2.out.cell 2⟩:w2.cell? ⟨w.heap.size,1,none⟩=some (.slice A l.parts.length a)∧w2.cell? ⟨w.heap.size,2,none⟩=some (.bool l.rest));go_wp2_with fail;refine HM2.out.mono ?_;rintro e w3 ⟨A3,n3,c3,rfl,hb,hm⟩;dsimp only;have HB3:=hd_ (z0r HB2.out hb);have HX3:=hd_ (HX2.out.below hb HX2.out.lt);clear hb d1 d2 HM2 HX2;cases hq:z8e l s with
 | none =>
  rw[hq] at HR;have HR2:Hid (o=none):=hd_ HR.out;clear hm hq HR;go_wp2_with fail;go_ret2;exact⟨by rw[HR2.out];rfl,HB3.out⟩
 | some caps =>
  rw[hq] at HR;have HR2:Hid (o=some (zbu r caps)):=hd_ HR.out;obtain⟨-,hst⟩:=hm caps hq;have HCA:=hd_ (HFI.out w3 caps _ HB3.out hst (HF.out caps hq));clear hm hq HR hst HFI HF;obtain⟨d3,d4⟩:=(⟨HX3.out.cell 3,HX3.out.cell 4⟩:w3.cell? ⟨w.heap.size,3,none⟩=some (.slice B r.parts.length b)∧w3.cell? ⟨w.heap.size,4,none⟩=some (.bool r.rest));go_wp2_with fail;refine HCA.out.mono ?_;rintro e w4 ⟨rfl,hb⟩;dsimp only;have HB4:=hd_ (z0r HB3.out hb);clear hb d3 d4 HCA;go_wp2_with fail;go_ret2;exact⟨by rw[HR2.out];rfl,HB4.out⟩
end Go.Proofs.YtegeboijhifmcaaGreatDoor
