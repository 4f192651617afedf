/- A part of the proof. -/
import Derived.Test.YtegeboijhifmcaaGreatDoorMgw30
set_option linter.unusedVariables false
set_option linter.unusedSimpArgs false
set_option maxHeartbeats 16000000
set_option maxRecDepth 100000
namespace Go.Proofs.YtegeboijhifmcaaGreatDoor
open Go.RowKit
open Go.Sort (grow)
structure SmSt (w W wr:World)(A:Option Addr)(n a g4 g12:Nat)(b:Bool)(hv:Value):Prop where
 low:Below W.heap.size W wr
 res:Blk wr g4 115 [.slice none 0 0,.bool false,.slice none 0 0]
 box:Blk wr g12 115 [.slice A n a,.bool b,hv]
theorem SmSt.under {w W wr wx:World}{A:Option Addr}{n a g4 g12:Nat}{b:Bool}{hv:Value}(h:SmSt w W wr A n a g4 g12 b hv)(hb:Below wr.heap.size wr wx):SmSt w W wx A n a g4 g12 b hv:=
 ⟨z0r h.low hb,h.res.below hb h.res.lt,h.box.below hb h.box.lt⟩
theorem zmq (T:Code)(hT:Tryz.f184.body.bind (zhv 9)=some T)(w W:World)(A Am:Option Addr)(n a g2 g4 g cap nm cm:Nat)(b bm:Bool)(hP:zbo W g2 (.slice A n a) b)(hR:Blk W g4 115 [.slice none 0 0,.bool false,.slice none 0 0])(hb:Below w.heap.size w W)(h4:w.heap.size≤g4)(hc:1≤cap)
  (hm0:W.cell? ⟨g,0,none⟩=some (.slice Am nm cm)) (hm1:W.cell? ⟨g,1,none⟩=some (.bool bm))
  (u0 u1 u3 u6 u7 u8 u9 gn gt gu gx gy gz gA gC gD gE gF gG gH gI gJ gK gL gM gN gO gP gQ gR gT gV gW gX gY gZ i6 i7 i8 ia ib ic ie ig ii ij ik il im io ip iq ir iu iv iw ix iy iz iA iB iC iD iE iF iG iH iI iJ iK iL iM iN iO iP iQ iR iS iT iU iV iW iX iY iZ j0 j1 j2 j5 j6 j7 j8 j9 jb jd je jf bw bz bA bB bD bE bF bG bH bI bJ bK bL bM bN bO bP bQ bT bU bV bW:Value):
  T.wp Tryz.prog (bodyPost Tryz.prog Tryz.f184 (zmo w (.slice A n a) b)) ⟨#[u0,u1,.pointer (some ⟨g2,0,none⟩),u3,.pointer (some ⟨g4,0,none⟩),.slice (some ⟨g,0,none⟩) 1 cap,u6,u7,u8,u9,gn,gt,gu,gx,gy,gz,gA,gC,gD,gE,gF,gG,gH,gI,gJ,gK,gL,gM,gN,gO,gP,gQ,gR,gT,gV,gW,gX,gY,gZ,i6,i7,i8,ia,ib,ic,ie,ig,ii,ij,ik,il,im,io,ip,iq,ir,iu,iv,iw,ix,iy,iz,iA,iB,iC,iD,iE,iF,iG,iH,iI,iJ,iK,iL,iM,iN,iO,iP,iQ,iR,iS,iT,iU,iV,iW,iX,iY,iZ,j0,j1,j2,j5,j6,j7,j8,j9,jb,jd,je,jf,bw,bz,bA,bB,bD,bE,bF,bG,bH,bI,bJ,bK,bL,bM,bN,bO,bP,bQ,bT,bU,bV,bW],[]⟩ W:=by
 simp only[Tryz.f184,Option.bind_some,zhv,zhu] at hT
 simp at hT
 subst hT;have HP:=hd_ hP;have HR:=hd_ hR;have HB:=hd_ hb;have HM:Hid (∀ X,Below W.heap.size W X→X.cell? ⟨g,0,none⟩=some (.slice Am nm cm)∧X.cell? ⟨g,1,none⟩=some (.bool bm)):=hd_ fun X hX=>⟨z04 hm0 hX (z03 hm0),z04 hm1 hX (z03 hm1)⟩;clear hP hR hb hm0 hm1;go_wp2_with fail;go_loopw [38] (fun i wr=>∃ k:Nat,i=.int .i64 k∧k≤1∧Hid (Below W.heap.size W wr)) (fun i _=>1 - (intOf i).toNat)
 case atStart=>exact⟨0,rfl,Nat.zero_le _,hd_ (Below.refl _ _)⟩
 case round =>
  obtain⟨k,rfl,hk,HI⟩:=hrel;by_cases hlt:k<1
  ·have hk0:k=0:=by omega
   subst hk0;go_wp2_with fail;have HW:=hd_ HI.out;generalize hgw:wr=wo at HW ⊢;clear hgw;go_loopw [11] (fun i wq=>i=.int .i64 0∧Hid (Below wo.heap.size wo wq)) (fun i _=>0)
   case atStart=>exact⟨rfl,hd_ (Below.refl _ _)⟩
   case round =>
    obtain⟨rfl,HJ⟩:=hrel;go_wp2_with fail;refine wp_region_quiet_below (by kernel_rfl) (by kernel_rfl) ?_
    repeat (first | go_big_quiet_step (fail) | quiet_step (fail))
    refine wpQuiet_nil ?_;intro _ hw9;obtain⟨⟨dq,osq⟩,hw9⟩:=hw9;subst hw9;have HN:=hd_ (z0r HW.out (z0r HJ.out (below_regrown wr dq osq)));generalize grow (redrawn wr dq) osq=W1 at HN ⊢;go_wp2_with fail;go_roundw
    case rel=>exact⟨1,by go_num,Nat.le_refl _,HN⟩
    case measure=>simp [intOf]
  ·have hk1:k=1:=by omega
   subst hk1;generalize hz:((1:Nat):Int)=z;have hz2:z=1:=by omega
   subst hz2;clear hz;have x0:=(HP.out.low HI.out).c0;have x1:=(HP.out.low HI.out).c1;have HIW:=hd_ HI.out;have HR1:=hd_ (HR.out.below HI.out HR.out.lt);have hX:Below wr.heap.size wr (wr.alloc (.cells #[.slice A n a,.bool b,.slice none 0 0] 115)):=(Below.refl _ _).alloc (Nat.le_refl _) _;have HS:Hid (SmSt w W (wr.alloc (.cells #[.slice A n a,.bool b,.slice none 0 0] 115)) A n a g4 wr.heap.size b (.slice none 0 0)):=hd_ ⟨z0r HI.out hX,HR1.out.below hX HR1.out.lt,z0l wr _ _⟩;have HG:Hid (W.heap.size≤wr.heap.size):=hd_ HI.out.size;have HNE:Hid (g4<wr.heap.size):=hd_ (Nat.lt_of_lt_of_le HR.out.lt HI.out.size);clear hX HI;go_wp2_with fail;clear x0 x1;generalize wr.alloc (.cells #[.slice A n a,.bool b,.slice none 0 0] 115)=W2 at HS ⊢;generalize wr.heap.size=g12 at HS HG HNE ⊢;go_loopw [81] (fun i wr=>∃(k:Nat) (H:Option Addr) (nh ch:Nat),i=.int .i64 k∧k≤1∧(k=0→Value.slice H nh ch=.slice none 0 0)∧Hid (SmSt w W wr A n a g4 g12 b (.slice H nh ch))) (fun i _=>1 - (intOf i).toNat)
   case atStart=>exact⟨0,none,0,0,rfl,Nat.zero_le _,fun _=>rfl,HS⟩
   case round =>
    obtain⟨k,H,nh,ch,rfl,hk,hnil,HJ⟩:=hrel;clear HS;by_cases hlt:k<1
    ·have hk0:k=0:=by omega
     subst hk0;have hv:=hnil rfl;injection hv with hv1 hv2 hv3
     subst hv1 hv2 hv3;obtain⟨s0,s1⟩:=HM.out wr HJ.out.low;have hX:Below wr.heap.size wr (wr.alloc (.cells #[.slice Am nm cm,.bool bm] 97)):=(Below.refl _ _).alloc (Nat.le_refl _) _;have HJ5:=hd_ (HJ.out.under hX);have HX5:=hd_ (z0l wr [.slice Am nm cm,.bool bm] 97);clear hnil hX;go_upto_region 22 with fail;clear s0 s1;generalize wr.alloc (.cells #[.slice Am nm cm,.bool bm] 97)=W5 at HJ5 HX5 ⊢;generalize wr.heap.size=g14 at HX5 ⊢;go_wp2_with fail;go_loopw [15,88] (fun z i wq=>∃ j:Nat,z=.bool true∧i=.int .i64 j∧j≤1∧Hid (Below W5.heap.size W5 wq)) (fun _ i _=>1 - (intOf i).toNat)
     case atStart=>exact⟨0,rfl,rfl,Nat.zero_le _,hd_ (Below.refl _ _)⟩
     case round =>
      obtain⟨j,rfl,rfl,hj,HK⟩:=hrel;by_cases hlt2:j<1
      ·have hj0:j=0:=by omega
       subst hj0;obtain⟨s0,s1⟩:=HM.out wr (z0r HJ5.out.low HK.out);have hX:Below wr.heap.size wr (wr.alloc (.cells #[.slice Am nm cm,.bool bm] 97)):=(Below.refl _ _).alloc (Nat.le_refl _) _;have HN:=hd_ (z0r HK.out hX);clear hX;go_wp2_with fail;go_roundw
       case rel=>exact⟨1,rfl,by go_num,Nat.le_refl _,HN⟩
       case measure=>simp [intOf]
      ·have hj1:j=1:=by omega
       subst hj1;have HJ6:=hd_ (HJ5.out.under HK.out);have HX6:=hd_ (HX5.out.below HK.out HX5.out.lt);clear HK;obtain⟨y0,y1⟩:=(⟨HX6.out.cell 0,HX6.out.cell 1⟩:wr.cell? ⟨g14,0,none⟩=some (.slice Am nm cm)∧wr.cell? ⟨g14,1,none⟩=some (.bool bm));have z2:wr.cell? ⟨g12,2,none⟩=some (.slice none 0 0):=HJ6.out.box.cell 2;have hba:Below wr.heap.size wr (wr.alloc (.cells #[.slice Am nm cm,.bool bm] 97)):=(Below.refl _ _).alloc (Nat.le_refl _) _;have HJ7:=hd_ (HJ6.out.under hba);have hrow:=z0i wr [.slice Am nm cm,.bool bm] 97 2 1 rfl (by unfold maxLen;omega) wr.heap.size rfl
       have HON:=hd_ (World.ownsRow_nil (wr.alloc (.cells #[.slice Am nm cm,.bool bm] 97)) (wr.alloc (.cells #[.slice Am nm cm,.bool bm] 97)).heap.size 97 2);clear hba;go_wp2_with (at_builtin;refine z0j rfl rfl zdd HON.out rfl hrow rfl (by simp [Value.oneCell']) (by omega) (by unfold maxLen;omega) (Nat.le_refl _) ?_;intro A' c' w6 hown hgr hob;have hb6:=zm9 hgr rfl;have hbx:=(HJ7.out.under hb6).box;have zf:=Blk.frozen hbx 2;have zc:=Blk.cell hbx 2)
       have HJ8:=hd_ (HJ7.out.under hb6);have HN:Hid (SmSt w W (w6.setCell ⟨g12,2,none⟩ (.slice A' (0+1) c')) A n a g4 g12 b (.slice A' (0+1) c')):=hd_ ⟨HJ8.out.low.setCell (p:=⟨g12,2,none⟩) HG.out _,Blk.far HJ8.out.res (p:=⟨g12,2,none⟩) (by have:=HNE.out;simp;omega) _,HJ8.out.box.set_ 2 _⟩
       clear hown hgr hob hb6 hbx zf zc y0 y1 z2 hrow;go_wp2_with fail;go_roundw
       case rel=>exact⟨1,A',0+1,c',by go_num,Nat.le_refl _,fun h=>by omega,HN⟩
       case measure=>simp [intOf]
    ·have hk1:k=1:=by omega
     subst hk1;obtain⟨z0,z1,z2⟩:=(⟨HJ.out.box.cell 0,HJ.out.box.cell 1,HJ.out.box.cell 2⟩:wr.cell? ⟨g12,0,none⟩=some (.slice A n a)∧wr.cell? ⟨g12,1,none⟩=some (.bool b)∧wr.cell? ⟨g12,2,none⟩=some (.slice H nh ch));obtain⟨u0,u1,u2⟩:=(⟨HJ.out.res.cell 0,HJ.out.res.cell 1,HJ.out.res.cell 2⟩:wr.cell? ⟨g4,0,none⟩=some (.slice none 0 0)∧wr.cell? ⟨g4,1,none⟩=some (.bool false)∧wr.cell? ⟨g4,2,none⟩=some (.slice none 0 0));obtain⟨v0,v1,v2⟩:=(⟨HJ.out.res.frozen 0,HJ.out.res.frozen 1,HJ.out.res.frozen 2⟩:wr.frozen? ⟨g4,0,none⟩=false∧wr.frozen? ⟨g4,1,none⟩=false∧wr.frozen? ⟨g4,2,none⟩=false);have HB2:=hd_ (z0r HB.out HJ.out.low);have HR2:=hd_ HJ.out.res;clear hnil;go_wp2_with fail;have hE:=((HR2.out.set_ 0 (.slice A n a)).set_ 1 (.bool b)).set_ 2 (.slice H nh ch);have hb:=((HB2.out.setCell (p:=⟨g4,0,none⟩) h4 (.slice A n a)).setCell (p:=⟨g4,1,none⟩) h4 (.bool b)).setCell (p:=⟨g4,2,none⟩) h4 (.slice H nh ch);generalize ((wr.setCell ⟨g4,0,none⟩ (.slice A n a)).setCell ⟨g4,1,none⟩ (.bool b)).setCell ⟨g4,2,none⟩ (.slice H nh ch)=W3 at hE hb ⊢;have e0:=hE.cell 0;have e1:=hE.cell 1;have e2:=hE.cell 2;exact bodyPost_ret (v:=.agg #[.slice A n a,.bool b,.slice H nh ch]) (by simp [results,Tryz.results184,go_sem,e0,e1,e2]) rfl ⟨hb,_,_,_,rfl⟩
theorem znx (A:Option Addr)(n a:Nat)(b:Bool)(w:World):
  Calls Tryz.prog 184 #[.agg #[.slice A n a,.bool b],.slice none 0 0] w (zmo w (.slice A n a) b):=by
 have h2:=(z0l w [.slice A n a,.bool b] 97).alloc (.cells #[.slice none 0 0,.bool false,.slice none 0 0] 115);have h4:=z0l (w.alloc (.cells #[.slice A n a,.bool b] 97)) [.slice none 0 0,.bool false,.slice none 0 0] 115;have hA:Below w.heap.size w ((w.alloc (.cells #[.slice A n a,.bool b] 97)).alloc (.cells #[.slice none 0 0,.bool false,.slice none 0 0] 115)):=((Below.refl _ _).alloc (Nat.le_refl _) _).alloc (by simp) _
 rw[World.size_alloc] at h4;have H2:=hd_ h2;have H4:=hd_ h4;have HA:=hd_ hA;clear h2 h4 hA;go_enter Tryz.func184,Tryz.ntmps184;go_upto_region 1 with fail;generalize (w.alloc (.cells #[.slice A n a,.bool b] 97)).alloc (.cells #[.slice none 0 0,.bool false,.slice none 0 0] 115)=W1 at H2 H4 HA ⊢;go_wp2_with fail;go_loopw [5,20] (fun v i wr=>v=.slice none 0 0∧i=.int .i64 0∧wr=W1) (fun _ i _=>0)
 case atStart=>exact⟨rfl,rfl,rfl⟩
 case round =>
  obtain⟨rfl,rfl,rfl⟩:=hrel;rename ∀ a w,Code.wp _ (Code.seq (Code.seq (Code.region 9 _ _) _) _) _ a w→_=>hk7
  have HK7:=hd_ hk7;clear hk7;go_wp2_with fail;exact HK7.out _ _ (zmp _ (by kernel_rfl) w wr A n a w.heap.size (w.heap.size+1) b H2.out H4.out HA.out (by omega) _ _ _ _ _ _ _ _ _ _ _ _ _ _ _ _ _ _ _ _ _ _ _ _ _ _ _ _ _ _ _ _ _ _ _ _ _ _ _ _ _ _ _ _ _ _ _ _ _ _ _ _ _ _ _ _ _ _ _ _ _ _ _ _ _ _ _ _ _ _ _ _ _ _ _ _ _ _ _ _ _ _ _ _ _ _ _ _ _ _ _ _ _ _ _ _ _ _ _ _ _ _ _ _ _ _ _ _ _ _ _ _ _ _ _ _ _ _ _)
theorem zny {w:World}{base:Nat}{e:TypeId}{A:Option Addr}{c:Nat}{v0 v1:Value}(h:w.ownsRow base e 2 (.slice A (0+1) c) (0+1) [v0,v1]):
  ∃ g,A=some ⟨g,0,none⟩∧1≤c∧w.cell? ⟨g,0,none⟩=some v0∧w.cell? ⟨g,1,none⟩=some v1:=by
 have h2:=h.2;rcases h2 with⟨-,hn⟩ | ⟨g,cap,cur,hv,-,-,hnc,-⟩
 ·omega
 ·injection hv with e1 e2 e3
  subst e1 e3;exact⟨g,rfl,by omega,h.cells (g:=g) rfl 0 _ rfl,h.cells (g:=g) rfl 1 _ rfl⟩
def SmFst (W wr:World)(k:Nat)(v:Value):Prop:=Below W.heap.size W wr∧(v=.slice none 0 0∨k=1∧∃(g cap:Nat) (A:Option Addr) (n c:Nat) (b:Bool),v=.slice (some ⟨g,0,none⟩) 1 cap∧1≤cap∧wr.cell? ⟨g,0,none⟩=some (.slice A n c)∧wr.cell? ⟨g,1,none⟩=some (.bool b))
theorem znz (p h:Pat)(A B:Option Addr)(a b hg ch:Nat)(w:World)(hp:za9 w (.slice A p.parts.length a) p)(hh:za9 w (.slice B h.parts.length b) h)(hsym:znr p h)(hc:1≤ch)(h0:w.cell? ⟨hg,0,none⟩=some (.slice B h.parts.length b))(h1:w.cell? ⟨hg,1,none⟩=some (.bool h.rest)):
  Calls Tryz.prog 184 #[.agg #[.slice A p.parts.length a,.bool p.rest],.slice (some ⟨hg,0,none⟩) 1 ch] w (zmo w (.slice A p.parts.length a) p.rest):=by
 have h2:=(z0l w [.slice A p.parts.length a,.bool p.rest] 97).alloc (.cells #[.slice none 0 0,.bool false,.slice none 0 0] 115);have h4:=z0l (w.alloc (.cells #[.slice A p.parts.length a,.bool p.rest] 97)) [.slice none 0 0,.bool false,.slice none 0 0] 115;have hA:Below w.heap.size w ((w.alloc (.cells #[.slice A p.parts.length a,.bool p.rest] 97)).alloc (.cells #[.slice none 0 0,.bool false,.slice none 0 0] 115)):=((Below.refl _ _).alloc (Nat.le_refl _) _).alloc (by simp) _
 rw[World.size_alloc] at h4;have H2:Hid (zbo _ _ _ _):=hd_ h2;have H4:=hd_ h4;have HA:=hd_ hA;have HME:=hd_ (fun X (hX:Below w.heap.size w X)=>zmn p h A B a b X (hp.below hX) (hh.below hX) hsym);have HC:Hid (∀ X,Below w.heap.size w X→X.cell? ⟨hg,0,none⟩=some (.slice B h.parts.length b)∧X.cell? ⟨hg,1,none⟩=some (.bool h.rest)):=hd_ fun X hX=>⟨z04 h0 hX (z03 h0),z04 h1 hX (z03 h1)⟩;clear h2 h4 hA hp hh hsym h0 h1;go_enter Tryz.func184,Tryz.ntmps184;go_upto_region 1 with fail;generalize (w.alloc (.cells #[.slice A p.parts.length a,.bool p.rest] 97)).alloc (.cells #[.slice none 0 0,.bool false,.slice none 0 0] 115)=W1 at H2 H4 HA ⊢;go_wp2_with fail;go_loopw [5,20] (fun v i wr=>∃ k:Nat,i=.int .i64 k∧k≤1∧Hid (SmFst W1 wr k v)) (fun _ i _=>1 - (intOf i).toNat)
 case atStart=>exact⟨0,rfl,Nat.zero_le _,hd_ ⟨Below.refl _ _,Or.inl rfl⟩⟩
 case round =>
  obtain⟨k,rfl,hk,HI⟩:=hrel;by_cases hlt:k<1
  ·have hk0:k=0:=by omega
   subst hk0;obtain⟨hlow,rfl | ⟨h,-⟩⟩:=HI.out
   case inr=>omega
   obtain⟨s0,s1⟩:=HC.out wr (z0r HA.out hlow);have hX:Below wr.heap.size wr (wr.alloc (.cells #[.slice B h.parts.length b,.bool h.rest] 97)):=(Below.refl _ _).alloc (Nat.le_refl _) _;have HX5:=hd_ (z0l wr [.slice B h.parts.length b,.bool h.rest] 97);have HL5:=hd_ (z0r hlow hX);clear hX hlow HI;go_upto_region 5 with fail;clear s0 s1;generalize wr.alloc (.cells #[.slice B h.parts.length b,.bool h.rest] 97)=W5 at HX5 HL5 ⊢;generalize wr.heap.size=g7 at HX5 ⊢;obtain⟨y0,y1⟩:=(⟨HX5.out.cell 0,HX5.out.cell 1⟩:W5.cell? ⟨g7,0,none⟩=some (.slice B h.parts.length b)∧W5.cell? ⟨g7,1,none⟩=some (.bool h.rest));have HP5:=hd_ (H2.out.low HL5.out);have x0:=HP5.out.c0;have x1:=HP5.out.c1;have HC1:=hd_ (HME.out W5 (z0r HA.out HL5.out));go_wp2_with fail;refine HC1.out.mono ?_;clear HC1 x0 x1 y0 y1;rintro e w6 ⟨hb,⟨hmn,rfl⟩ | ⟨m,A6,c6,hmm,rfl,hown,hin⟩⟩
   ·dsimp only;have hX:Below w6.heap.size w6 (w6.alloc (.cells #[.slice none 0 0,.bool false] 97)):=(Below.refl _ _).alloc (Nat.le_refl _) _;have HN:=hd_ (z0r HL5.out (z0r hb hX));clear hb hX hmn;go_wp2_with fail;go_roundw
    case rel=>exact⟨1,by go_num,Nat.le_refl _,hd_ ⟨HN.out,Or.inl rfl⟩⟩
    case measure=>simp [intOf]
   ·dsimp only;have hX:Below w6.heap.size w6 (w6.alloc (.cells #[.slice A6 m.parts.length c6,.bool m.rest] 97)):=(Below.refl _ _).alloc (Nat.le_refl _) _;have HN:=hd_ (z0r HL5.out (z0r hb hX));have HX7:=hd_ (z0l w6 [.slice A6 m.parts.length c6,.bool m.rest] 97);clear hb hX hmm hown hin;go_upto_region 7 with fail;generalize w6.alloc (.cells #[.slice A6 m.parts.length c6,.bool m.rest] 97)=W7 at HN HX7 ⊢;generalize w6.heap.size=g8 at HX7 ⊢;obtain⟨y0,y1⟩:=(⟨HX7.out.cell 0,HX7.out.cell 1⟩:W7.cell? ⟨g8,0,none⟩=some (.slice A6 m.parts.length c6)∧W7.cell? ⟨g8,1,none⟩=some (.bool m.rest));have hrow:=z0i W7 [.slice A6 m.parts.length c6,.bool m.rest] 97 2 1 rfl (by unfold maxLen;omega) W7.heap.size rfl
    have HON:=hd_ (World.ownsRow_nil (W7.alloc (.cells #[.slice A6 m.parts.length c6,.bool m.rest] 97)) W7.heap.size 97 2);have HN8:=hd_ (z0r HN.out ((Below.refl W7.heap.size W7).alloc (Nat.le_refl _) (.cells #[.slice A6 m.parts.length c6,.bool m.rest] 97)));go_wp2_with (at_builtin;refine z0j rfl rfl zdd HON.out rfl hrow rfl (by simp [Value.oneCell']) (by omega) (by unfold maxLen;omega) (by simp) ?_;intro A' c' w8 hown hgr hob)
    have hb8:=zm9 hgr rfl;have HN9:Hid (SmFst W1 w8 1 (.slice A' (0+1) c')):=hd_ (by
     obtain⟨g,rfl,hc1,q0,q1⟩:=zny hown;exact⟨z0r HN8.out hb8,Or.inr ⟨rfl,g,c',A6,m.parts.length,c6,m.rest,rfl,hc1,q0,q1⟩⟩)
    clear hown hgr hob hb8 y0 y1 hrow;go_roundw
    case rel=>exact⟨1,by go_num,Nat.le_refl _,HN9⟩
    case measure=>simp [intOf]
  ·have hk1:k=1:=by omega
   subst hk1;obtain⟨hlow,rfl | ⟨-,g,cap,Am,nm,cm,bm,rfl,hcap,hm0,hm1⟩⟩:=HI.out
   ·have HB:=hd_ hlow;clear hlow HI;rename ∀ a w,Code.wp _ (Code.seq (Code.seq (Code.region 9 _ _) _) _) _ a w→_=>hk7
    have HK7:=hd_ hk7;clear hk7;go_wp2_with fail;exact HK7.out _ _ (zmp _ (by kernel_rfl) w wr A p.parts.length a w.heap.size (w.heap.size+1) p.rest (H2.out.low HB.out) (H4.out.below HB.out H4.out.lt) (z0r HA.out HB.out) (by omega) _ _ _ _ _ _ _ _ _ _ _ _ _ _ _ _ _ _ _ _ _ _ _ _ _ _ _ _ _ _ _ _ _ _ _ _ _ _ _ _ _ _ _ _ _ _ _ _ _ _ _ _ _ _ _ _ _ _ _ _ _ _ _ _ _ _ _ _ _ _ _ _ _ _ _ _ _ _ _ _ _ _ _ _ _ _ _ _ _ _ _ _ _ _ _ _ _ _ _ _ _ _ _ _ _ _ _ _ _ _ _ _ _ _ _ _ _ _ _)
   ·have HB:=hd_ hlow;have HM0:=hd_ hm0;have HM1:=hd_ hm1;clear hlow HI hm0 hm1;rename ∀ a w,Code.wp _ (Code.seq (Code.seq (Code.region 9 _ _) _) _) _ a w→_=>hk7
    have HK7:=hd_ hk7;clear hk7;go_wp2_with fail;exact HK7.out _ _ (zmq _ (by kernel_rfl) w wr A Am p.parts.length a w.heap.size (w.heap.size+1) g cap nm cm p.rest bm (H2.out.low HB.out) (H4.out.below HB.out H4.out.lt) (z0r HA.out HB.out) (by omega) hcap HM0.out HM1.out _ _ _ _ _ _ _ _ _ _ _ _ _ _ _ _ _ _ _ _ _ _ _ _ _ _ _ _ _ _ _ _ _ _ _ _ _ _ _ _ _ _ _ _ _ _ _ _ _ _ _ _ _ _ _ _ _ _ _ _ _ _ _ _ _ _ _ _ _ _ _ _ _ _ _ _ _ _ _ _ _ _ _ _ _ _ _ _ _ _ _ _ _ _ _ _ _ _ _ _ _ _ _ _ _ _ _ _ _ _ _ _ _ _ _ _ _ _ _)
end Go.Proofs.YtegeboijhifmcaaGreatDoor
