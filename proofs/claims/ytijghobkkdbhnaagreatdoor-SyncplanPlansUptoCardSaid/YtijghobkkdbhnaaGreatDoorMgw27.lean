/- A part. -/
import Derived.Test.YtijghobkkdbhnaaGreatDoorMgw23
import Derived.Test.YtijghobkkdbhnaaGreatDoorMgw22
import Derived.Test.YtijghobkkdbhnaaGreatDoorMgw25
set_option linter.unusedVariables false
set_option linter.unusedSimpArgs false
set_option maxHeartbeats 16000000
set_option maxRecDepth 100000
namespace Go.Proofs.YtijghobkkdbhnaaGreatDoor
open Go.Proofs.Tryz
open Go.RowKit
theorem ret_i {k:IntKind}{a b:Int}(h:a=b):Ending.returned (.int k a)=.returned (.int k b):=by rw[h]
theorem zia (b:Int)(k l x:Bool)(w:World):
  Calls prog 206 #[.agg #[.int .i64 b,.bool k,.bool l,.bool x]] w fun e w'=>e=.returned (.int .i64 (z2k 90 (z2j b k x)))∧Below w.heap.size w w':=by
 by_cases h0:1≤b∧b≤3
 ·have hb:b=1∨b=2∨b=3:=by omega
  rcases hb with rfl | rfl | rfl <;> cases k <;> cases x
  all_goals
   go_enter func206,ntmps206;go_wp2
   go_ret;exact⟨rfl,(Below.refl _ _).alloc (Nat.le_refl _) _⟩
 ·have H:Hid (z2j b k x=false):=hd_ (by
   unfold z2j;have h1:(b == 1)=false:=by rw[beq_eq_false_iff_ne];omega
   have h2:(b == 2)=false:=by rw[beq_eq_false_iff_ne];omega
   have h3:(b == 3)=false:=by rw[beq_eq_false_iff_ne];omega
   simp [h1,h2,h3])
  by_cases hb:b<1
  ·clear h0;go_enter func206,ntmps206;go_wp2
   go_ret;exact⟨ret_i (by rw[H.out];rfl),(Below.refl _ _).alloc (Nat.le_refl _) _⟩
  ·have hb3:3<b:=by omega
   clear h0;go_enter func206,ntmps206;go_wp2
   go_ret;exact⟨ret_i (by rw[H.out];rfl),(Below.refl _ _).alloc (Nat.le_refl _) _⟩
variable {f : ByteArray → Option Rev} {b : ByteArray} {x : Edt}
def zma (w:World)(v:Value)(b:Bool)(e:Ending)(w':World):Prop:=Below w.heap.size w w'∧∃ H n c,e=.returned (.agg #[v,.bool b,.slice H n c])
theorem zmb (T:Code)(hT:Tryz.f63.body.bind (zi2 9)=some T)(w W:World)(A:Option Addr)(n a g2 g4:Nat)(b:Bool)(hP:zbt W g2 (.slice A n a) b)(hR:Blk W g4 78 [.slice none 0 0,.bool false,.slice none 0 0])(hb:Below w.heap.size w W)(h4:w.heap.size≤g4)
  (u0 u1 u3 u6 u7 u8 u9 gz gA gC gD gE gF gG gH gI gJ gK gL gM gN gO gP gQ gR gT gV gW gX gY gZ i6 i7 i8 ia ib ic ie ig ii ij ik il im io ip iq ir iu iv iw ix iy iz iA iB iC iD iE iF iG iH iI iJ iK iL iM iN iO iP iQ iR iS iT iU iV iW iX iY iZ j0 j1 j2 j5 j6 j7 j8 j9 jb jd jf jg jh ji jj jk jl bB bD bE bF bG bH bI bJ bK bL bM bN bO bP bQ bT bU bV bW bX bY bZ:Value):
  T.wp prog (bodyPost prog Tryz.f63 (zma w (.slice A n a) b)) ⟨#[u0,u1,.pointer (some ⟨g2,0,none⟩),u3,.pointer (some ⟨g4,0,none⟩),.slice none 0 0,u6,u7,u8,u9,gz,gA,gC,gD,gE,gF,gG,gH,gI,gJ,gK,gL,gM,gN,gO,gP,gQ,gR,gT,gV,gW,gX,gY,gZ,i6,i7,i8,ia,ib,ic,ie,ig,ii,ij,ik,il,im,io,ip,iq,ir,iu,iv,iw,ix,iy,iz,iA,iB,iC,iD,iE,iF,iG,iH,iI,iJ,iK,iL,iM,iN,iO,iP,iQ,iR,iS,iT,iU,iV,iW,iX,iY,iZ,j0,j1,j2,j5,j6,j7,j8,j9,jb,jd,jf,jg,jh,ji,jj,jk,jl,bB,bD,bE,bF,bG,bH,bI,bJ,bK,bL,bM,bN,bO,bP,bQ,bT,bU,bV,bW,bX,bY,bZ],[]⟩ W:=by
 simp only[Tryz.f63,Option.bind_some,zi2,zi1] at hT
 simp at hT
 subst hT;have HP:=hd_ hP;have HR:=hd_ hR;have HB:=hd_ hb;clear hP hR hb;go_wp2_with fail;go_loopw [38] (fun i wr=>i=.int .i64 0∧wr=W) (fun i _=>0)
 case atStart=>exact⟨rfl,rfl⟩
 case round =>
  obtain⟨rfl,rfl⟩:=hrel;have x0:=HP.out.c0;have x1:=HP.out.c1;go_wp2_with fail;have hX:Below wr.heap.size wr (wr.alloc (.cells #[.slice A n a,.bool b,.slice none 0 0] 78)):=(Below.refl _ _).alloc (Nat.le_refl _) _;have HZ:=hd_ (z0l wr [.slice A n a,.bool b,.slice none 0 0] 78);have HR2:=hd_ (HR.out.below hX HR.out.lt);have HB2:=hd_ (z0r HB.out hX);have HLT:=hd_ HR.out.lt;clear hX x0 x1;generalize wr.alloc (.cells #[.slice A n a,.bool b,.slice none 0 0] 78)=W2 at HZ HR2 HB2 ⊢;generalize wr.heap.size=g12 at HZ HLT ⊢;go_loopw [81] (fun i wr=>i=.int .i64 0∧wr=W2) (fun i _=>0)
  case atStart=>exact⟨rfl,rfl⟩
  case round =>
   obtain⟨rfl,rfl⟩:=hrel;obtain⟨z0,z1,z2⟩:=(⟨HZ.out.cell 0,HZ.out.cell 1,HZ.out.cell 2⟩:wr.cell? ⟨g12,0,none⟩=some (.slice A n a)∧wr.cell? ⟨g12,1,none⟩=some (.bool b)∧wr.cell? ⟨g12,2,none⟩=some (.slice none 0 0));obtain⟨u0,u1,u2⟩:=(⟨HR2.out.cell 0,HR2.out.cell 1,HR2.out.cell 2⟩:wr.cell? ⟨g4,0,none⟩=some (.slice none 0 0)∧wr.cell? ⟨g4,1,none⟩=some (.bool false)∧wr.cell? ⟨g4,2,none⟩=some (.slice none 0 0));obtain⟨v0,v1,v2⟩:=(⟨HR2.out.frozen 0,HR2.out.frozen 1,HR2.out.frozen 2⟩:wr.frozen? ⟨g4,0,none⟩=false∧wr.frozen? ⟨g4,1,none⟩=false∧wr.frozen? ⟨g4,2,none⟩=false);go_wp2_with fail;have hE:=((HR2.out.set_ 0 (.slice A n a)).set_ 1 (.bool b)).set_ 2 (.slice none 0 0);have hb:=((HB2.out.setCell (p:=⟨g4,0,none⟩) h4 (.slice A n a)).setCell (p:=⟨g4,1,none⟩) h4 (.bool b)).setCell (p:=⟨g4,2,none⟩) h4 (.slice none 0 0);generalize ((wr.setCell ⟨g4,0,none⟩ (.slice A n a)).setCell ⟨g4,1,none⟩ (.bool b)).setCell ⟨g4,2,none⟩ (.slice none 0 0)=W3 at hE hb ⊢;have e0:=hE.cell 0;have e1:=hE.cell 1;have e2:=hE.cell 2;exact bodyPost_ret (v:=.agg #[.slice A n a,.bool b,.slice none 0 0]) (by simp [results,results63,go_sem,e0,e1,e2]) rfl ⟨hb,_,_,_,rfl⟩
open Go.Sort (grow)
structure SmSt (w W wr:World)(A:Option Addr)(n a g4 g12:Nat)(b:Bool)(hv:Value):Prop where
 low:Below W.heap.size W wr
 res:Blk wr g4 78 [.slice none 0 0,.bool false,.slice none 0 0]
 box:Blk wr g12 78 [.slice A n a,.bool b,hv]
theorem SmSt.under {w W wr wx:World}{A:Option Addr}{n a g4 g12:Nat}{b:Bool}{hv:Value}(h:SmSt w W wr A n a g4 g12 b hv)(hb:Below wr.heap.size wr wx):SmSt w W wx A n a g4 g12 b hv:=
 ⟨z0r h.low hb,h.res.below hb h.res.lt,h.box.below hb h.box.lt⟩
theorem zmc (T:Code)(hT:Tryz.f63.body.bind (zi2 9)=some T)(w W:World)(A Am:Option Addr)(n a g2 g4 g cap nm cm:Nat)(b bm:Bool)(hP:zbt W g2 (.slice A n a) b)(hR:Blk W g4 78 [.slice none 0 0,.bool false,.slice none 0 0])(hb:Below w.heap.size w W)(h4:w.heap.size≤g4)(hc:1≤cap)
  (hm0:W.cell? ⟨g,0,none⟩=some (.slice Am nm cm)) (hm1:W.cell? ⟨g,1,none⟩=some (.bool bm))
  (u0 u1 u3 u6 u7 u8 u9 gz gA gC gD gE gF gG gH gI gJ gK gL gM gN gO gP gQ gR gT gV gW gX gY gZ i6 i7 i8 ia ib ic ie ig ii ij ik il im io ip iq ir iu iv iw ix iy iz iA iB iC iD iE iF iG iH iI iJ iK iL iM iN iO iP iQ iR iS iT iU iV iW iX iY iZ j0 j1 j2 j5 j6 j7 j8 j9 jb jd jf jg jh ji jj jk jl bB bD bE bF bG bH bI bJ bK bL bM bN bO bP bQ bT bU bV bW bX bY bZ:Value):
  T.wp prog (bodyPost prog Tryz.f63 (zma w (.slice A n a) b)) ⟨#[u0,u1,.pointer (some ⟨g2,0,none⟩),u3,.pointer (some ⟨g4,0,none⟩),.slice (some ⟨g,0,none⟩) 1 cap,u6,u7,u8,u9,gz,gA,gC,gD,gE,gF,gG,gH,gI,gJ,gK,gL,gM,gN,gO,gP,gQ,gR,gT,gV,gW,gX,gY,gZ,i6,i7,i8,ia,ib,ic,ie,ig,ii,ij,ik,il,im,io,ip,iq,ir,iu,iv,iw,ix,iy,iz,iA,iB,iC,iD,iE,iF,iG,iH,iI,iJ,iK,iL,iM,iN,iO,iP,iQ,iR,iS,iT,iU,iV,iW,iX,iY,iZ,j0,j1,j2,j5,j6,j7,j8,j9,jb,jd,jf,jg,jh,ji,jj,jk,jl,bB,bD,bE,bF,bG,bH,bI,bJ,bK,bL,bM,bN,bO,bP,bQ,bT,bU,bV,bW,bX,bY,bZ],[]⟩ W:=by
 simp only[Tryz.f63,Option.bind_some,zi2,zi1] at hT
 simp at hT
 subst hT;have HP:=hd_ hP;have HR:=hd_ hR;have HB:=hd_ hb;have HM:Hid (∀ X,Below W.heap.size W X→X.cell? ⟨g,0,none⟩=some (.slice Am nm cm)∧X.cell? ⟨g,1,none⟩=some (.bool bm)):=hd_ fun X hX=>⟨z04 hm0 hX (z03 hm0),z04 hm1 hX (z03 hm1)⟩;clear hP hR hb hm0 hm1;go_wp2_with fail;go_loopw [38] (fun i wr=>∃ k:Nat,i=.int .i64 k∧k≤1∧Hid (Below W.heap.size W wr)) (fun i _=>1 - (intOf i).toNat)
 case atStart=>exact⟨0,rfl,Nat.zero_le _,hd_ (Below.refl _ _)⟩
 case round =>
  obtain⟨k,rfl,hk,HI⟩:=hrel;by_cases hlt:k<1
  ·have hk0:k=0:=by omega
   subst hk0;go_wp2_with fail;have HW:=hd_ HI.out;generalize hgw:wr=wo at HW ⊢;clear hgw;go_loopw [11] (fun i wq=>i=.int .i64 0∧Hid (Below wo.heap.size wo wq)) (fun i _=>0)
   case atStart=>exact⟨rfl,hd_ (Below.refl _ _)⟩
   case round =>
    obtain⟨rfl,HJ⟩:=hrel;go_wp2_with fail;refine wp_region_quiet_below (by kernel_rfl) (by kernel_rfl) ?_
    repeat (first | go_big_quiet_step (fail) | quiet_step (fail))
    refine wpQuiet_nil ?_;intro _ hw9;obtain⟨⟨dq,osq⟩,hw9⟩:=hw9;subst hw9;have HN:=hd_ (z0r HW.out (z0r HJ.out (below_regrown wr dq osq)));generalize grow (redrawn wr dq) osq=W1 at HN ⊢;go_wp2_with fail;go_roundw
    case rel=>exact⟨1,by go_num,Nat.le_refl _,HN⟩
    case measure=>simp [intOf]
  ·have hk1:k=1:=by omega
   subst hk1;generalize hz:((1:Nat):Int)=z;have hz2:z=1:=by omega
   subst hz2;clear hz;have x0:=(HP.out.low HI.out).c0;have x1:=(HP.out.low HI.out).c1;have HIW:=hd_ HI.out;have HR1:=hd_ (HR.out.below HI.out HR.out.lt);have hX:Below wr.heap.size wr (wr.alloc (.cells #[.slice A n a,.bool b,.slice none 0 0] 78)):=(Below.refl _ _).alloc (Nat.le_refl _) _;have HS:Hid (SmSt w W (wr.alloc (.cells #[.slice A n a,.bool b,.slice none 0 0] 78)) A n a g4 wr.heap.size b (.slice none 0 0)):=hd_ ⟨z0r HI.out hX,HR1.out.below hX HR1.out.lt,z0l wr _ _⟩;have HG:Hid (W.heap.size≤wr.heap.size):=hd_ HI.out.size;have HNE:Hid (g4<wr.heap.size):=hd_ (Nat.lt_of_lt_of_le HR.out.lt HI.out.size);clear hX HI;go_wp2_with fail;clear x0 x1;generalize wr.alloc (.cells #[.slice A n a,.bool b,.slice none 0 0] 78)=W2 at HS ⊢;generalize wr.heap.size=g12 at HS HG HNE ⊢;go_loopw [81] (fun i wr=>∃(k:Nat) (H:Option Addr) (nh ch:Nat),i=.int .i64 k∧k≤1∧(k=0→Value.slice H nh ch=.slice none 0 0)∧Hid (SmSt w W wr A n a g4 g12 b (.slice H nh ch))) (fun i _=>1 - (intOf i).toNat)
   case atStart=>exact⟨0,none,0,0,rfl,Nat.zero_le _,fun _=>rfl,HS⟩
   case round =>
    obtain⟨k,H,nh,ch,rfl,hk,hnil,HJ⟩:=hrel;clear HS;by_cases hlt:k<1
    ·have hk0:k=0:=by omega
     subst hk0;have hv:=hnil rfl;injection hv with hv1 hv2 hv3
     subst hv1 hv2 hv3;obtain⟨s0,s1⟩:=HM.out wr HJ.out.low;have hX:Below wr.heap.size wr (wr.alloc (.cells #[.slice Am nm cm,.bool bm] 68)):=(Below.refl _ _).alloc (Nat.le_refl _) _;have HJ5:=hd_ (HJ.out.under hX);have HX5:=hd_ (z0l wr [.slice Am nm cm,.bool bm] 68);clear hnil hX;go_upto_region 22 with fail;clear s0 s1;generalize wr.alloc (.cells #[.slice Am nm cm,.bool bm] 68)=W5 at HJ5 HX5 ⊢;generalize wr.heap.size=g14 at HX5 ⊢;go_wp2_with fail;go_loopw [15,88] (fun z i wq=>∃ j:Nat,z=.bool true∧i=.int .i64 j∧j≤1∧Hid (Below W5.heap.size W5 wq)) (fun _ i _=>1 - (intOf i).toNat)
     case atStart=>exact⟨0,rfl,rfl,Nat.zero_le _,hd_ (Below.refl _ _)⟩
     case round =>
      obtain⟨j,rfl,rfl,hj,HK⟩:=hrel;by_cases hlt2:j<1
      ·have hj0:j=0:=by omega
       subst hj0;obtain⟨s0,s1⟩:=HM.out wr (z0r HJ5.out.low HK.out);have hX:Below wr.heap.size wr (wr.alloc (.cells #[.slice Am nm cm,.bool bm] 68)):=(Below.refl _ _).alloc (Nat.le_refl _) _;have HN:=hd_ (z0r HK.out hX);clear hX;go_wp2_with fail;go_roundw
       case rel=>exact⟨1,rfl,by go_num,Nat.le_refl _,HN⟩
       case measure=>simp [intOf]
      ·have hj1:j=1:=by omega
       subst hj1;have HJ6:=hd_ (HJ5.out.under HK.out);have HX6:=hd_ (HX5.out.below HK.out HX5.out.lt);clear HK;obtain⟨y0,y1⟩:=(⟨HX6.out.cell 0,HX6.out.cell 1⟩:wr.cell? ⟨g14,0,none⟩=some (.slice Am nm cm)∧wr.cell? ⟨g14,1,none⟩=some (.bool bm));have z2:wr.cell? ⟨g12,2,none⟩=some (.slice none 0 0):=HJ6.out.box.cell 2;have hba:Below wr.heap.size wr (wr.alloc (.cells #[.slice Am nm cm,.bool bm] 68)):=(Below.refl _ _).alloc (Nat.le_refl _) _;have HJ7:=hd_ (HJ6.out.under hba);have hrow:=z0i wr [.slice Am nm cm,.bool bm] 68 2 1 rfl (by unfold maxLen;omega) wr.heap.size rfl
       have HON:=hd_ (World.ownsRow_nil (wr.alloc (.cells #[.slice Am nm cm,.bool bm] 68)) (wr.alloc (.cells #[.slice Am nm cm,.bool bm] 68)).heap.size 68 2);clear hba;go_wp2_with (at_builtin;refine z0j rfl rfl zdi HON.out rfl hrow rfl (by simp [Value.oneCell']) (by omega) (by unfold maxLen;omega) (Nat.le_refl _) ?_;intro A' c' w6 hown hgr hob;have hb6:=zlv hgr rfl;have hbx:=(HJ7.out.under hb6).box;have zf:=Blk.frozen hbx 2;have zc:=Blk.cell hbx 2)
       have HJ8:=hd_ (HJ7.out.under hb6);have HN:Hid (SmSt w W (w6.setCell ⟨g12,2,none⟩ (.slice A' (0+1) c')) A n a g4 g12 b (.slice A' (0+1) c')):=hd_ ⟨HJ8.out.low.setCell (p:=⟨g12,2,none⟩) HG.out _,Blk.far HJ8.out.res (p:=⟨g12,2,none⟩) (by have:=HNE.out;simp;omega) _,HJ8.out.box.set_ 2 _⟩
       clear hown hgr hob hb6 hbx zf zc y0 y1 z2 hrow;go_wp2_with fail;go_roundw
       case rel=>exact⟨1,A',0+1,c',by go_num,Nat.le_refl _,fun h=>by omega,HN⟩
       case measure=>simp [intOf]
    ·have hk1:k=1:=by omega
     subst hk1;obtain⟨z0,z1,z2⟩:=(⟨HJ.out.box.cell 0,HJ.out.box.cell 1,HJ.out.box.cell 2⟩:wr.cell? ⟨g12,0,none⟩=some (.slice A n a)∧wr.cell? ⟨g12,1,none⟩=some (.bool b)∧wr.cell? ⟨g12,2,none⟩=some (.slice H nh ch));obtain⟨u0,u1,u2⟩:=(⟨HJ.out.res.cell 0,HJ.out.res.cell 1,HJ.out.res.cell 2⟩:wr.cell? ⟨g4,0,none⟩=some (.slice none 0 0)∧wr.cell? ⟨g4,1,none⟩=some (.bool false)∧wr.cell? ⟨g4,2,none⟩=some (.slice none 0 0));obtain⟨v0,v1,v2⟩:=(⟨HJ.out.res.frozen 0,HJ.out.res.frozen 1,HJ.out.res.frozen 2⟩:wr.frozen? ⟨g4,0,none⟩=false∧wr.frozen? ⟨g4,1,none⟩=false∧wr.frozen? ⟨g4,2,none⟩=false);have HB2:=hd_ (z0r HB.out HJ.out.low);have HR2:=hd_ HJ.out.res;clear hnil;go_wp2_with fail;have hE:=((HR2.out.set_ 0 (.slice A n a)).set_ 1 (.bool b)).set_ 2 (.slice H nh ch);have hb:=((HB2.out.setCell (p:=⟨g4,0,none⟩) h4 (.slice A n a)).setCell (p:=⟨g4,1,none⟩) h4 (.bool b)).setCell (p:=⟨g4,2,none⟩) h4 (.slice H nh ch);generalize ((wr.setCell ⟨g4,0,none⟩ (.slice A n a)).setCell ⟨g4,1,none⟩ (.bool b)).setCell ⟨g4,2,none⟩ (.slice H nh ch)=W3 at hE hb ⊢;have e0:=hE.cell 0;have e1:=hE.cell 1;have e2:=hE.cell 2;exact bodyPost_ret (v:=.agg #[.slice A n a,.bool b,.slice H nh ch]) (by simp [results,results63,go_sem,e0,e1,e2]) rfl ⟨hb,_,_,_,rfl⟩
theorem znk (es:List zdd)(v:Value)(p:ByteArray)(w:World)(he:Env w)(hE:zdn w v es)(hl32:es.length≤32)(hz:p.size≤1000000)
  (hC:Calls prog 7 #[v] w fun e w'=>e=.returned (.tuple #[.int .i64 0,.int .i64 0])∧Below w.heap.size w w')
  (hF:∀ x∈es,∀ X,Below w.heap.size w X→Calls prog 138 #[.agg #[.bool false,x.l.v,.bool x.l.1.rest,x.r.v,.bool x.r.1.rest],.string p] X (zc8 X (zc7 x.l.1 x.r.1 p))):
  Calls prog 38 #[v,.string p] w (zc8 w (zdy es p)):=by
 obtain⟨A,c,rfl,-⟩:=id hE.1;have HC:=hd_ hC;have HB:=hd_ (fun X (hX:Below w.heap.size w X)=>rBy_ok es _ p X (he.below hX) (hE.below hX) hl32 hz (fun x hx Y hY=>hF x hx Y (z0r hX hY)));generalize zdy es p=o at HB ⊢;clear he hE hC hF;go_enter func38,ntmps38;go_upto_region 1 with fail;go_wp2_with fail;refine HC.out.mono ?_;rintro e w2 ⟨rfl,hb⟩;dsimp only;have HB2:=hd_ hb;have HY:=hd_ (HB.out w2 hb);clear hb HC HB;go_wp2_with fail;refine HY.out.mono ?_;rintro e w3 ⟨rfl,hb⟩;dsimp only;have HB3:=hd_ (z0r HB2.out hb);clear hb HY;go_wp2_with fail;go_ret2;exact⟨rfl,HB3.out⟩
structure Cnk where
 s:Int
 z:Int
 A:Option Addr
 n:Nat
 c:Nat
def Cnk.cells (x:Cnk):List Value:=[.int .u64 x.s,.int .i64 x.z,.slice x.A x.n x.c]
theorem cnkElem:z0e prog 59 225 3 40:=z0f underlying59 (z:=.agg #[.int .u64 0,.int .i64 0,.slice none 0 0]) (by kernel_rfl) rfl (by decide)
theorem eql_cid (a b c d:Int)(W:World):(binOp .eql 88 (.agg #[.int .u64 a,.int .i64 b]) (.agg #[.int .u64 c,.int .i64 d])).run prog W=.ok (.bool (decide (a=c) && decide (b=d))) W:=by
 rw[run_eql_struct,run_equalIn_agg W 9999 88 _ _ (by kernel_rfl) (by kernel_rfl)]
 simp [go_sem,Op.eqFields]
 by_cases h1:a=c <;> by_cases h2:b=d <;> simp [h1,h2]
structure WsB (w wr:World)(U g gw m:Nat)(D:List Rev)(dv dr cv:Value)(l:List Cnk):Prop where
 kept:z6y [g] w wr
 tape:zgm wr U g m
 box:Blk wr gw 61 [dv,dr,cv]
 cnk:wr.ownsRow (gw+1) 225 3 cv l.length (l.flatMap Cnk.cells)
 revs:z45 wr dv D
 gU:g<U
 UU:U≤w.heap.size
 le:w.heap.size≤gw
 far:∀ x,dv.ownBlock=some x→x≠gw∧x<wr.heap.size∧cv.ownBlock≠some x
theorem Row.heap {w w':World}{size n:Nat}{v:Value}{xs:List Value}(h:Row w size v n xs)(hs:w.heap.size≤w'.heap.size)(hk:∀ x,x<w.heap.size→v.ownBlock=some x→w'.heap[x]? = w.heap[x]?):Row w' size v n xs:=by
 obtain⟨A,c,rfl,hc,hm,hl,h0,hr⟩:=h;refine⟨A,c,rfl,hc,hm,hl,h0,fun hn=>?_⟩;obtain⟨ad,rfl,hb,hcell⟩:=hr hn;refine⟨ad,rfl,by omega,fun j u hu=>?_⟩
 rw[← hcell j u hu];refine World.cell?_of_block ?_;rw[z00];exact hk _ hb rfl
section
variable {w wr w' : World} {U g gw m m' : Nat} {D : List Rev} {dv dr cv : Value} {l : List Cnk}
theorem WsB.next (h:WsB w wr U g gw m D dv dr cv l)(hK:z6y [g] wr w')(hT:zgm w' U g m'):WsB w w' U g gw m' D dv dr cv l:=by
 have h1:=h.gU;have h2:=h.UU;have h3:=h.le;refine⟨h.kept.trans hK,hT,hK.blk h.box (by simp;omega),zl2 h.cnk hK (fun x hx=>by have:=(h.cnk.lt x hx).1;simp;omega),z45.keptN h.revs hK h.tape.nosb,h1,h2,h3,fun x hx=>⟨(h.far x hx).1,Nat.lt_of_lt_of_le (h.far x hx).2.1 hK.size,(h.far x hx).2.2⟩⟩
theorem WsB.under (h:WsB w wr U g gw m D dv dr cv l)(hb:Below wr.heap.size wr w'):WsB w w' U g gw m D dv dr cv l:=h.next (z6y.below hb) (h.tape.below hb)
theorem WsB.turn {w5:World}{cv':Value}{l':List Cnk}(h:WsB w wr U g gw m D dv dr cv l)(hg:wr.grownBy w5 cv.ownBlock)(ho:w5.ownsRow (gw+1) 225 3 cv' l'.length (l'.flatMap Cnk.cells))(hob:cv'.ownBlock=cv.ownBlock∨cv'.ownBlock=some wr.heap.size):
  WsB w (w5.setCell ⟨gw,2,none⟩ cv') U g gw m D dv dr cv' l':=by
 have h1:=h.gU;have h2:=h.UU;have h3:=h.le;have hbl:=h.box.lt;have hlt:=h.cnk.lt;have hne:some gw≠cv.ownBlock:=fun e=>by have:=(hlt gw e.symm).1;omega
 have hne':cv'.ownBlock≠some gw:=by
  rcases hob with e | e
  ·rw[e];exact fun e=>hne e.symm
  ·rw[e];intro e2;injection e2 with e2;omega
 have hk:z6y [g] w w5:=h.kept.grown_own hg (fun x e=>by have:=(hlt x e).1;omega)
 have hb5:Below w.heap.size w5 (w5.setCell ⟨gw,2,none⟩ cv'):=(Below.refl _ _).setCell (p:=⟨gw,2,none⟩) h3 _;have ht5:zgm w5 U g m:=h.tape.keep hg.size (fun x hx=>hg.block x (by have:=h.kept.size;omega) (fun e=>by have:=(hlt x e.symm).1;omega))
 refine⟨hk.onto hb5,ht5.onto h2 hb5,(h.box.grown hg hne).set_ 2 cv',z4r ho (p:=⟨gw,2,none⟩) hne' _,?_,h1,h2,h3,fun x hx=>⟨(h.far x hx).1,Nat.lt_of_lt_of_le (h.far x hx).2.1 (Nat.le_trans hg.size hb5.size),?_⟩⟩
 ·have hr5:z45 w5 dv D:=Row.heap h.revs hg.size (fun x hx e=>hg.block x hx (fun e2=>(h.far x e).2.2 e2.symm));exact Row.set_far hr5 (fun e=>(h.far gw e).1 rfl)
 ·rcases hob with e | e
  ·rw[e];exact (h.far x hx).2.2
  ·rw[e];intro e2;injection e2 with e2;have:=(h.far x hx).2.1;omega
def FdPost (w:World)(e:Ending)(w':World):Prop:=(∃(A:Option Addr) (n c:Nat) (b:Bool),e=.returned (.tuple #[.slice A n c,.bool b]))∧Below w.heap.size w w'
theorem Cnk.at_ {w:World}{B:Nat}{A:Option Addr}{c:Nat}{l:List Cnk}(h:w.ownsRow B 225 3 (.slice A l.length c) l.length (l.flatMap Cnk.cells)){k:Nat}(hk:k<l.length):
  ∃ ad,A=some ad∧w.cell? (ad.add (k * 3))=some (.int .u64 l[k].s)∧w.cell? ⟨(ad.add (k * 3)).block,(ad.add (k * 3)).off+1,none⟩=some (.int .i64 l[k].z)∧w.cell? ⟨(ad.add (k * 3)).block,(ad.add (k * 3)).off+2,none⟩=some (.slice l[k].A l[k].n l[k].c):=by
 obtain⟨ad,e,hb,hc⟩:=z49 (f:=Cnk.cells) (n:=3) (fun _=>rfl) (Row.of_own h) hk;exact⟨ad,e,hc 0 _ rfl,hc 1 _ rfl,hc 2 _ rfl⟩
theorem zoq (h:WsB w wr U g gw m D dv dr cv l)(s z:Int)(hl:l.length≤1000000):
  Calls prog 163 #[.pointer (some ⟨gw,0,none⟩),.agg #[.int .u64 s,.int .i64 z]] wr (FdPost wr):=by
 obtain⟨A,c,rfl⟩:=z0o h.cnk;have hA:Below wr.heap.size wr (wr.alloc (.cells #[.int .u64 s,.int .i64 z] 88)):=(Below.refl _ _).alloc (Nat.le_refl _) _;have HX:=hd_ (z0l wr [.int .u64 s,.int .i64 z] 88);have HB:=hd_ h.box;have HC:=hd_ h.cnk;have HA:=hd_ hA;clear h hA;go_enter func163,ntmps163;go_upto_region 1 with fail;generalize wr.alloc (.cells #[.int .u64 s,.int .i64 z] 88)=W1 at HX HA ⊢;generalize wr.heap.size=g3 at HX ⊢;go_wp2_with fail;go_loopw [6] (fun i wx=>∃ k:Nat,i=.int .i64 k∧k≤l.length∧Hid (Below W1.heap.size W1 wx)) (fun i _=>l.length - (intOf i).toNat)
 case atStart=>exact⟨0,rfl,Nat.zero_le _,hd_ (Below.refl _ _)⟩
 case round =>
  obtain⟨k,rfl,hk,HI⟩:=hrel;have HBX:=hd_ (z0r HA.out HI.out);have hb2:=(HB.out.below HBX.out HB.out.lt).cell 2;have b2:wr.cell? ⟨gw,2,none⟩=some (.slice A l.length c):=hb2;clear hb2;by_cases hlt:k<l.length
  ·obtain⟨ad,rfl,c0,c1,c2⟩:=Cnk.at_ (z0n HC.out HBX.out) hlt;have hX:=HX.out.below HI.out HX.out.lt;have x0:wr.cell? ⟨g3,0,none⟩=some (.int .u64 s):=hX.cell 0;have x1:wr.cell? ⟨g3,1,none⟩=some (.int .i64 z):=hX.cell 1;generalize l[k]=y at c0 c1 c2;obtain⟨s',z',A',n',c'⟩:=y;dsimp only at c0 c1 c2
   have heq:=eql_cid s' z' s z;generalize (decide (s'=s) && decide (z'=z))=b at heq;have hzk:(k:Int)<(l.length:Int):=by omega
   have HLT:=hd_ hlt;clear hX hlt;go_upto_region 4 with fail;go_quiet (fail)
   clear heq;cases b with
   | true =>
    go_wp2_with fail;go_ret2;exact⟨⟨_,_,_,_,rfl⟩,z0p HBX.out _⟩
   | false =>
    go_wp2_with fail;go_roundw
    case rel=>exact⟨k+1,by go_num,by have:=HLT.out;omega,hd_ (z0p HI.out _)⟩
    case measure=>have:=HLT.out;simp [intOf];omega
  ·have hke:k=l.length:=by omega
   subst hke;have hge:¬((l.length:Int)<(l.length:Int)):=by omega
   go_wp2_with fail;go_ret2;exact⟨⟨none,0,0,false,rfl⟩,HBX.out⟩
end
