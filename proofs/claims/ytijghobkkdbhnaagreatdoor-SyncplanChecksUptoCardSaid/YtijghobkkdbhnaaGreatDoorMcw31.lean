/- A part. -/
import Derived.Test.YtijghobkkdbhnaaGreatDoorMcw29
set_option linter.unusedVariables false
set_option linter.unusedSimpArgs false
set_option maxHeartbeats 16000000
set_option maxRecDepth 100000
namespace Go.Proofs.YtijghobkkdbhnaaGreatDoor
open Go.Proofs.Tryz
open Go.RowKit
open Go.Sort (grow)
theorem z57.tail2 {w:World}{ad:Addr}{c n:Nat}{x:Syn}{r:List Syn}(h:z57 w (.slice (some ad) n c) (x :: r)):
  z57 w (.slice (if c=1 then some ad else some ⟨ad.block,ad.off+5,none⟩) r.length (c - 1)) r:=by
 obtain⟨A,c',e,h1,h2,h3,h4,h5⟩:=id h;injection e with e1 e2 e3
 subst e1 e3;rw[List.length_cons] at h1 h5;refine⟨_,_,rfl,by omega,by omega,by
  rw[List.flatMap_cons,List.length_append,List.length_cons] at h3;have h9:x.cells.length=5:=rfl;omega,?_,fun hr=>?_⟩
 ·intro hn;split at hn <;> cases hn
 obtain⟨ad',e',hb,hc⟩:=h5 (by omega)
 injection e' with e'
 subst e';rw[if_neg (by omega)]
 refine⟨_,rfl,hb,fun j u hj=>?_⟩;have:=hc (j+5) u (by
  rw[List.flatMap_cons,List.getElem?_append_right (by simp [Syn.cells])]
  simpa [Syn.cells] using hj)
 unfold Addr.add at this ⊢
 by_cases h0:j=0
 ·subst h0;simpa using this
 ·simpa [Nat.add_assoc,Nat.add_comm 5 j,h0] using this
def zix (h:Hav)(hs:List Hav)(ps:List Syn):List Hav:=z50 h.path ps++z54 h (z52 h.path ps)++z56 hs (z55 h (z52 h.path ps))
theorem ziy {h:Hav}{hs:List Hav}{x:Syn}{r:List Syn}(hc:z2z x.path h.path<0):zix h hs (x :: r)=z4z x++zix h hs r:=by
 unfold zix;rw[z50,z52,if_pos hc,if_pos hc,List.append_assoc,List.append_assoc,List.append_assoc]
theorem ziz {h:Hav}{hs:List Hav}:zix h hs []=h :: z56 hs []:=rfl
theorem zj0 {h:Hav}{hs:List Hav}{x:Syn}{r:List Syn}(hc:¬ z2z x.path h.path<0)(hp:x.path=h.path)(hk:z3t x.kind=true):zix h hs (x :: r)=h :: z56 hs r:=by
 unfold zix;rw[z50,z52,if_neg hc,if_neg hc,z54,z55,if_pos hp,if_pos hp,if_pos hk];rfl
theorem resM_go {h:Hav}{hs:List Hav}{x:Syn}{r:List Syn}(hc:¬ z2z x.path h.path<0)(hp:x.path=h.path)(hk:z3t x.kind=false):zix h hs (x :: r)=z4y x++z56 hs r:=by
 unfold zix;rw[z50,z52,if_neg hc,if_neg hc,z54,z55,if_pos hp,if_pos hp,hk];rfl
theorem zj1 {h:Hav}{hs:List Hav}{x:Syn}{r:List Syn}(hc:¬ z2z x.path h.path<0)(hp:¬ x.path=h.path):zix h hs (x :: r)=h :: z56 hs (x :: r):=by
 unfold zix;rw[z50,z52,if_neg hc,if_neg hc,z54,z55,if_neg hp,if_neg hp];rfl
theorem zj2 (p:ByteArray)(l:List Syn):(z50 p l).length+(z52 p l).length≤l.length:=by
 induction l with
 | nil=>simp [z50,z52]
 | cons x r ih =>
  rw[z50,z52];split
  ·have:=ziu x;rw[List.length_append,List.length_cons];omega
  ·simp
theorem zj3 (h:Hav)(l:List Syn):(z54 h l).length+(z55 h l).length≤l.length+1:=by
 cases l with
 | nil=>simp [z54,z55]
 | cons x r =>
  rw[z54,z55];split
  ·have:=zit x;split <;> simp <;> omega
  ·simp;omega
theorem zj4:∀(hs:List Hav) (ps:List Syn),(z56 hs ps).length≤hs.length+ps.length
 | [],ps=>by have:=ziv ps;rw[z56];simpa using this
 | h :: hs,ps=>by
  have h1:=zj2 h.path ps;have h2:=zj3 h (z52 h.path ps);have h3:=zj4 hs (z55 h (z52 h.path ps));rw[z56,List.length_append,List.length_append,List.length_cons];omega
theorem zj5 {O T L:List Hav}{m:Nat}(h:O++T=L)(hl:L.length≤m)(hm:m+1≤1000000):(O.length+1) * 40≤140737488355328:=by
 have:=congrArg List.length h;rw[List.length_append] at this;exact room40 (by omega)
structure SmSt (w W wr:World)(A:Option Addr)(n a g4 g12:Nat)(b:Bool)(hv:Value):Prop where
 low:zB W wr
 res:Blk wr g4 78 [.slice none 0 0,.bool false,.slice none 0 0]
 box:Blk wr g12 78 [.slice A n a,.bool b,hv]
theorem SmSt.under {w W wr wx:World}{A:Option Addr}{n a g4 g12:Nat}{b:Bool}{hv:Value}(h:SmSt w W wr A n a g4 g12 b hv)(hb:zB wr wx):SmSt w W wx A n a g4 g12 b hv:=
 ⟨z0r h.low hb,h.res.below hb h.res.lt,h.box.below hb h.box.lt⟩
theorem zm6 (T:Code)(hT:Tryz.f63.body.bind (zhg 9)=some T)(w W:World)(A Am:Option Addr)(n a g2 g4 g cap nm cm:Nat)(b bm:Bool)(hP:zb5 W g2 (.slice A n a) b)(hR:Blk W g4 78 [.slice none 0 0,.bool false,.slice none 0 0])(hb:zB w W)(h4:w.heap.size≤g4)(hc:1≤cap)
  (hm0:W.cell? ⟨g,0,none⟩=some (.slice Am nm cm)) (hm1:W.cell? ⟨g,1,none⟩=some (.bool bm))
  (u0 u1 u3 u6 u7 u8 u9 gA gC gD gE gF gG gH gI gJ gK gL gM gN gO gP gQ gR gT gV gW gX gY gZ i6 i7 i8 ia ib ic ie ig ii ij ik il im io ip iq ir iu iv iw ix iy iz iA iB iC iD iE iF iG iH iI iJ iK iL iM iN iO iP iQ iR iS iT iU iV iW iX iY iZ j0 j1 j2 j5 j6 j7 j8 j9 jb jd jf jg jh ji jj jk jl jm bE bF bG bH bI bJ bK bL bM bN bO bP bQ bT bU bV bW bX bY bZ cj ck:Value):
  T.wp prog (bodyPost prog Tryz.f63 (zm4 w (.slice A n a) b)) ⟨#[u0,u1,.pointer (some ⟨g2,0,none⟩),u3,.pointer (some ⟨g4,0,none⟩),.slice (some ⟨g,0,none⟩) 1 cap,u6,u7,u8,u9,gA,gC,gD,gE,gF,gG,gH,gI,gJ,gK,gL,gM,gN,gO,gP,gQ,gR,gT,gV,gW,gX,gY,gZ,i6,i7,i8,ia,ib,ic,ie,ig,ii,ij,ik,il,im,io,ip,iq,ir,iu,iv,iw,ix,iy,iz,iA,iB,iC,iD,iE,iF,iG,iH,iI,iJ,iK,iL,iM,iN,iO,iP,iQ,iR,iS,iT,iU,iV,iW,iX,iY,iZ,j0,j1,j2,j5,j6,j7,j8,j9,jb,jd,jf,jg,jh,ji,jj,jk,jl,jm,bE,bF,bG,bH,bI,bJ,bK,bL,bM,bN,bO,bP,bQ,bT,bU,bV,bW,bX,bY,bZ,cj,ck],[]⟩ W:=by
 simp only[Tryz.f63,Option.bind_some,zhg,zhf] at hT
 simp at hT
 subst hT;have HP:=hd_ hP;have HR:=hd_ hR;have HB:=hd_ hb;have HM:Hid (∀ X,zB W X→X.cell? ⟨g,0,none⟩=some (.slice Am nm cm)∧X.cell? ⟨g,1,none⟩=some (.bool bm)):=hd_ fun X hX=>⟨z04 hm0 hX (z03 hm0),z04 hm1 hX (z03 hm1)⟩;clear hP hR hb hm0 hm1;go_wp2_with fail;go_loopw [38] (fun i wr=>∃ k:Nat,i=.int .i64 k∧k≤1∧Hid (zB W wr)) (fun i _=>1 - (intOf i).toNat)
 case atStart=>exact⟨0,rfl,Nat.zero_le _,hd_ (Below.refl _ _)⟩
 case round =>
  obtain⟨k,rfl,hk,HI⟩:=hrel;by_cases hlt:k<1
  ·have hk0:k=0:=by omega
   subst hk0;go_wp2_with fail;have HW:=hd_ HI.out;generalize hgw:wr=wo at HW ⊢;clear hgw;go_loopw [11] (fun i wq=>i=.int .i64 0∧Hid (zB wo wq)) (fun i _=>0)
   case atStart=>exact⟨rfl,hd_ (Below.refl _ _)⟩
   case round =>
    obtain⟨rfl,HJ⟩:=hrel;go_wp2_with fail;refine wp_region_quiet_below (by kernel_rfl) (by kernel_rfl) ?_
    repeat (first | go_big_quiet_step (fail) | quiet_step (fail))
    refine wpQuiet_nil ?_;intro _ hw9;obtain⟨⟨dq,osq⟩,hw9⟩:=hw9;subst hw9;have HN:=hd_ (z0r HW.out (z0r HJ.out (below_regrown wr dq osq)));generalize grow (redrawn wr dq) osq=W1 at HN ⊢;go_wp2_with fail;go_roundw
    case rel=>exact⟨1,by go_num,Nat.le_refl _,HN⟩
    case measure=>simp [intOf]
  ·have hk1:k=1:=by omega
   subst hk1;generalize hz:((1:Nat):Int)=z;have hz2:z=1:=by omega
   subst hz2;clear hz;have x0:=(HP.out.low HI.out).c0;have x1:=(HP.out.low HI.out).c1;have HIW:=hd_ HI.out;have HR1:=hd_ (HR.out.below HI.out HR.out.lt);have hX:zB wr (wr.alloc (.cells #[.slice A n a,.bool b,.slice none 0 0] 78)):=(Below.refl _ _).alloc (Nat.le_refl _) _;have HS:Hid (SmSt w W (wr.alloc (.cells #[.slice A n a,.bool b,.slice none 0 0] 78)) A n a g4 wr.heap.size b (.slice none 0 0)):=hd_ ⟨z0r HI.out hX,HR1.out.below hX HR1.out.lt,z0l wr _ _⟩;have HG:Hid (W.heap.size≤wr.heap.size):=hd_ HI.out.size;have HNE:Hid (g4<wr.heap.size):=hd_ (Nat.lt_of_lt_of_le HR.out.lt HI.out.size);clear hX HI;go_wp2_with fail;clear x0 x1;generalize wr.alloc (.cells #[.slice A n a,.bool b,.slice none 0 0] 78)=W2 at HS ⊢;generalize wr.heap.size=g12 at HS HG HNE ⊢;go_loopw [81] (fun i wr=>∃(k:Nat) (H:Option Addr) (nh ch:Nat),i=.int .i64 k∧k≤1∧(k=0→Value.slice H nh ch=.slice none 0 0)∧Hid (SmSt w W wr A n a g4 g12 b (.slice H nh ch))) (fun i _=>1 - (intOf i).toNat)
   case atStart=>exact⟨0,none,0,0,rfl,Nat.zero_le _,fun _=>rfl,HS⟩
   case round =>
    obtain⟨k,H,nh,ch,rfl,hk,hnil,HJ⟩:=hrel;clear HS;by_cases hlt:k<1
    ·have hk0:k=0:=by omega
     subst hk0;have hv:=hnil rfl;injection hv with hv1 hv2 hv3
     subst hv1 hv2 hv3;obtain⟨s0,s1⟩:=HM.out wr HJ.out.low;have hX:zB wr (wr.alloc (.cells #[.slice Am nm cm,.bool bm] 68)):=(Below.refl _ _).alloc (Nat.le_refl _) _;have HJ5:=hd_ (HJ.out.under hX);have HX5:=hd_ (z0l wr [.slice Am nm cm,.bool bm] 68);clear hnil hX;go_upto_region 22 with fail;clear s0 s1;generalize wr.alloc (.cells #[.slice Am nm cm,.bool bm] 68)=W5 at HJ5 HX5 ⊢;generalize wr.heap.size=g14 at HX5 ⊢;go_wp2_with fail;go_loopw [15,88] (fun z i wq=>∃ j:Nat,z=.bool true∧i=.int .i64 j∧j≤1∧Hid (zB W5 wq)) (fun _ i _=>1 - (intOf i).toNat)
     case atStart=>exact⟨0,rfl,rfl,Nat.zero_le _,hd_ (Below.refl _ _)⟩
     case round =>
      obtain⟨j,rfl,rfl,hj,HK⟩:=hrel;by_cases hlt2:j<1
      ·have hj0:j=0:=by omega
       subst hj0;obtain⟨s0,s1⟩:=HM.out wr (z0r HJ5.out.low HK.out);have hX:zB wr (wr.alloc (.cells #[.slice Am nm cm,.bool bm] 68)):=(Below.refl _ _).alloc (Nat.le_refl _) _;have HN:=hd_ (z0r HK.out hX);clear hX;go_wp2_with fail;go_roundw
       case rel=>exact⟨1,rfl,by go_num,Nat.le_refl _,HN⟩
       case measure=>simp [intOf]
      ·have hj1:j=1:=by omega
       subst hj1;have HJ6:=hd_ (HJ5.out.under HK.out);have HX6:=hd_ (HX5.out.below HK.out HX5.out.lt);clear HK;obtain⟨y0,y1⟩:=(⟨HX6.out.cell 0,HX6.out.cell 1⟩:wr.cell? ⟨g14,0,none⟩=some (.slice Am nm cm)∧wr.cell? ⟨g14,1,none⟩=some (.bool bm));have z2:wr.cell? ⟨g12,2,none⟩=some (.slice none 0 0):=HJ6.out.box.cell 2;have hba:zB wr (wr.alloc (.cells #[.slice Am nm cm,.bool bm] 68)):=(Below.refl _ _).alloc (Nat.le_refl _) _;have HJ7:=hd_ (HJ6.out.under hba);have hrow:=z0i wr [.slice Am nm cm,.bool bm] 68 2 1 rfl (by unfold maxLen;omega) wr.heap.size rfl
       have HON:=hd_ (World.ownsRow_nil (wr.alloc (.cells #[.slice Am nm cm,.bool bm] 68)) (wr.alloc (.cells #[.slice Am nm cm,.bool bm] 68)).heap.size 68 2);clear hba;go_wp2_with (at_builtin;refine z0j rfl rfl zkq HON.out rfl hrow rfl (by simp [Value.oneCell']) (by omega) (by unfold maxLen;omega) (Nat.le_refl _) ?_;intro A' c' w6 hown hgr hob;have hb6:=zlp hgr rfl;have hbx:=(HJ7.out.under hb6).box;have zf:=Blk.frozen hbx 2;have zc:=Blk.cell hbx 2)
       have HJ8:=hd_ (HJ7.out.under hb6);have HN:Hid (SmSt w W (w6.setCell ⟨g12,2,none⟩ (.slice A' (0+1) c')) A n a g4 g12 b (.slice A' (0+1) c')):=hd_ ⟨HJ8.out.low.setCell (p:=⟨g12,2,none⟩) HG.out _,Blk.far HJ8.out.res (p:=⟨g12,2,none⟩) (by have:=HNE.out;simp;omega) _,HJ8.out.box.set_ 2 _⟩
       clear hown hgr hob hb6 hbx zf zc y0 y1 z2 hrow;go_wp2_with fail;go_roundw
       case rel=>exact⟨1,A',0+1,c',by go_num,Nat.le_refl _,fun h=>by omega,HN⟩
       case measure=>simp [intOf]
    ·have hk1:k=1:=by omega
     subst hk1;obtain⟨z0,z1,z2⟩:=(⟨HJ.out.box.cell 0,HJ.out.box.cell 1,HJ.out.box.cell 2⟩:wr.cell? ⟨g12,0,none⟩=some (.slice A n a)∧wr.cell? ⟨g12,1,none⟩=some (.bool b)∧wr.cell? ⟨g12,2,none⟩=some (.slice H nh ch));obtain⟨u0,u1,u2⟩:=(⟨HJ.out.res.cell 0,HJ.out.res.cell 1,HJ.out.res.cell 2⟩:wr.cell? ⟨g4,0,none⟩=some (.slice none 0 0)∧wr.cell? ⟨g4,1,none⟩=some (.bool false)∧wr.cell? ⟨g4,2,none⟩=some (.slice none 0 0));obtain⟨v0,v1,v2⟩:=(⟨HJ.out.res.frozen 0,HJ.out.res.frozen 1,HJ.out.res.frozen 2⟩:wr.frozen? ⟨g4,0,none⟩=false∧wr.frozen? ⟨g4,1,none⟩=false∧wr.frozen? ⟨g4,2,none⟩=false);have HB2:=hd_ (z0r HB.out HJ.out.low);have HR2:=hd_ HJ.out.res;clear hnil;go_wp2_with fail;have hE:=((HR2.out.set_ 0 (.slice A n a)).set_ 1 (.bool b)).set_ 2 (.slice H nh ch);have hb:=((HB2.out.setCell (p:=⟨g4,0,none⟩) h4 (.slice A n a)).setCell (p:=⟨g4,1,none⟩) h4 (.bool b)).setCell (p:=⟨g4,2,none⟩) h4 (.slice H nh ch);generalize ((wr.setCell ⟨g4,0,none⟩ (.slice A n a)).setCell ⟨g4,1,none⟩ (.bool b)).setCell ⟨g4,2,none⟩ (.slice H nh ch)=W3 at hE hb ⊢;have e0:=hE.cell 0;have e1:=hE.cell 1;have e2:=hE.cell 2;exact bodyPost_ret (v:=.agg #[.slice A n a,.bool b,.slice H nh ch]) (by simp [results,results63,go_sem,e0,e1,e2]) rfl ⟨hb,_,_,_,rfl⟩
theorem zna (A:Option Addr)(n a:Nat)(b:Bool)(w:World):
  Calls prog 63 #[.agg #[.slice A n a,.bool b],.slice none 0 0] w (zm4 w (.slice A n a) b):=by
 have h2:=(z0l w [.slice A n a,.bool b] 68).alloc (.cells #[.slice none 0 0,.bool false,.slice none 0 0] 78);have h4:=z0l (w.alloc (.cells #[.slice A n a,.bool b] 68)) [.slice none 0 0,.bool false,.slice none 0 0] 78;have hA:zB w ((w.alloc (.cells #[.slice A n a,.bool b] 68)).alloc (.cells #[.slice none 0 0,.bool false,.slice none 0 0] 78)):=((Below.refl _ _).alloc (Nat.le_refl _) _).alloc (by simp) _
 rw[World.size_alloc] at h4;have H2:=hd_ h2;have H4:=hd_ h4;have HA:=hd_ hA;clear h2 h4 hA;go_enter func63,ntmps63;go_upto_region 1 with fail;generalize (w.alloc (.cells #[.slice A n a,.bool b] 68)).alloc (.cells #[.slice none 0 0,.bool false,.slice none 0 0] 78)=W1 at H2 H4 HA ⊢;go_wp2_with fail;go_loopw [5,20] (fun v i wr=>v=.slice none 0 0∧i=.int .i64 0∧wr=W1) (fun _ i _=>0)
 case atStart=>exact⟨rfl,rfl,rfl⟩
 case round =>
  obtain⟨rfl,rfl,rfl⟩:=hrel;rename ∀ a w,Code.wp _ (Code.seq (Code.seq (Code.region 9 _ _) _) _) _ a w→_=>hk7
  have HK7:=hd_ hk7;clear hk7;go_wp2_with fail;exact HK7.out _ _ (zm5 _ (by kernel_rfl) w wr A n a w.heap.size (w.heap.size+1) b H2.out H4.out HA.out (by omega) _ _ _ _ _ _ _ _ _ _ _ _ _ _ _ _ _ _ _ _ _ _ _ _ _ _ _ _ _ _ _ _ _ _ _ _ _ _ _ _ _ _ _ _ _ _ _ _ _ _ _ _ _ _ _ _ _ _ _ _ _ _ _ _ _ _ _ _ _ _ _ _ _ _ _ _ _ _ _ _ _ _ _ _ _ _ _ _ _ _ _ _ _ _ _ _ _ _ _ _ _ _ _ _ _ _ _ _ _ _ _ _ _ _ _ _ _ _ _)
theorem znb {w:World}{base:Nat}{e:TypeId}{A:Option Addr}{c:Nat}{v0 v1:Value}(h:w.ownsRow base e 2 (.slice A (0+1) c) (0+1) [v0,v1]):
  ∃ g,A=some ⟨g,0,none⟩∧1≤c∧w.cell? ⟨g,0,none⟩=some v0∧w.cell? ⟨g,1,none⟩=some v1:=by
 have h2:=h.2;rcases h2 with⟨-,hn⟩ | ⟨g,cap,cur,hv,-,-,hnc,-⟩
 ·omega
 ·injection hv with e1 e2 e3
  subst e1 e3;exact⟨g,rfl,by omega,h.cells (g:=g) rfl 0 _ rfl,h.cells (g:=g) rfl 1 _ rfl⟩
def SmFst (W wr:World)(k:Nat)(v:Value):Prop:=zB W wr∧(v=.slice none 0 0∨k=1∧∃(g cap:Nat) (A:Option Addr) (n c:Nat) (b:Bool),v=.slice (some ⟨g,0,none⟩) 1 cap∧1≤cap∧wr.cell? ⟨g,0,none⟩=some (.slice A n c)∧wr.cell? ⟨g,1,none⟩=some (.bool b))
theorem znc (p h:Pat)(A B:Option Addr)(a b hg ch:Nat)(w:World)(hp:z9j w (.slice A p.parts.length a) p)(hh:z9j w (.slice B h.parts.length b) h)(hsym:zn4 p h)(hc:1≤ch)(h0:w.cell? ⟨hg,0,none⟩=some (.slice B h.parts.length b))(h1:w.cell? ⟨hg,1,none⟩=some (.bool h.rest)):
  Calls prog 63 #[.agg #[.slice A p.parts.length a,.bool p.rest],.slice (some ⟨hg,0,none⟩) 1 ch] w (zm4 w (.slice A p.parts.length a) p.rest):=by
 have h2:=(z0l w [.slice A p.parts.length a,.bool p.rest] 68).alloc (.cells #[.slice none 0 0,.bool false,.slice none 0 0] 78);have h4:=z0l (w.alloc (.cells #[.slice A p.parts.length a,.bool p.rest] 68)) [.slice none 0 0,.bool false,.slice none 0 0] 78;have hA:zB w ((w.alloc (.cells #[.slice A p.parts.length a,.bool p.rest] 68)).alloc (.cells #[.slice none 0 0,.bool false,.slice none 0 0] 78)):=((Below.refl _ _).alloc (Nat.le_refl _) _).alloc (by simp) _
 rw[World.size_alloc] at h4;have H2:Hid (zb5 _ _ _ _):=hd_ h2;have H4:=hd_ h4;have HA:=hd_ hA;have HME:=hd_ (fun X (hX:zB w X)=>zm3 p h A B a b X (hp.below hX) (hh.below hX) hsym);have HC:Hid (∀ X,zB w X→X.cell? ⟨hg,0,none⟩=some (.slice B h.parts.length b)∧X.cell? ⟨hg,1,none⟩=some (.bool h.rest)):=hd_ fun X hX=>⟨z04 h0 hX (z03 h0),z04 h1 hX (z03 h1)⟩;clear h2 h4 hA hp hh hsym h0 h1;go_enter func63,ntmps63;go_upto_region 1 with fail;generalize (w.alloc (.cells #[.slice A p.parts.length a,.bool p.rest] 68)).alloc (.cells #[.slice none 0 0,.bool false,.slice none 0 0] 78)=W1 at H2 H4 HA ⊢;go_wp2_with fail;go_loopw [5,20] (fun v i wr=>∃ k:Nat,i=.int .i64 k∧k≤1∧Hid (SmFst W1 wr k v)) (fun _ i _=>1 - (intOf i).toNat)
 case atStart=>exact⟨0,rfl,Nat.zero_le _,hd_ ⟨Below.refl _ _,Or.inl rfl⟩⟩
 case round =>
  obtain⟨k,rfl,hk,HI⟩:=hrel;by_cases hlt:k<1
  ·have hk0:k=0:=by omega
   subst hk0;obtain⟨hlow,rfl | ⟨h,-⟩⟩:=HI.out
   case inr=>omega
   obtain⟨s0,s1⟩:=HC.out wr (z0r HA.out hlow);have hX:zB wr (wr.alloc (.cells #[.slice B h.parts.length b,.bool h.rest] 68)):=(Below.refl _ _).alloc (Nat.le_refl _) _;have HX5:=hd_ (z0l wr [.slice B h.parts.length b,.bool h.rest] 68);have HL5:=hd_ (z0r hlow hX);clear hX hlow HI;go_upto_region 5 with fail;clear s0 s1;generalize wr.alloc (.cells #[.slice B h.parts.length b,.bool h.rest] 68)=W5 at HX5 HL5 ⊢;generalize wr.heap.size=g7 at HX5 ⊢;obtain⟨y0,y1⟩:=(⟨HX5.out.cell 0,HX5.out.cell 1⟩:W5.cell? ⟨g7,0,none⟩=some (.slice B h.parts.length b)∧W5.cell? ⟨g7,1,none⟩=some (.bool h.rest));have HP5:=hd_ (H2.out.low HL5.out);have x0:=HP5.out.c0;have x1:=HP5.out.c1;have HC1:=hd_ (HME.out W5 (z0r HA.out HL5.out));go_wp2_with fail;refine HC1.out.mono ?_;clear HC1 x0 x1 y0 y1;rintro e w6 ⟨hb,⟨hmn,rfl⟩ | ⟨m,A6,c6,hmm,rfl,hown,hin⟩⟩
   ·dsimp only;have hX:zB w6 (w6.alloc (.cells #[.slice none 0 0,.bool false] 68)):=(Below.refl _ _).alloc (Nat.le_refl _) _;have HN:=hd_ (z0r HL5.out (z0r hb hX));clear hb hX hmn;go_wp2_with fail;go_roundw
    case rel=>exact⟨1,by go_num,Nat.le_refl _,hd_ ⟨HN.out,Or.inl rfl⟩⟩
    case measure=>simp [intOf]
   ·dsimp only;have hX:zB w6 (w6.alloc (.cells #[.slice A6 m.parts.length c6,.bool m.rest] 68)):=(Below.refl _ _).alloc (Nat.le_refl _) _;have HN:=hd_ (z0r HL5.out (z0r hb hX));have HX7:=hd_ (z0l w6 [.slice A6 m.parts.length c6,.bool m.rest] 68);clear hb hX hmm hown hin;go_upto_region 7 with fail;generalize w6.alloc (.cells #[.slice A6 m.parts.length c6,.bool m.rest] 68)=W7 at HN HX7 ⊢;generalize w6.heap.size=g8 at HX7 ⊢;obtain⟨y0,y1⟩:=(⟨HX7.out.cell 0,HX7.out.cell 1⟩:W7.cell? ⟨g8,0,none⟩=some (.slice A6 m.parts.length c6)∧W7.cell? ⟨g8,1,none⟩=some (.bool m.rest));have hrow:=z0i W7 [.slice A6 m.parts.length c6,.bool m.rest] 68 2 1 rfl (by unfold maxLen;omega) W7.heap.size rfl
    have HON:=hd_ (World.ownsRow_nil (W7.alloc (.cells #[.slice A6 m.parts.length c6,.bool m.rest] 68)) W7.heap.size 68 2);have HN8:=hd_ (z0r HN.out ((Below.refl W7.heap.size W7).alloc (Nat.le_refl _) (.cells #[.slice A6 m.parts.length c6,.bool m.rest] 68)));go_wp2_with (at_builtin;refine z0j rfl rfl zkq HON.out rfl hrow rfl (by simp [Value.oneCell']) (by omega) (by unfold maxLen;omega) (by simp) ?_;intro A' c' w8 hown hgr hob)
    have hb8:=zlp hgr rfl;have HN9:Hid (SmFst W1 w8 1 (.slice A' (0+1) c')):=hd_ (by
     obtain⟨g,rfl,hc1,q0,q1⟩:=znb hown;exact⟨z0r HN8.out hb8,Or.inr ⟨rfl,g,c',A6,m.parts.length,c6,m.rest,rfl,hc1,q0,q1⟩⟩)
    clear hown hgr hob hb8 y0 y1 hrow;go_roundw
    case rel=>exact⟨1,by go_num,Nat.le_refl _,HN9⟩
    case measure=>simp [intOf]
  ·have hk1:k=1:=by omega
   subst hk1;obtain⟨hlow,rfl | ⟨-,g,cap,Am,nm,cm,bm,rfl,hcap,hm0,hm1⟩⟩:=HI.out
   ·have HB:=hd_ hlow;clear hlow HI;rename ∀ a w,Code.wp _ (Code.seq (Code.seq (Code.region 9 _ _) _) _) _ a w→_=>hk7
    have HK7:=hd_ hk7;clear hk7;go_wp2_with fail;exact HK7.out _ _ (zm5 _ (by kernel_rfl) w wr A p.parts.length a w.heap.size (w.heap.size+1) p.rest (H2.out.low HB.out) (H4.out.below HB.out H4.out.lt) (z0r HA.out HB.out) (by omega) _ _ _ _ _ _ _ _ _ _ _ _ _ _ _ _ _ _ _ _ _ _ _ _ _ _ _ _ _ _ _ _ _ _ _ _ _ _ _ _ _ _ _ _ _ _ _ _ _ _ _ _ _ _ _ _ _ _ _ _ _ _ _ _ _ _ _ _ _ _ _ _ _ _ _ _ _ _ _ _ _ _ _ _ _ _ _ _ _ _ _ _ _ _ _ _ _ _ _ _ _ _ _ _ _ _ _ _ _ _ _ _ _ _ _ _ _ _ _)
   ·have HB:=hd_ hlow;have HM0:=hd_ hm0;have HM1:=hd_ hm1;clear hlow HI hm0 hm1;rename ∀ a w,Code.wp _ (Code.seq (Code.seq (Code.region 9 _ _) _) _) _ a w→_=>hk7
    have HK7:=hd_ hk7;clear hk7;go_wp2_with fail;exact HK7.out _ _ (zm6 _ (by kernel_rfl) w wr A Am p.parts.length a w.heap.size (w.heap.size+1) g cap nm cm p.rest bm (H2.out.low HB.out) (H4.out.below HB.out H4.out.lt) (z0r HA.out HB.out) (by omega) hcap HM0.out HM1.out _ _ _ _ _ _ _ _ _ _ _ _ _ _ _ _ _ _ _ _ _ _ _ _ _ _ _ _ _ _ _ _ _ _ _ _ _ _ _ _ _ _ _ _ _ _ _ _ _ _ _ _ _ _ _ _ _ _ _ _ _ _ _ _ _ _ _ _ _ _ _ _ _ _ _ _ _ _ _ _ _ _ _ _ _ _ _ _ _ _ _ _ _ _ _ _ _ _ _ _ _ _ _ _ _ _ _ _ _ _ _ _ _ _ _ _ _ _ _)
def znd (w:World)(v:Value)(b:Bool)(e:Ending)(w':World):Prop:=zB w w'∧∃ H n c,e=.returned (.tuple #[.agg #[v,.bool b,.slice H n c],.bool true])
theorem zne (A C H:Option Addr)(nl nr a c hc:Nat)(bl br:Bool)(w:World):
  Calls prog 31 #[.agg #[.slice A nl a,.bool bl,.slice C nr c,.bool br,.slice H 0 hc]] w (znd w (.slice C nr c) br):=by
 obtain⟨W1,hW1⟩:∃ W,W=(w.alloc (.cells #[.slice A nl a,.bool bl,.slice C nr c,.bool br,.slice H 0 hc] 71)).alloc (.cells #[.slice none 0 0,.bool false,.slice none 0 0] 78):=⟨_,rfl⟩;have hA:zB w W1:=by rw[hW1];exact ((Below.refl _ _).alloc (Nat.le_refl _) _).alloc (by simp) _
 have h1:Blk W1 w.heap.size 71 [.slice A nl a,.bool bl,.slice C nr c,.bool br,.slice H 0 hc]:=by rw[hW1];exact (z0l w _ _).alloc _
 have h2:Blk W1 (w.heap.size+1) 78 [.slice none 0 0,.bool false,.slice none 0 0]:=by
  rw[hW1];have:=z0l (w.alloc (.cells #[.slice A nl a,.bool bl,.slice C nr c,.bool br,.slice H 0 hc] 71)) [.slice none 0 0,.bool false,.slice none 0 0] 78;simp only[World.size_alloc] at this
  exact this
 have HW1:=hd_ hW1;have HA:=hd_ hA;have H1:=hd_ h1;have H2:=hd_ h2;clear hW1 hA h1 h2;go_enter func31,ntmps31;go_upto_region 1 with fail;rw[← HW1.out];have y4:W1.cell? ⟨w.heap.size,4,none⟩=some (.slice H 0 hc):=H1.out.cell 4;clear HW1;go_wp2_with fail;clear y4;go_loopw [4,13] (fun v i wr=>v=.slice none 0 0∧i=.int .i64 0∧wr=W1) (fun _ i _=>0)
 case atStart=>exact⟨rfl,rfl,rfl⟩
 case round =>
  obtain⟨rfl,rfl,rfl⟩:=hrel;obtain⟨y2,y3⟩:=(⟨H1.out.cell 2,H1.out.cell 3⟩:wr.cell? ⟨w.heap.size,2,none⟩=some (.slice C nr c)∧wr.cell? ⟨w.heap.size,3,none⟩=some (.bool br));have HS:=hd_ (zna C nr c br wr);go_wp2_with fail;refine HS.out.mono ?_;rintro e w2 ⟨hb,H9,n9,c9,rfl⟩;dsimp only;have HB2:=hd_ (z0r HA.out hb);have HX2:=hd_ (H2.out.below hb H2.out.lt);obtain⟨u0,u1,u2⟩:=(⟨HX2.out.cell 0,HX2.out.cell 1,HX2.out.cell 2⟩:w2.cell? ⟨w.heap.size+1,0,none⟩=some (.slice none 0 0)∧w2.cell? ⟨w.heap.size+1,1,none⟩=some (.bool false)∧w2.cell? ⟨w.heap.size+1,2,none⟩=some (.slice none 0 0));obtain⟨f0,f1,f2⟩:=(⟨HX2.out.frozen 0,HX2.out.frozen 1,HX2.out.frozen 2⟩:w2.frozen? ⟨w.heap.size+1,0,none⟩=false∧w2.frozen? ⟨w.heap.size+1,1,none⟩=false∧w2.frozen? ⟨w.heap.size+1,2,none⟩=false);clear hb y2 y3 HS;go_wp2_with fail;have hE:=((HX2.out.set_ 0 (.slice C nr c)).set_ 1 (.bool br)).set_ 2 (.slice H9 n9 c9);have hb:=((HB2.out.setCell (p:=⟨w.heap.size+1,0,none⟩) (by simp) (.slice C nr c)).setCell (p:=⟨w.heap.size+1,1,none⟩) (by simp) (.bool br)).setCell (p:=⟨w.heap.size+1,2,none⟩) (by simp) (.slice H9 n9 c9)
  generalize ((w2.setCell ⟨w.heap.size+1,0,none⟩ (.slice C nr c)).setCell ⟨w.heap.size+1,1,none⟩ (.bool br)).setCell ⟨w.heap.size+1,2,none⟩ (.slice H9 n9 c9)=W8 at hE hb ⊢;have e0:=hE.cell 0;have e1:=hE.cell 1;have e2:=hE.cell 2;exact bodyPost_ret (v:=.tuple #[.agg #[.slice C nr c,.bool br,.slice H9 n9 c9],.bool true]) (by simp [results,results31,go_sem,e0,e1,e2]) rfl ⟨hb,H9,n9,c9,rfl⟩
section
variable {u0 u1 u2 u3 u4 u5 u6 u7 u8 u9 gA gC gD gE gF gG gH gI gJ gK gL gM gN gO gP gQ gR gT gV gW gX gY gZ i6 i7 i8 ia ib ic ie ig ii ij ik il im io ip iq ir iu iv iw ix iy iz iA iB iC iD iE iF iG iH iI iJ iK iL iM iN iO iP iQ iR iS iT iU iV iW iX iY iZ j0 j1 j2 j5 j6 j7 j8 j9 jb jd jf jg jh ji jj jk jl jm bE bF bG bH bI bJ bK bL bM bN bO bP bQ bT bU bV bW bX bY bZ cj ck cn cx cy cz cA cB cD cG cH cI cJ cM cN cO cP cQ cR cT cU cW cX cY cZ da dc dd de df dg dh di dj dm du dw dx dy dz dA dB dC dD dE dF dG dH dI dJ dK dL dM dN dO dP dQ dR dS dT dU dV dW dX dY dZ ed ei el en : Value}
theorem zoq {V W:World}{g:Nat}(h:V.grownBy W (some g))(i:Nat)(u:Value):V.grownBy (W.setCell ⟨g,i,none⟩ u) (some g):=by
 have h2:=z9t W g i u;exact⟨h2.os.trans h.os,h2.tape.trans h.tape,h2.output.trans h.output,Nat.le_trans h.size h2.size,fun k hk hne=>(h2.block k (Nat.lt_of_lt_of_le hk h.size) hne).trans (h.block k hk hne)⟩
theorem zor {V W:World}{row:Option Nat}(h:V.grownBy W row):V.grownBy W.drew row:=⟨h.os,h.tape,h.output,h.size,h.block⟩
theorem zos (V:World)(row:Option Nat):V.grownBy V row:=⟨rfl,rfl,rfl,Nat.le_refl _,fun _ _ _=>rfl⟩
theorem chR20 (ops:Array Oper)(hops:Tryz.f57.body.bind (z0x 20)=some ops)(Q:Exit→Act→World→Prop)(V:World)(g18 g20:Nat)(v:Rev)(x:Edt)(h18:Blk V g18 90 [.string v.path,.int .i64 v.num,.int .i64 v.chg,.int .i64 v.act,.int .i64 v.ty.base,.bool v.ty.k,.bool v.ty.l,.bool v.ty.x,.int .u64 v.sum,.int .i64 v.size,.string v.frm,.int .i64 v.fnum])(h20:Blk V g20 100 [.string x.path,.int .i64 x.act,.int .i64 x.ty.base,.bool x.ty.k,.bool x.ty.l,.bool x.ty.x,.int .u64 x.sum,.int .i64 x.size,.int .i64 x.base,.string x.frm,.int .i64 x.fnum,.int .i64 x.fence])(hne:g20≠g18)
  (hQ:∀(aC aD aE aF:Value) (w':World),Blk w' g20 100 [.string x.path,.int .i64 5,.int .i64 v.ty.base,.bool v.ty.k,.bool v.ty.l,.bool v.ty.x,.int .u64 x.sum,.int .i64 x.size,.int .i64 x.base,.string x.frm,.int .i64 x.fnum,.int .i64 x.fence]→V.grownBy w' (some g20)→Q .normal ⟨#[u0,u1,u2,u3,u4,u5,u6,u7,u8,u9,gA,gC,gD,gE,gF,gG,gH,gI,.pointer (some ⟨g18,0,none⟩),gK,.pointer (some ⟨g20,0,none⟩),gM,gN,gO,gP,gQ,gR,gT,gV,gW,gX,gY,gZ,i6,i7,i8,ia,ib,ic,ie,ig,ii,ij,ik,il,im,io,ip,iq,ir,iu,iv,iw,ix,iy,iz,iA,iB,iC,iD,iE,iF,iG,iH,iI,iJ,iK,iL,iM,iN,iO,iP,iQ,iR,iS,iT,iU,iV,iW,iX,iY,iZ,j0,j1,j2,j5,j6,j7,j8,j9,jb,jd,jf,jg,jh,ji,jj,jk,jl,jm,bE,bF,bG,bH,bI,bJ,bK,bL,bM,bN,bO,bP,bQ,bT,bU,bV,bW,bX,bY,bZ,aC,aD,aE,aF,cy,cz,cA,cB,cD,cG,cH,cI,cJ,cM,cN,cO,cP,cQ,cR,cT,cU,cW,cX,cY,cZ,da,dc,dd,de,df,dg,dh,di,dj,dm,du,dw,dx,dy,dz,dA,dB,dC,dD,dE,dF,dG,dH,dI,dJ,dK,dL,dM,dN,dO,dP,dQ,dR,dS,dT,dU,dV,dW,dX,dY,dZ,ed,ei,el,en],[]⟩ w'):
  (Code.region 20 ops true).wp prog Q ⟨#[u0,u1,u2,u3,u4,u5,u6,u7,u8,u9,gA,gC,gD,gE,gF,gG,gH,gI,.pointer (some ⟨g18,0,none⟩),gK,.pointer (some ⟨g20,0,none⟩),gM,gN,gO,gP,gQ,gR,gT,gV,gW,gX,gY,gZ,i6,i7,i8,ia,ib,ic,ie,ig,ii,ij,ik,il,im,io,ip,iq,ir,iu,iv,iw,ix,iy,iz,iA,iB,iC,iD,iE,iF,iG,iH,iI,iJ,iK,iL,iM,iN,iO,iP,iQ,iR,iS,iT,iU,iV,iW,iX,iY,iZ,j0,j1,j2,j5,j6,j7,j8,j9,jb,jd,jf,jg,jh,ji,jj,jk,jl,jm,bE,bF,bG,bH,bI,bJ,bK,bL,bM,bN,bO,bP,bQ,bT,bU,bV,bW,bX,bY,bZ,cj,ck,cn,cx,cy,cz,cA,cB,cD,cG,cH,cI,cJ,cM,cN,cO,cP,cQ,cR,cT,cU,cW,cX,cY,cZ,da,dc,dd,de,df,dg,dh,di,dj,dm,du,dw,dx,dy,dz,dA,dB,dC,dD,dE,dF,dG,dH,dI,dJ,dK,dL,dM,dN,dO,dP,dQ,dR,dS,dT,dU,dV,dW,dX,dY,dZ,ed,ei,el,en],[]⟩ V:=by
 simp only[Tryz.f57,Option.bind_some,z0x] at hops
 simp at hops
 subst hops;have HQ:=hd_ hQ;have H20:=hd_ h20;obtain⟨r0,r1,r2,r3,r4,r5,r6,r7,r8,r9,r10,r11⟩:=z81 h18;obtain⟨x0,x1,x2,x3,x4,x5,x6,x7,x8,x9,x10,x11⟩:=z81 h20;obtain⟨f0,f1,f2,f3,f4,f5,f6,f7,f8,f9,f10,f11⟩:=zdi h20;have hne2:¬(g18=g20):=fun e=>hne e.symm;clear hQ h18 h20;refine wp_region_noPanic ?_;go_region_law (fail)
 all_goals refine NoPanic.normal ?_
 all_goals exact HQ.out _ _ _ _ _ (Blk.drew' ((((((H20.out).set_ 1 (.int .i64 5)).set_ 2 (.int .i64 v.ty.base)).set_ 3 (.bool v.ty.k)).set_ 4 (.bool v.ty.l)).set_ 5 (.bool v.ty.x))) (zor (zoq (zoq (zoq (zoq (zoq (zos _ _) 1 (.int .i64 5)) 2 (.int .i64 v.ty.base)) 3 (.bool v.ty.k)) 4 (.bool v.ty.l)) 5 (.bool v.ty.x)))
theorem chR30 (ops:Array Oper)(hops:Tryz.f57.body.bind (z0x 30)=some ops)(Q:Exit→Act→World→Prop)(V:World)(g18 g20:Nat)(v:Rev)(x:Edt)(h18:Blk V g18 90 [.string v.path,.int .i64 v.num,.int .i64 v.chg,.int .i64 v.act,.int .i64 v.ty.base,.bool v.ty.k,.bool v.ty.l,.bool v.ty.x,.int .u64 v.sum,.int .i64 v.size,.string v.frm,.int .i64 v.fnum])(h20:Blk V g20 100 [.string x.path,.int .i64 x.act,.int .i64 x.ty.base,.bool x.ty.k,.bool x.ty.l,.bool x.ty.x,.int .u64 x.sum,.int .i64 x.size,.int .i64 x.base,.string x.frm,.int .i64 x.fnum,.int .i64 x.fence])(hne:g20≠g18)
  (hQ:∀(bw bA bB bD:Value) (w':World),Blk w' g20 100 [.string x.path,.int .i64 3,.int .i64 v.ty.base,.bool v.ty.k,.bool v.ty.l,.bool v.ty.x,.int .u64 x.sum,.int .i64 x.size,.int .i64 x.base,.string x.frm,.int .i64 x.fnum,.int .i64 x.fence]→V.grownBy w' (some g20)→Q .normal ⟨#[u0,u1,u2,u3,u4,u5,u6,u7,u8,u9,gA,gC,gD,gE,gF,gG,gH,gI,.pointer (some ⟨g18,0,none⟩),gK,.pointer (some ⟨g20,0,none⟩),gM,gN,gO,gP,gQ,gR,gT,gV,gW,gX,gY,gZ,i6,i7,i8,ia,ib,ic,ie,ig,ii,ij,ik,il,im,io,ip,iq,ir,iu,iv,iw,ix,iy,iz,iA,iB,iC,iD,iE,iF,iG,iH,iI,iJ,iK,iL,iM,iN,iO,iP,iQ,iR,iS,iT,iU,iV,iW,iX,iY,iZ,j0,j1,j2,j5,j6,j7,j8,j9,jb,jd,jf,jg,jh,ji,jj,jk,jl,jm,bE,bF,bG,bH,bI,bJ,bK,bL,bM,bN,bO,bP,bQ,bT,bU,bV,bW,bX,bY,bZ,cj,ck,cn,cx,cy,cz,cA,cB,cD,cG,cH,cI,cJ,cM,cN,cO,cP,cQ,cR,cT,cU,cW,cX,cY,cZ,da,dc,dd,de,df,dg,dh,di,dj,dm,du,dw,dx,dy,dz,dA,dB,dC,dD,dE,dF,dG,dH,dI,dJ,dK,dL,dM,dN,dO,dP,dQ,dR,dS,bw,bA,bB,bD,dX,dY,dZ,ed,ei,el,en],[]⟩ w'):
  (Code.region 30 ops true).wp prog Q ⟨#[u0,u1,u2,u3,u4,u5,u6,u7,u8,u9,gA,gC,gD,gE,gF,gG,gH,gI,.pointer (some ⟨g18,0,none⟩),gK,.pointer (some ⟨g20,0,none⟩),gM,gN,gO,gP,gQ,gR,gT,gV,gW,gX,gY,gZ,i6,i7,i8,ia,ib,ic,ie,ig,ii,ij,ik,il,im,io,ip,iq,ir,iu,iv,iw,ix,iy,iz,iA,iB,iC,iD,iE,iF,iG,iH,iI,iJ,iK,iL,iM,iN,iO,iP,iQ,iR,iS,iT,iU,iV,iW,iX,iY,iZ,j0,j1,j2,j5,j6,j7,j8,j9,jb,jd,jf,jg,jh,ji,jj,jk,jl,jm,bE,bF,bG,bH,bI,bJ,bK,bL,bM,bN,bO,bP,bQ,bT,bU,bV,bW,bX,bY,bZ,cj,ck,cn,cx,cy,cz,cA,cB,cD,cG,cH,cI,cJ,cM,cN,cO,cP,cQ,cR,cT,cU,cW,cX,cY,cZ,da,dc,dd,de,df,dg,dh,di,dj,dm,du,dw,dx,dy,dz,dA,dB,dC,dD,dE,dF,dG,dH,dI,dJ,dK,dL,dM,dN,dO,dP,dQ,dR,dS,dT,dU,dV,dW,dX,dY,dZ,ed,ei,el,en],[]⟩ V:=by
 simp only[Tryz.f57,Option.bind_some,z0x] at hops
 simp at hops
 subst hops;have HQ:=hd_ hQ;have H20:=hd_ h20;obtain⟨r0,r1,r2,r3,r4,r5,r6,r7,r8,r9,r10,r11⟩:=z81 h18;obtain⟨x0,x1,x2,x3,x4,x5,x6,x7,x8,x9,x10,x11⟩:=z81 h20;obtain⟨f0,f1,f2,f3,f4,f5,f6,f7,f8,f9,f10,f11⟩:=zdi h20;have hne2:¬(g18=g20):=fun e=>hne e.symm;clear hQ h18 h20;refine wp_region_noPanic ?_;go_region_law (fail)
 all_goals refine NoPanic.normal ?_
 all_goals exact HQ.out _ _ _ _ _ (Blk.drew' ((((((H20.out).set_ 1 (.int .i64 3)).set_ 2 (.int .i64 v.ty.base)).set_ 3 (.bool v.ty.k)).set_ 4 (.bool v.ty.l)).set_ 5 (.bool v.ty.x))) (zor (zoq (zoq (zoq (zoq (zoq (zos _ _) 1 (.int .i64 3)) 2 (.int .i64 v.ty.base)) 3 (.bool v.ty.k)) 4 (.bool v.ty.l)) 5 (.bool v.ty.x)))
end
