/- A part of the proof. -/
import Derived.Test.YtegeboijhifmcaaGreatDoorMgw13
import Derived.Test.YtegeboijhifmcaaGreatDoorMgw16
set_option linter.unusedVariables false
set_option linter.unusedSimpArgs false
set_option maxHeartbeats 8000000
set_option maxRecDepth 100000
namespace Go.Proofs.YtegeboijhifmcaaGreatDoor
open Go.Proofs.Tryz
open Go.RowKit
def zcr (w:World)(p:Pat)(l:List ByteArray)(e:Ending)(w':World):Prop:=Below w.heap.size w w'∧∃ A' c',e=.returned (.tuple #[.agg #[.slice A' (p.parts.length+l.length) c',.bool true],.int .i64 0])∧(∀ x,(Value.slice A' (p.parts.length+l.length) c').ownBlock=some x→w.heap.size≤x)∧Strs w' (.slice A' (p.parts.length+l.length) c') (p.parts++l)
structure zcs (w wr:World)(g4 g11:Nat)(v:Value)(b:Bool)(l:List ByteArray):Prop where
 low:Below w.heap.size w wr
 le4:w.heap.size≤g4
 le:g4<g11
 box4:zbo wr g4 (.slice none 0 0) false
 box:zbo wr g11 v b
 own:wr.ownsRow w.heap.size 9 1 v l.length (l.map .string)
 ne4:v.ownBlock≠some g4
 ne:v.ownBlock≠some g11
theorem zcs.under {w wr wx:World}{g4 g11:Nat}{v:Value}{b:Bool}{l:List ByteArray}(h:zcs w wr g4 g11 v b l)(hb:Below wr.heap.size wr wx):zcs w wx g4 g11 v b l:=⟨z0r h.low hb,h.le4,h.le,h.box4.low hb,h.box.low hb,z0n h.own hb,h.ne4,h.ne⟩
theorem zcs.app {w wr w2:World}{g4 g11:Nat}{v:Value}{b:Bool}{l m:List ByteArray}{A':Option Addr}{c' n:Nat}(h:zcs w wr g4 g11 v b l)(hn:n=l.length+m.length)
  (hown:w2.ownsRow w.heap.size 9 1 (.slice A' n c') n (l.map .string++m.map .string)) (hgr:wr.grownBy w2 v.ownBlock)
  (hob:(Value.slice A' n c').ownBlock=v.ownBlock∨(Value.slice A' n c').ownBlock=some wr.heap.size):
  zcs w (w2.setCell ⟨g11,0,none⟩ (.slice A' n c')) g4 g11 (.slice A' n c') b (l++m):=by
 have l4:=Blk.lt h.box4;have l11:=Blk.lt h.box;have n4:(Value.slice A' n c').ownBlock≠some g4:=by
  rcases hob with e | e
  ·rw[e];exact h.ne4
  ·rw[e];intro e2;injection e2 with e2;omega
 have n11:(Value.slice A' n c').ownBlock≠some g11:=by
  rcases hob with e | e
  ·rw[e];exact h.ne
  ·rw[e];intro e2;injection e2 with e2;omega
 have hlt:=h.le;have hl4:=h.le4;refine⟨(h.low.grown hgr h.low.size (fun k e=>(h.own.lt k e).1)).setCell (p:=⟨g11,0,none⟩) (by show w.heap.size≤g11;omega) _,h.le4,h.le,Blk.far (Blk.grown h.box4 hgr (fun e=>h.ne4 e.symm)) (by show g11≠g4;omega) _,(Blk.grown h.box hgr (fun e=>h.ne e.symm)).set_ 0 _,?_,n4,n11⟩
 have hl:(l++m).length=n:=by rw[List.length_append,hn]
 rw[hl,List.map_append];exact z4r hown (p:=⟨g11,0,none⟩) n11 _
theorem zct {p:Pat}(h:zcm p):za2 p=0:=by
 unfold za2;rw[List.filter_eq_nil_iff.2]
 ·rfl
 ·intro x hx;rw[h.star x hx];decide
theorem zcu (p:Pat)(l:List ByteArray)(A:Option Addr)(a:Nat)(B1:Addr)(c1:Nat)(C:Option Addr)(m c:Nat)(w:World)(hp:za9 w (.slice A p.parts.length a) p)(hn:zcm p)
  (hb:Row w 2 (.slice (some B1) 1 c1) 1 [.slice C m c,.bool true]) (hl:Strs w (.slice C m c) l) (hz:∀ x∈l,x.size≤1000000) (hf:∀ x∈l,z7b x≠0) (hle:p.parts.length+l.length≤12):
  Calls prog 190 #[.agg #[.slice A p.parts.length a,.bool true],.slice (some B1) 1 c1] w (zcr w p l):=by
 have hml:m=l.length:=by obtain⟨A',c',e,-⟩:=id hl;injection e
 subst hml;have hcells:w.cell? B1=some (.slice C l.length c)∧w.cell? ⟨B1.block,B1.off+1,none⟩=some (.bool true)∧B1.block<w.heap.size:=by
  obtain⟨A',c',e,-,-,-,-,hx⟩:=id hb;injection e with e1 e2 e3
  obtain⟨ad,e4,hb4,hc4⟩:=hx (by omega)
  rw[← e1] at e4;injection e4 with e4
  subst e4;have h0:=hc4 0 _ rfl;have h1:=hc4 1 _ rfl;unfold Addr.add at h0 h1;exact⟨by simpa using h0,by simpa using h1,hb4⟩
 have hcap:1≤c1:=by
  obtain⟨A',c',e,h1,-⟩:=id hb;injection e with e1 e2 e3
  omega
 have hA:Below w.heap.size w ((w.alloc (.cells #[.slice A p.parts.length a,.bool true] 97)).alloc (.cells #[.slice none 0 0,.bool false] 97)):=((Below.refl _ _).alloc (Nat.le_refl _) _).alloc (by simp) _
 have h2:zbo ((w.alloc (.cells #[.slice A p.parts.length a,.bool true] 97)).alloc (.cells #[.slice none 0 0,.bool false] 97)) w.heap.size (.slice A p.parts.length a) true:=(z0l w [.slice A p.parts.length a,.bool true] 97).alloc _;have h3:zbo ((w.alloc (.cells #[.slice A p.parts.length a,.bool true] 97)).alloc (.cells #[.slice none 0 0,.bool false] 97)) (w.heap.size+1) (.slice none 0 0) false:=by
  have:=z0l (w.alloc (.cells #[.slice A p.parts.length a,.bool true] 97)) [.slice none 0 0,.bool false] 97;rw[World.size_alloc] at this;exact this
 have HKI:Hid (∀ X,Below w.heap.size w X→Calls prog 124 #[.agg #[.slice A p.parts.length a,.bool true]] X (za6 X p)):=hd_ (fun X hX=>by have:=za7 p A a X (hp.below hX).1 hp.small;rw[hn.rest] at this;exact this)
 have HCL:=hd_ (fun X (hX:Below w.heap.size w X)=>zap p.parts _ X (hp.below hX).1 (by omega))
 have HIB:=hd_ (fun X (hX:Below w.heap.size w X)=>zcl l C c X (hl.below hX) (fun x hx=>by have:=hz x hx;unfold maxLen;omega) hf)
 have HP:=hd_ hp;have HN:=hd_ hn;have HL:=hd_ hl;have HCE:=hd_ hcells;have HNS:=hd_ (zct hn);have HLE:=hd_ hle;clear hp hn hl hcells hz hf hb;go_enter func190,ntmps190;go_upto_region 1 with fail;generalize (w.alloc (.cells #[.slice A p.parts.length a,.bool true] 97)).alloc (.cells #[.slice none 0 0,.bool false] 97)=W1 at hA h2 h3 ⊢;have x0:=h2.c0;have x1:=h2.c1;have H:=hd_ (And.intro hA (And.intro h2 h3));have HC1:=hd_ (HKI.out W1 hA);clear hA h2 h3 HKI;go_wp2_with fail;refine HC1.out.mono ?_;rintro e w2 ⟨n,b',rfl,hk,hb⟩;obtain⟨rfl,hb'⟩:=hk HN.out.pat;rw[HN.out.rest] at hb';subst hb';rw[HNS.out];have hpe:z7e p=0:=HN.out.pat;rw[hpe];have HB:=hd_ (z0r H.out.1 hb);have HG:=hd_ (And.intro (H.out.2.1.low hb) (H.out.2.2.low hb));clear hb x0 x1 hk hpe HC1 H;go_wp2_with fail;go_loopw [45] (fun i wr=>∃ k:Nat,i=.int .i64 k∧k≤1∧Hid (Below w2.heap.size w2 wr)) (fun i _=>1 - (intOf i).toNat)
 case atStart=>exact⟨0,rfl,Nat.zero_le _,hd_ (Below.refl _ _)⟩
 case round =>
  obtain⟨k,rfl,hk,HI⟩:=hrel;by_cases hlt:k<1
  ·have hk0:(k:Int)=0:=by omega
   have q0:((k:Int) == 0)=true:=by rw[hk0];rfl
   have HK0:=hd_ hk0;have hadd:B1.add (k * 2)=B1:=by
    have:k=0:=by omega
    subst this;unfold Addr.add;simp
   have s0:wr.cell? (B1.add (k * 2))=some (.slice C l.length c):=by rw[hadd];exact ((HB.out.trans (HI.out.mono HB.out.size)).cell HCE.out.2.2).trans HCE.out.1
   have s1:wr.cell? ⟨(B1.add (k * 2)).block,(B1.add (k * 2)).off+1,none⟩=some (.bool true):=by rw[hadd];exact ((HB.out.trans (HI.out.mono HB.out.size)).cell (p:=⟨B1.block,B1.off+1,none⟩) HCE.out.2.2).trans HCE.out.2.1
   clear hk0 hadd;have hX:Below w2.heap.size w2 (wr.alloc (.cells #[.slice C l.length c,.bool true] 282)):=HI.out.alloc HI.out.size _;have HCQ:=hd_ (HIB.out _ (z0r HB.out hX));have HX:=hd_ hX;clear hX;go_wp2_with fail;refine HCQ.out.mono ?_;rintro e w4 ⟨rfl,hb⟩;have HB4:=hd_ (z0r HX.out hb);clear hb s0 s1;go_wp2_with fail;go_roundw
   case rel=>exact⟨k+1,by go_num,by omega,HB4⟩
   case measure=>simp [intOf];omega
  ·have hk1:k=1:=by omega
   subst hk1;have HB3:=hd_ (z0r HB.out HI.out);have HG3:=hd_ (And.intro (HG.out.1.low HI.out) (HG.out.2.low HI.out));have HC3:=hd_ (HCL.out wr HB3.out);have x0:=HG3.out.1.c0;clear HCL HIB HG HI HB;go_wp2_with fail;refine HC3.out.mono ?_;rintro e w4 ⟨v',rfl,hown,hb⟩;obtain⟨Av,cv,rfl⟩:=z0o hown;have HB4:=hd_ (z0r HB3.out hb);have hg4:=HG3.out.2.low hb;have hsz4:=hb.size;have hw4:=HB3.out.size;have hlt4:=Blk.lt HG3.out.2;have HS:Hid (zcs w (w4.alloc (.cells #[.slice Av p.parts.length cv,.bool false] 97)) (w.heap.size+1) w4.heap.size (.slice Av p.parts.length cv) false p.parts):=hd_ (by
    have hba:Below w4.heap.size w4 (w4.alloc (.cells #[.slice Av p.parts.length cv,.bool false] 97)):=(Below.refl _ _).alloc (Nat.le_refl _) _;refine⟨z0r HB4.out hba,by omega,by have:=Blk.lt hg4;omega,hg4.low hba,z0l w4 _ _,z4p (z0n hown hba) hw4,fun e=>?_,fun e=>?_⟩
    ·have:=(hown.lt _ e).1;omega
    ·have:=(hown.lt _ e).2;omega)
   have HB5:=hd_ hb;clear hb hown hg4 x0 HC3;have y0:=HS.out.box.c0;go_upto_region 13 with fail;generalize w4.alloc (.cells #[.slice Av p.parts.length cv,.bool false] 97)=W5 at HS y0 ⊢;generalize w4.heap.size=g11 at HS y0 ⊢;clear hsz4 hw4 hlt4;go_wp2_with fail;go_loopw [1,65] (fun lv i wr=>∃ j:Nat,lv=.slice (some B1) 1 c1∧i=.int .i64 j∧j≤p.parts.length∧Hid (Below W5.heap.size W5 wr)) (fun _ i _=>p.parts.length - (intOf i).toNat)
   case atStart=>exact⟨0,rfl,rfl,Nat.zero_le _,hd_ (Below.refl _ _)⟩
   case round =>
    obtain⟨j,rfl,rfl,hj,HJ⟩:=hrel;clear y0;have HSJ:=hd_ (HS.out.under HJ.out);by_cases hlt2:j<p.parts.length
    ·have hrow:Strs wr (.slice Av p.parts.length cv) p.parts:=Row.of_own HSJ.out.own;obtain⟨ad,rfl,hab,s0⟩:=Strs.at_ hrow hlt2;have HT:=hd_ (fun X=>z7k p.parts[j] X);rw[HN.out.star _ (List.getElem_mem _)] at HT;generalize p.parts[j]=s at s0 HT;have HLT:=hd_ hlt2;clear hab hrow;go_wp2_with (go_at_call 110;refine (HT.out _).mono ?_;rintro e w' ⟨rfl,rfl⟩)
     go_roundw
     case rel=>exact⟨j+1,rfl,by go_num,by omega,HJ⟩
     case measure=>simp [intOf];omega
    ·have hje:j=p.parts.length:=by omega
     subst hje;have hge:¬((p.parts.length:Int)<(p.parts.length:Int)):=by omega
     have y0:=HSJ.out.box.c0;have b0:wr.cell? B1=some (.slice C l.length c):=(HSJ.out.low.cell HCE.out.2.2).trans HCE.out.1;have b1:wr.cell? ⟨B1.block,B1.off+1,none⟩=some (.bool true):=(HSJ.out.low.cell (p:=⟨B1.block,B1.off+1,none⟩) HCE.out.2.2).trans HCE.out.2.1;have q12:decide ((12:Int)<(p.parts.length:Int)+(l.length:Int))=false:=by have:=HLE.out;simp;omega
     have q13:decide (12<p.parts.length+l.length)=false:=by have:=HLE.out;simp;omega
     go_upto_region 20 with fail;go_quiet (fail)
     go_upto_region 22 with fail;have HSQ:=hd_ (HSJ.out.under (zqq wr nq));generalize wr.drewN nq=W9 at HSQ ⊢;clear y0 b0 b1;have y0:=HSQ.out.box.c0;have b0:W9.cell? B1=some (.slice C l.length c):=(HSQ.out.low.cell HCE.out.2.2).trans HCE.out.1;have b1:W9.cell? ⟨B1.block,B1.off+1,none⟩=some (.bool true):=(HSQ.out.low.cell (p:=⟨B1.block,B1.off+1,none⟩) HCE.out.2.2).trans HCE.out.2.1;have h1:∀ u∈l.map Value.string,u.oneCell'=true:=fun u hu=>by
      obtain⟨b,-,rfl⟩:=List.mem_map.1 hu;rfl
     have H1:=hd_ h1;have hl12:p.parts.length+l.length≤12:=HLE.out;have HHS:Hid (w.heap.size≤W9.drew.heap.size):=hd_ HSQ.out.low.drew.size;clear h1;refine wp_region_noPanic ?_;go_region_law (refine zce rfl rfl z87 (z0n HSQ.out.own ((Below.refl _ _).drew)) (by simp [Act.eval,Act.put]) (HL.out.below HSQ.out.low.drew) (by simp [Act.eval,Act.put]) H1.out (by omega) (by unfold maxLen;omega) HHS.out ?_;intro A6 c6 w6 hO6 hG6 hw6;have hbx:=Blk.grown (HSQ.out.under ((Below.refl _ _).drew)).box hG6 (fun e=>HSQ.out.ne e.symm);have g0:w6.frozen? ⟨g11,0,none⟩=false:=zbo.f0 hbx;have z0:w6.cell? ⟨g11,0,none⟩=some (.slice Av p.parts.length cv):=zbo.c0 hbx)
     all_goals
      refine NoPanic.normal ?_;have HP6:=hd_ ((HSQ.out.under ((Below.refl _ _).drew)).app rfl hO6 hG6 hw6);clear hO6 hG6 hw6 hbx g0 z0 y0 b0 b1;generalize w6.setCell ⟨g11,0,none⟩ (.slice A6 (p.parts.length+l.length) c6)=W7 at HP6 ⊢;have hk:=‹∀(a:Act) (w:World),Code.wp _ _ _ a w→_›;refine hk _ _ ?_;clear hk;have b1:W7.cell? ⟨B1.block,B1.off+1,none⟩=some (.bool true):=(HP6.out.low.cell (p:=⟨B1.block,B1.off+1,none⟩) HCE.out.2.2).trans HCE.out.2.1;have y0:=HP6.out.box.c0;have y1:=HP6.out.box.c1;have f1:=HP6.out.box.f1;obtain⟨u0,u1,u2,u3⟩:=HP6.out.box4.all;have hne:¬(w.heap.size+1=g11):=by have:=HP6.out.le;omega
      have hne2:¬(g11=w.heap.size+1):=by have:=HP6.out.le;omega
      go_wp2_with fail;have hE:=zbo.put (show zbo (W7.setCell ⟨g11,1,none⟩ (.bool true)) (w.heap.size+1) (.slice none 0 0) false from Blk.far HP6.out.box4 (p:=⟨g11,1,none⟩) hne2 (.bool true)) (.slice A6 (p.parts.length+l.length) c6) true;have hb:=zbp (HP6.out.low.setCell (p:=⟨g11,1,none⟩) (by show w.heap.size≤g11;have:=HP6.out.le;have:=HP6.out.le4;omega) (.bool true)) (g:=w.heap.size+1) (by omega) (.slice A6 (p.parts.length+l.length) c6) (.bool true)
      have hO:=Row.of_own (z4r (z4r (z4r HP6.out.own (p:=⟨g11,1,none⟩) HP6.out.ne (.bool true)) (p:=⟨w.heap.size+1,0,none⟩) HP6.out.ne4 (.slice A6 (p.parts.length+l.length) c6)) (p:=⟨w.heap.size+1,1,none⟩) HP6.out.ne4 (.bool true));generalize ((W7.setCell ⟨g11,1,none⟩ (.bool true)).setCell ⟨w.heap.size+1,0,none⟩ (.slice A6 (p.parts.length+l.length) c6)).setCell ⟨w.heap.size+1,1,none⟩ (.bool true)=W8 at hE hb hO ⊢;obtain⟨-,-,c0,c1⟩:=hE.all;refine bodyPost_ret (v:=.tuple #[.agg #[.slice A6 (p.parts.length+l.length) c6,.bool true],.int .i64 0]) (by simp [results,results190,go_sem,c0,c1]) rfl ⟨hb,A6,c6,rfl,fun x hx=>(HP6.out.own.lt x hx).1,?_⟩
      show Row W8 1 _ (p.parts++l).length _
      exact hO
def zcv (l r m:Pat):Pat:=⟨r.parts++m.parts.drop l.parts.length,true⟩
structure zcw (l r h m:Pat):Prop where
 nl:zcm l
 nr:zcm r
 rule:za8 l r=0
 hole:z7e h=0
 meet:zai l h=some m
 mr:m.rest=true
 me:z7e m=0
 wi:WiOk m l
 len:r.parts.length+(m.parts.length - l.parts.length)≤12
theorem zcx {m:Pat}(h:z7e m=0)(n:Nat):∀ x∈m.parts.drop n,z7b x≠0:=fun x hx=>by
 obtain⟨k,hk,rfl⟩:=List.getElem_of_mem (List.mem_of_mem_drop hx);exact zcc h hk
def CarPost (w:World)(l r m:Pat)(e:Ending)(w':World):Prop:=Below w.heap.size w w'∧∃ A' c',e=.returned (.tuple #[.agg #[.slice A' (zcv l r m).parts.length c',.bool true],.int .i64 0])∧(∀ x,(Value.slice A' (zcv l r m).parts.length c').ownBlock=some x→w.heap.size≤x)∧za9 w' (.slice A' (zcv l r m).parts.length c') (zcv l r m)
theorem zcy (l r h m:Pat)(A B C:Option Addr)(a b c:Nat)(w:World)(hl:za9 w (.slice A l.parts.length a) l)(hm:za9 w (.slice B m.parts.length b) m)(hr:za9 w (.slice C r.parts.length c) r)(hn:zcw l r h m):
  Calls prog 142 #[.agg #[.slice A l.parts.length a,.bool true],.agg #[.slice B m.parts.length b,.bool true],.agg #[.slice C r.parts.length c,.bool true]] w (CarPost w l r m):=by
 obtain⟨W1,hW1⟩:∃ W,W=(((w.alloc (.cells #[.slice A l.parts.length a,.bool true] 97)).alloc (.cells #[.slice B m.parts.length b,.bool true] 97)).alloc (.cells #[.slice C r.parts.length c,.bool true] 97)).alloc (.cells #[.slice none 0 0,.bool false] 97):=⟨_,rfl⟩;have hA:Below w.heap.size w W1:=by rw[hW1];exact ((((Below.refl _ _).alloc (Nat.le_refl _) _).alloc (by simp) _).alloc (by simp;omega) _).alloc (by simp;omega) _
 have h2:zbo W1 w.heap.size (.slice A l.parts.length a) true:=by rw[hW1];exact (((z0l w [.slice A l.parts.length a,.bool true] 97).alloc _).alloc _).alloc _
 have h3:zbo W1 (w.heap.size+1) (.slice B m.parts.length b) true:=by
  rw[hW1];have:=z0l (w.alloc (.cells #[.slice A l.parts.length a,.bool true] 97)) [.slice B m.parts.length b,.bool true] 97;simp only[World.size_alloc] at this
  exact (this.alloc _).alloc _
 have h4:zbo W1 (w.heap.size+1+1) (.slice C r.parts.length c) true:=by
  rw[hW1];have:=z0l ((w.alloc (.cells #[.slice A l.parts.length a,.bool true] 97)).alloc (.cells #[.slice B m.parts.length b,.bool true] 97)) [.slice C r.parts.length c,.bool true] 97;simp only[World.size_alloc] at this
  exact this.alloc _
 have h5:zbo W1 (w.heap.size+1+1+1) (.slice none 0 0) false:=by
  rw[hW1];have:=z0l (((w.alloc (.cells #[.slice A l.parts.length a,.bool true] 97)).alloc (.cells #[.slice B m.parts.length b,.bool true] 97)).alloc (.cells #[.slice C r.parts.length c,.bool true] 97)) [.slice none 0 0,.bool false] 97;simp only[World.size_alloc] at this
  exact this
 have HBD:=hd_ (fun X (hX:Below w.heap.size w X)=>zcq l m A B a b X (hl.below hX) (hm.below hX) hn.nl hn.mr hn.me hn.wi);have HSB:=hd_ (fun X (hX:Below w.heap.size w X) B1 c1 D d (h1:Row X 2 (.slice (some B1) 1 c1) 1 [.slice D (m.parts.length - l.parts.length) d,.bool true]) h2=>zcu r (m.parts.drop l.parts.length) C c B1 c1 D (m.parts.length - l.parts.length) d X (hr.below hX) hn.nr h1 h2 (fun x hx=>hm.2 x (List.mem_of_mem_drop hx)) (zcx hn.me _) (by rw[List.length_drop];exact hn.len))
 have HLN:Hid (r.parts.length+(m.parts.drop l.parts.length).length=(zcv l r m).parts.length):=hd_ (by unfold zcv;simp)
 have HSZ:Hid (∀ x∈(zcv l r m).parts,x.size≤1000000):=hd_ (fun x hx=>by
  rcases List.mem_append.1 hx with h | h
  ·exact hr.2 x h
  ·exact hm.2 x (List.mem_of_mem_drop h))
 have HW1:=hd_ hW1;have H:=hd_ (And.intro hA (And.intro h2 (And.intro h3 (And.intro h4 h5))));clear hl hm hr hn hW1 hA h2 h3 h4 h5;go_enter func142,ntmps142;go_upto_region 1 with fail;rw[← HW1.out];have x0:=H.out.2.1.c0;have x1:=H.out.2.1.c1;have y0:=H.out.2.2.1.c0;have y1:=H.out.2.2.1.c1;have HC1:=hd_ (HBD.out W1 H.out.1);clear HBD;go_wp2_with fail;refine HC1.out.mono ?_;rintro e w2 ⟨hb,B1,c1,D,d,rfl,hR,hS⟩;have HB:=hd_ (z0r H.out.1 hb);have HC2:=hd_ (HSB.out w2 HB.out B1 c1 D d hR hS);have h4:=H.out.2.2.2.1.low hb;have HZ:=hd_ (H.out.2.2.2.2.low hb);clear x0 x1 y0 y1 hb hR hS HSB HC1;have x0:=h4.c0;have x1:=h4.c1;clear h4;go_wp2_with fail;refine HC2.out.mono ?_;rintro e w3 ⟨hb,A6,c6,rfl,hF,hS⟩;rw[HLN.out] at hS hF ⊢;have HF:=hd_ hF;clear hF;have HB3:=hd_ (z0r HB.out hb);have hZ3:=HZ.out.low hb;have HS:=hd_ hS;clear hb hS x0 x1 HC2;have hX4:Below w3.heap.size w3 (w3.alloc (.cells #[.slice A6 (zcv l r m).parts.length c6,.bool true] 97)):=(Below.refl _ _).alloc (Nat.le_refl _) _;have HZ4:=hd_ (hZ3.low hX4);have HB4:=hd_ (z0r HB3.out hX4);have HS4:=hd_ (HS.out.below hX4);have HN:Hid (zbo (w3.alloc (.cells #[.slice A6 (zcv l r m).parts.length c6,.bool true] 97)) w3.heap.size (.slice A6 (zcv l r m).parts.length c6) true):=hd_ (z0l w3 [.slice A6 (zcv l r m).parts.length c6,.bool true] 97);clear hX4 hZ3;go_upto_region 3 with fail;generalize w3.alloc (.cells #[.slice A6 (zcv l r m).parts.length c6,.bool true] 97)=W4 at HZ4 HB4 HS4 HN ⊢;have x0:=HN.out.c0;have x1:=HN.out.c1;obtain⟨f0,f1,c0,c1⟩:=HZ4.out.all;have hne:(Value.slice A6 (zcv l r m).parts.length c6).ownBlock≠some (w.heap.size+1+1+1):=fun e=>by have h1:=HF.out _ e;have h2:=Blk.lt HZ.out;omega
 have HS4x:Hid (Strs W4 (.slice A6 (zcv l r m).parts.length c6) (zcv l r m).parts):=hd_ HS4.out;go_wp2_with fail;have hE:=HZ4.out.put (.slice A6 (zcv l r m).parts.length c6) true;have hb:=zbp HB4.out (g:=w.heap.size+1+1+1) (by omega) (.slice A6 (zcv l r m).parts.length c6) (.bool true)
 have hK:Strs ((W4.setCell ⟨w.heap.size+1+1+1,0,none⟩ (.slice A6 (zcv l r m).parts.length c6)).setCell ⟨w.heap.size+1+1+1,1,none⟩ (.bool true)) (.slice A6 (zcv l r m).parts.length c6) (zcv l r m).parts:=Row.set_far (Row.set_far HS4x.out hne) hne;generalize (W4.setCell ⟨w.heap.size+1+1+1,0,none⟩ (.slice A6 (zcv l r m).parts.length c6)).setCell ⟨w.heap.size+1+1+1,1,none⟩ (.bool true)=W5 at hE hb hK ⊢;clear f0 f1 c0 c1;obtain⟨-,-,c0,c1⟩:=hE.all;exact bodyPost_ret (v:=.tuple #[.agg #[.slice A6 (zcv l r m).parts.length c6,.bool true],.int .i64 0]) (by simp [results,results142,go_sem,c0,c1]) rfl ⟨hb,A6,c6,rfl,fun x hx=>by have h1:=HF.out x hx;have h2:=HB.out.size;omega,hK,HSZ.out⟩
def zcz (w:World)(l r m:Pat)(e:Ending)(w':World):Prop:=Below w.heap.size w w'∧∃ A' c' C' d',e=.returned (.tuple #[.agg #[.bool false,.slice A' m.parts.length c',.bool true,.slice C' (zcv l r m).parts.length d',.bool true],.bool true,.int .i64 0])∧za9 w' (.slice A' m.parts.length c') m∧za9 w' (.slice C' (zcv l r m).parts.length d') (zcv l r m)
theorem zd0 (ex:Bool)(l r h m:Pat)(A B C:Option Addr)(a b c:Nat)(w:World)(hl:za9 w (.slice A l.parts.length a) l)(hh:za9 w (.slice B h.parts.length b) h)(hr:za9 w (.slice C r.parts.length c) r)(hn:zcw l r h m):
  Calls prog 98 #[.agg #[.bool ex,.slice A l.parts.length a,.bool true,.slice C r.parts.length c,.bool true],.agg #[.slice B h.parts.length b,.bool h.rest]] w (zcz w l r m):=by
 obtain⟨W1,hW1⟩:∃ W,W=((w.alloc (.cells #[.bool ex,.slice A l.parts.length a,.bool true,.slice C r.parts.length c,.bool true] 119)).alloc (.cells #[.slice B h.parts.length b,.bool h.rest] 97)).alloc (.cells #[.bool false,.slice none 0 0,.bool false,.slice none 0 0,.bool false] 119):=⟨_,rfl⟩;have hA:Below w.heap.size w W1:=by rw[hW1];exact (((Below.refl _ _).alloc (Nat.le_refl _) _).alloc (by simp) _).alloc (by simp;omega) _
 have h2:Blk W1 w.heap.size 119 [.bool ex,.slice A l.parts.length a,.bool true,.slice C r.parts.length c,.bool true]:=by rw[hW1];exact ((z0l w _ _).alloc _).alloc _
 have h3:zbo W1 (w.heap.size+1) (.slice B h.parts.length b) h.rest:=by
  rw[hW1];have:=z0l (w.alloc (.cells #[.bool ex,.slice A l.parts.length a,.bool true,.slice C r.parts.length c,.bool true] 119)) [.slice B h.parts.length b,.bool h.rest] 97;simp only[World.size_alloc] at this
  exact this.alloc _
 have h4:Blk W1 (w.heap.size+1+1) 119 [.bool false,.slice none 0 0,.bool false,.slice none 0 0,.bool false]:=by
  rw[hW1];have:=z0l ((w.alloc (.cells #[.bool ex,.slice A l.parts.length a,.bool true,.slice C r.parts.length c,.bool true] 119)).alloc (.cells #[.slice B h.parts.length b,.bool h.rest] 97)) [.bool false,.slice none 0 0,.bool false,.slice none 0 0,.bool false] 119;simp only[World.size_alloc] at this
  exact this
 have HRC:=hd_ (fun X (hX:Below w.heap.size w X)=>zaa ex l r A C a c X (hl.below hX) (hr.below hX));rw[hn.rule,hn.nl.rest,hn.nr.rest] at HRC;have HPC:=hd_ (fun X (hX:Below w.heap.size w X)=>za0 h B b X (hh.below hX).1 hh.small);rw[hn.hole] at HPC;have HME:=hd_ (fun X (hX:Below w.heap.size w X)=>zbr l h A B a b X (hl.below hX) (hh.below hX));rw[hn.nl.rest] at HME;have HCA:=hd_ (fun X (hX:Below w.heap.size w X) B' b' (hm:za9 X (.slice B' m.parts.length b') m)=>zcy l r h m A B' C a b' c X (hl.below hX) hm (hr.below hX) hn);have HMM:Hid (zai l h=some m∧m.rest=true):=hd_ ⟨hn.meet,hn.mr⟩;have HW1:=hd_ hW1;have H:=hd_ (And.intro hA (And.intro h2 (And.intro h3 h4)));clear hl hh hr hn hW1 hA h2 h3 h4;go_enter func98,ntmps98;go_upto_region 1 with fail;rw[← HW1.out];obtain⟨x0,x1,x2,x3,x4⟩:=(⟨H.out.2.1.cell 0,H.out.2.1.cell 1,H.out.2.1.cell 2,H.out.2.1.cell 3,H.out.2.1.cell 4⟩:W1.cell? ⟨w.heap.size,0,none⟩=some (.bool ex)∧W1.cell? ⟨w.heap.size,1,none⟩=some (.slice A l.parts.length a)∧W1.cell? ⟨w.heap.size,2,none⟩=some (.bool true)∧W1.cell? ⟨w.heap.size,3,none⟩=some (.slice C r.parts.length c)∧W1.cell? ⟨w.heap.size,4,none⟩=some (.bool true));have HC1:=hd_ (HRC.out W1 H.out.1);clear HRC;go_wp2_with fail;refine HC1.out.mono ?_;rintro e w2 ⟨rfl,hb⟩;have HB:=hd_ (z0r H.out.1 hb);have HG:=hd_ (And.intro (H.out.2.1.below hb H.out.2.1.lt) (And.intro (H.out.2.2.1.low hb) (H.out.2.2.2.below hb H.out.2.2.2.lt)));clear hb x0 x1 x2 x3 x4 HC1 H;have y0:=HG.out.2.1.c0;have y1:=HG.out.2.1.c1;have HC1:=hd_ (HPC.out w2 HB.out);clear HPC;go_wp2_with fail;refine HC1.out.mono ?_;rintro e w3 ⟨rfl,hb⟩;have HB:=hd_ (z0r HB.out hb);have HG:=hd_ (And.intro (HG.out.1.below hb HG.out.1.lt) (And.intro (HG.out.2.1.low hb) (HG.out.2.2.below hb HG.out.2.2.lt)));clear hb y0 y1 HC1;have y0:=HG.out.2.1.c0;have y1:=HG.out.2.1.c1;obtain⟨x1,x2⟩:=(⟨HG.out.1.cell 1,HG.out.1.cell 2⟩:w3.cell? ⟨w.heap.size,1,none⟩=some (.slice A l.parts.length a)∧w3.cell? ⟨w.heap.size,2,none⟩=some (.bool true));have hl3:w.heap.size+1+1<w3.heap.size:=HG.out.2.2.lt
 have HC1:=hd_ (HME.out w3 HB.out);clear HME;go_wp2_with fail;refine HC1.out.mono ?_;rintro e w4 ⟨hb,⟨hx,-⟩ | ⟨m',A6,c6,hmm,rfl,hfr,hpm⟩⟩
 ·rw[HMM.out.1] at hx;cases hx
 obtain rfl:m=m':=Option.some.inj (HMM.out.1.symm.trans hmm)
 rw[HMM.out.2];have HB4:=hd_ (z0r HB.out hb);have HG:=hd_ (And.intro (HG.out.1.below hb HG.out.1.lt) (HG.out.2.2.below hb HG.out.2.2.lt));have HF4:Hid (∀ x,(Value.slice A6 m.parts.length c6).ownBlock=some x→w.heap.size+1+1<x):=hd_ (fun x hx=>by have h1:=hfr x hx;omega)
 have HPM:=hd_ hpm;clear hb y0 y1 x1 x2 HC1 hmm hfr hpm hl3;have hX4:Below w4.heap.size w4 (w4.alloc (.cells #[.slice A6 m.parts.length c6,.bool true] 97)):=(Below.refl _ _).alloc (Nat.le_refl _) _;have HB5:=hd_ (z0r HB4.out hX4);have HG5:=hd_ (And.intro (HG.out.1.below hX4 HG.out.1.lt) (HG.out.2.below hX4 HG.out.2.lt));have HPM5:=hd_ (HPM.out.below hX4);have HN9:Hid (zbo (w4.alloc (.cells #[.slice A6 m.parts.length c6,.bool true] 97)) w4.heap.size (.slice A6 m.parts.length c6) true):=hd_ (z0l w4 [.slice A6 m.parts.length c6,.bool true] 97);clear hX4;go_upto_region 8 with fail;generalize w4.alloc (.cells #[.slice A6 m.parts.length c6,.bool true] 97)=W5 at HB5 HG5 HPM5 HN9 ⊢;generalize w4.heap.size=g9 at HN9 ⊢;obtain⟨x1,x2,x3,x4⟩:=(⟨HG5.out.1.cell 1,HG5.out.1.cell 2,HG5.out.1.cell 3,HG5.out.1.cell 4⟩:W5.cell? ⟨w.heap.size,1,none⟩=some (.slice A l.parts.length a)∧W5.cell? ⟨w.heap.size,2,none⟩=some (.bool true)∧W5.cell? ⟨w.heap.size,3,none⟩=some (.slice C r.parts.length c)∧W5.cell? ⟨w.heap.size,4,none⟩=some (.bool true));have y0:=HN9.out.c0;have y1:=HN9.out.c1;have HC1:=hd_ (HCA.out W5 HB5.out A6 c6 HPM5.out);have hl5:w.heap.size+1+1<W5.heap.size:=HG5.out.2.lt;clear HCA HG HB HB4 HPM;go_wp2_with fail;refine HC1.out.mono ?_;rintro e w6 ⟨hb,A7,c7,rfl,hfr,hpr⟩;have HB6:=hd_ (z0r HB5.out hb);have HZ6:=hd_ (HG5.out.2.below hb HG5.out.2.lt);have HPM6:=hd_ (HPM5.out.below hb);have HN9:=hd_ (HN9.out.low hb);have HF7:Hid (∀ x,(Value.slice A7 (zcv l r m).parts.length c7).ownBlock=some x→w.heap.size+1+1<x):=hd_ (fun x hx=>by have h1:=hfr x hx;omega)
 have HPR:=hd_ hpr;clear hb hfr hpr x1 x2 x3 x4 y0 y1 HC1 HG5 HB5 HPM5;have hX6:Below w6.heap.size w6 (w6.alloc (.cells #[.slice A7 (zcv l r m).parts.length c7,.bool true] 97)):=(Below.refl _ _).alloc (Nat.le_refl _) _;have HB7:=hd_ (z0r HB6.out hX6);have HZ7:=hd_ (HZ6.out.below hX6 HZ6.out.lt);have HPM7:=hd_ (HPM6.out.below hX6);have HPR7:=hd_ (HPR.out.below hX6);have HN97:=hd_ (HN9.out.low hX6);have HN11:Hid (zbo (w6.alloc (.cells #[.slice A7 (zcv l r m).parts.length c7,.bool true] 97)) w6.heap.size (.slice A7 (zcv l r m).parts.length c7) true):=hd_ (z0l w6 [.slice A7 (zcv l r m).parts.length c7,.bool true] 97);clear hX6;go_upto_region 11 with fail;generalize w6.alloc (.cells #[.slice A7 (zcv l r m).parts.length c7,.bool true] 97)=W7 at HB7 HZ7 HPM7 HPR7 HN97 HN11 ⊢;generalize w6.heap.size=g11 at HN11 ⊢;clear HB6 HZ6 HPM6 HPR HN9;have y0:=HN97.out.c0;have y1:=HN97.out.c1;have z0:=HN11.out.c0;have z1:=HN11.out.c1;obtain⟨u0,u1,u2,u3,u4⟩:=(⟨HZ7.out.cell 0,HZ7.out.cell 1,HZ7.out.cell 2,HZ7.out.cell 3,HZ7.out.cell 4⟩:W7.cell? ⟨w.heap.size+1+1,0,none⟩=some (.bool false)∧W7.cell? ⟨w.heap.size+1+1,1,none⟩=some (.slice none 0 0)∧W7.cell? ⟨w.heap.size+1+1,2,none⟩=some (.bool false)∧W7.cell? ⟨w.heap.size+1+1,3,none⟩=some (.slice none 0 0)∧W7.cell? ⟨w.heap.size+1+1,4,none⟩=some (.bool false));obtain⟨v0,v1,v2,v3,v4⟩:=(⟨HZ7.out.frozen 0,HZ7.out.frozen 1,HZ7.out.frozen 2,HZ7.out.frozen 3,HZ7.out.frozen 4⟩:W7.frozen? ⟨w.heap.size+1+1,0,none⟩=false∧W7.frozen? ⟨w.heap.size+1+1,1,none⟩=false∧W7.frozen? ⟨w.heap.size+1+1,2,none⟩=false∧W7.frozen? ⟨w.heap.size+1+1,3,none⟩=false∧W7.frozen? ⟨w.heap.size+1+1,4,none⟩=false);go_wp2_with fail;have hE:=((((HZ7.out.set_ 0 (.bool false)).set_ 1 (.slice A6 m.parts.length c6)).set_ 2 (.bool true)).set_ 3 (.slice A7 (zcv l r m).parts.length c7)).set_ 4 (.bool true);have hb:=((((HB7.out.setCell (p:=⟨w.heap.size+1+1,0,none⟩) (by simp;omega) (.bool false)).setCell (p:=⟨w.heap.size+1+1,1,none⟩) (by simp;omega) (.slice A6 m.parts.length c6)).setCell (p:=⟨w.heap.size+1+1,2,none⟩) (by simp;omega) (.bool true)).setCell (p:=⟨w.heap.size+1+1,3,none⟩) (by simp;omega) (.slice A7 (zcv l r m).parts.length c7)).setCell (p:=⟨w.heap.size+1+1,4,none⟩) (by simp;omega) (.bool true)
 have n6:(Value.slice A6 m.parts.length c6).ownBlock≠some (w.heap.size+1+1):=fun e=>by have:=HF4.out _ e;omega
 have n7:(Value.slice A7 (zcv l r m).parts.length c7).ownBlock≠some (w.heap.size+1+1):=fun e=>by have:=HF7.out _ e;omega
 have hP:za9 (((((W7.setCell ⟨w.heap.size+1+1,0,none⟩ (.bool false)).setCell ⟨w.heap.size+1+1,1,none⟩ (.slice A6 m.parts.length c6)).setCell ⟨w.heap.size+1+1,2,none⟩ (.bool true)).setCell ⟨w.heap.size+1+1,3,none⟩ (.slice A7 (zcv l r m).parts.length c7)).setCell ⟨w.heap.size+1+1,4,none⟩ (.bool true)) (.slice A6 m.parts.length c6) m:=⟨Row.set_far (Row.set_far (Row.set_far (Row.set_far (Row.set_far HPM7.out.1 n6) n6) n6) n6) n6,HPM7.out.2⟩;have hQ:za9 (((((W7.setCell ⟨w.heap.size+1+1,0,none⟩ (.bool false)).setCell ⟨w.heap.size+1+1,1,none⟩ (.slice A6 m.parts.length c6)).setCell ⟨w.heap.size+1+1,2,none⟩ (.bool true)).setCell ⟨w.heap.size+1+1,3,none⟩ (.slice A7 (zcv l r m).parts.length c7)).setCell ⟨w.heap.size+1+1,4,none⟩ (.bool true)) (.slice A7 (zcv l r m).parts.length c7) (zcv l r m):=⟨Row.set_far (Row.set_far (Row.set_far (Row.set_far (Row.set_far HPR7.out.1 n7) n7) n7) n7) n7,HPR7.out.2⟩;generalize (((((W7.setCell ⟨w.heap.size+1+1,0,none⟩ (.bool false)).setCell ⟨w.heap.size+1+1,1,none⟩ (.slice A6 m.parts.length c6)).setCell ⟨w.heap.size+1+1,2,none⟩ (.bool true)).setCell ⟨w.heap.size+1+1,3,none⟩ (.slice A7 (zcv l r m).parts.length c7)).setCell ⟨w.heap.size+1+1,4,none⟩ (.bool true))=W8 at hE hb hP hQ ⊢;have e0:=hE.cell 0;have e1:=hE.cell 1;have e2:=hE.cell 2;have e3:=hE.cell 3;have e4:=hE.cell 4;exact bodyPost_ret (v:=.tuple #[.agg #[.bool false,.slice A6 m.parts.length c6,.bool true,.slice A7 (zcv l r m).parts.length c7,.bool true],.bool true,.int .i64 0]) (by simp [results,results98,go_sem,e0,e1,e2,e3,e4]) rfl ⟨hb,A6,c6,A7,c7,rfl,hP,hQ⟩
end Go.Proofs.YtegeboijhifmcaaGreatDoor
