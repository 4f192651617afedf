/- A part. -/
import Derived.Test.YtijghobkkdbhnaaGreatDoorMgw10
import Derived.Deep.CutBlock
set_option linter.unusedVariables false
set_option linter.unusedSimpArgs false
set_option maxHeartbeats 8000000
set_option maxRecDepth 100000
namespace Go.Proofs.YtijghobkkdbhnaaGreatDoor
open Go.RowKit
theorem zbq {xs ys l:List ByteArray}(h:zak xs ys=some l):∀ z∈l,z∈xs∨z∈ys:=by
 induction xs generalizing ys l with
 | nil =>
  cases ys with
  | nil=>unfold zak at h;rw[← Option.some.inj h];intro z hz;cases hz
  | cons y ys=>cases h
 | cons x xs ih =>
  cases ys with
  | nil=>unfold zak at h;rw[← Option.some.inj h];exact fun z hz=>.inl hz
  | cons y ys =>
   unfold zak at h;cases hm:z9y x y with
   | none=>rw[hm] at h;cases h
   | some z =>
    rw[hm] at h;simp only[Option.map_eq_some_iff] at h
    obtain⟨l',h1,h2⟩:=h;subst h2;intro u hu;rcases List.mem_cons.1 hu with rfl | hu
    ·unfold z9y at hm;split at hm
     ·exact .inl (by rw[← Option.some.inj hm];exact List.mem_cons_self ..)
     ·split at hm
      ·exact .inr (by rw[← Option.some.inj hm];exact List.mem_cons_self ..)
      ·cases hm
    ·rcases ih h1 u hu with h3 | h3
     ·exact .inl (List.mem_cons_of_mem _ h3)
     ·exact .inr (List.mem_cons_of_mem _ h3)
theorem zbr {xs ys l:List ByteArray}(h:zak xs ys=some l):l.length=xs.length:=by
 induction xs generalizing ys l with
 | nil =>
  cases ys with
  | nil=>unfold zak at h;rw[← Option.some.inj h]
  | cons y ys=>cases h
 | cons x xs ih =>
  cases ys with
  | nil=>unfold zak at h;rw[← Option.some.inj h]
  | cons y ys =>
   unfold zak at h;cases hm:z9y x y with
   | none=>rw[hm] at h;cases h
   | some z =>
    rw[hm] at h;simp only[Option.map_eq_some_iff] at h
    obtain⟨l',h1,h2⟩:=h;subst h2;rw[List.length_cons,List.length_cons,ih h1]
def zbs (w:World)(p q:Pat)(e:Ending)(w':World):Prop:=
 Below w.heap.size w w'∧(zan p q=none∧e=.returned (.tuple #[.agg #[.slice none 0 0,.bool false],.bool false])∨∃ m A c,zan p q=some m∧e=.returned (.tuple #[.agg #[.slice A m.parts.length c,.bool m.rest],.bool true])∧(∀ x,(Value.slice A m.parts.length c).ownBlock=some x→w.heap.size≤x)∧zae w' (.slice A m.parts.length c) m)
def zbt (w:World)(g:Nat)(v:Value)(b:Bool):Prop:=Blk w g 68 [v,.bool b]
theorem zbt.c0 {w:World}{g:Nat}{v:Value}{b:Bool}(h:zbt w g v b):w.cell? ⟨g,0,none⟩=some v:=Blk.cell h 0
theorem zbt.c1 {w:World}{g:Nat}{v:Value}{b:Bool}(h:zbt w g v b):w.cell? ⟨g,1,none⟩=some (.bool b):=Blk.cell h 1
theorem zbt.f0 {w:World}{g:Nat}{v:Value}{b:Bool}(h:zbt w g v b):w.frozen? ⟨g,0,none⟩=false:=Blk.frozen h 0
theorem zbt.f1 {w:World}{g:Nat}{v:Value}{b:Bool}(h:zbt w g v b):w.frozen? ⟨g,1,none⟩=false:=Blk.frozen h 1
theorem zbt.all {w:World}{g:Nat}{v:Value}{b:Bool}(h:zbt w g v b):w.frozen? ⟨g,0,none⟩=false∧w.frozen? ⟨g,1,none⟩=false∧w.cell? ⟨g,0,none⟩=some v∧w.cell? ⟨g,1,none⟩=some (.bool b):=⟨h.f0,h.f1,h.c0,h.c1⟩
theorem zbu {B:Nat}{w w':World}(h:Below B w w'){g:Nat}(hg:B≤g)(u0 u1:Value):Below B w ((w'.setCell ⟨g,0,none⟩ u0).setCell ⟨g,1,none⟩ u1):=(h.setCell (p:=⟨g,0,none⟩) hg u0).setCell (p:=⟨g,1,none⟩) hg u1
theorem zbt.low {w w':World}{g:Nat}{v:Value}{b:Bool}(h:zbt w g v b)(hb:Below w.heap.size w w'):zbt w' g v b:=Blk.below h hb (Blk.lt h)
theorem zbt.put {w:World}{g:Nat}{v:Value}{b:Bool}(h:zbt w g v b)(v':Value)(b':Bool):zbt ((w.setCell ⟨g,0,none⟩ v').setCell ⟨g,1,none⟩ (.bool b')) g v' b':=Blk.set_ (Blk.set_ h 0 v') 1 (.bool b')
theorem zbt.far {w:World}{g g':Nat}{v:Value}{b:Bool}(h:zbt w g v b)(hg:g'≠g)(u0 u1:Value):zbt ((w.setCell ⟨g',0,none⟩ u0).setCell ⟨g',1,none⟩ u1) g v b:=Blk.far (Blk.far h hg u0) hg u1
structure MtSt (w wx:World)(p q x y:Pat)(vx vy:Value):Prop where
 low:Below w.heap.size w wx
 b2:zbt wx w.heap.size vx x.rest
 b3:zbt wx (w.heap.size+1) vy y.rest
 b4:zbt wx (w.heap.size+1+1) (.slice none 0 0) false
 px:zae wx vx x
 py:zae wx vy y
 le:y.parts.length≤x.parts.length
 len:x.parts.length≤12
 is:zan p q=(zak x.parts y.parts).map (fun l=>⟨l,x.rest && y.rest⟩)
theorem MtSt.next {w wx wy:World}{p q x y:Pat}{vx vy:Value}(h:MtSt w wx p q x y vx vy)(hb:Below wx.heap.size wx wy):MtSt w wy p q x y vx vy:=
 ⟨h.low.trans (hb.mono h.low.size),h.b2.low hb,h.b3.low hb,h.b4.low hb,h.px.below hb,h.py.below hb,h.le,h.len,h.is⟩
theorem zbv {xs done:List ByteArray}{k:Nat}(hd:done.length=k)(hx:k<xs.length):((done++xs.drop k).map Value.string)[k]? = some (.string xs[k]):=by
 subst hd;rw[List.getElem?_map,List.getElem?_append_right (Nat.le_refl _),Nat.sub_self,List.getElem?_drop,Nat.add_zero,List.getElem?_eq_getElem hx];rfl
theorem mt_set {xs done:List ByteArray}{k:Nat}{z:ByteArray}(hd:done.length=k)(hx:k<xs.length):((done++xs.drop k).map Value.string).set k (.string z)=((done++[z])++xs.drop (k+1)).map Value.string:=by
 subst hd;rw[List.drop_eq_getElem_cons hx,List.map_append,List.set_append_right _ _ (by simp),List.length_map,Nat.sub_self,List.map_cons,List.set_cons_zero,List.append_assoc,List.map_append];rfl
theorem zbw (p q:Pat)(A B:Option Addr)(a b:Nat)(w:World)(hp:zae w (.slice A p.parts.length a) p)(hq:zae w (.slice B q.parts.length b) q):
  Calls Tryz.prog 123 #[.agg #[.slice A p.parts.length a,.bool p.rest],.agg #[.slice B q.parts.length b,.bool q.rest]] w (zbs w p q):=by
 have hA:Below w.heap.size w (((w.alloc (.cells #[.slice A p.parts.length a,.bool p.rest] 68)).alloc (.cells #[.slice B q.parts.length b,.bool q.rest] 68)).alloc (.cells #[.slice none 0 0,.bool false] 68)):=(((Below.refl _ _).alloc (Nat.le_refl _) _).alloc (by simp) _).alloc (by simp;omega) _
 have h2:zbt (((w.alloc (.cells #[.slice A p.parts.length a,.bool p.rest] 68)).alloc (.cells #[.slice B q.parts.length b,.bool q.rest] 68)).alloc (.cells #[.slice none 0 0,.bool false] 68)) w.heap.size (.slice A p.parts.length a) p.rest:=((z0l w [.slice A p.parts.length a,.bool p.rest] 68).alloc _).alloc _;have h3:zbt (((w.alloc (.cells #[.slice A p.parts.length a,.bool p.rest] 68)).alloc (.cells #[.slice B q.parts.length b,.bool q.rest] 68)).alloc (.cells #[.slice none 0 0,.bool false] 68)) (w.heap.size+1) (.slice B q.parts.length b) q.rest:=by
  have:=(z0l (w.alloc (.cells #[.slice A p.parts.length a,.bool p.rest] 68)) [.slice B q.parts.length b,.bool q.rest] 68).alloc (.cells #[.slice none 0 0,.bool false] 68);rw[World.size_alloc] at this;exact this
 have h4:zbt (((w.alloc (.cells #[.slice A p.parts.length a,.bool p.rest] 68)).alloc (.cells #[.slice B q.parts.length b,.bool q.rest] 68)).alloc (.cells #[.slice none 0 0,.bool false] 68)) (w.heap.size+1+1) (.slice none 0 0) false:=by
  have:=z0l ((w.alloc (.cells #[.slice A p.parts.length a,.bool p.rest] 68)).alloc (.cells #[.slice B q.parts.length b,.bool q.rest] 68)) [.slice none 0 0,.bool false] 68;rw[World.size_alloc,World.size_alloc] at this;exact this
 have HCP:=hd_ (fun X (hX:Below w.heap.size w X)=>za5 p A a X (hp.below hX).1 hp.small);have HCQ:=hd_ (fun X (hX:Below w.heap.size w X)=>za5 q B b X (hq.below hX).1 hq.small);have HP:=hd_ hp;have HQ:=hd_ hq;have HM:Hid (zan p q=if z7j p=0∧z7j q=0∧zai p.parts.length p.rest q.parts.length q.rest=true then (zak (zal p q).parts (zam p q).parts).map (fun l=>⟨l,p.rest && q.rest⟩) else none):=hd_ rfl;clear hp hq;go_enter Tryz.func123,Tryz.ntmps123;go_upto_region 1 with fail;generalize ((w.alloc (.cells #[.slice A p.parts.length a,.bool p.rest] 68)).alloc (.cells #[.slice B q.parts.length b,.bool q.rest] 68)).alloc (.cells #[.slice none 0 0,.bool false] 68)=W1 at hA h2 h3 h4 ⊢;have H:=hd_ (And.intro hA (And.intro h2 (And.intro h3 h4)));have x0:=h2.c0;have x1:=h2.c1;have HC1:=hd_ (HCP.out W1 hA);clear h2 h3 h4 hA HCP;obtain⟨pe,hpe⟩:∃ pe,z7j p=pe:=⟨_,rfl⟩;rw[hpe] at HC1 HM;have HPE:=hd_ hpe;clear hpe;by_cases h0:pe=0
 case neg =>
  have qq:(pe != 0)=true:=by simpa using h0
  have HN:Hid (zan p q=none):=hd_ (by rw[HM.out];exact if_neg (fun h=>h0 h.1))
  clear h0 HM;go_wp2_with fail;refine HC1.out.mono ?_;rintro e w2 ⟨rfl,hb⟩;have HB:=hd_ (z0r H.out.1 hb);have HZ:=hd_ (H.out.2.2.2.low hb);clear hb x0 x1;obtain⟨f0,f1,c0,c1⟩:=HZ.out.all;go_wp2_with fail;have hE:=HZ.out.put (.slice none 0 0) false;have hb:=zbu HB.out (g:=w.heap.size+1+1) (by omega) (.slice none 0 0) (.bool false)
  generalize (w2.setCell ⟨w.heap.size+1+1,0,none⟩ (.slice none 0 0)).setCell ⟨w.heap.size+1+1,1,none⟩ (.bool false)=W3 at hE hb ⊢;clear f0 f1 c0 c1;obtain⟨-,-,c0,c1⟩:=hE.all;exact bodyPost_ret (v:=.tuple #[.agg #[.slice none 0 0,.bool false],.bool false]) (by simp [results,Tryz.results123,go_sem,c0,c1]) rfl ⟨hb,.inl ⟨HN.out,rfl⟩⟩
 subst h0;obtain⟨qe,hqe⟩:∃ qe,z7j q=qe:=⟨_,rfl⟩;have HC2:=hd_ (fun X hX=>HCQ.out X hX);rw[hqe] at HC2 HM;have HQE:=hd_ hqe;clear hqe HCQ;by_cases h0:qe=0
 case neg =>
  have qq:(qe != 0)=true:=by simpa using h0
  have HN:Hid (zan p q=none):=hd_ (by rw[HM.out];exact if_neg (fun h=>h0 h.2.1))
  clear h0 HM;go_wp2_with fail;refine HC1.out.mono ?_;rintro e w2 ⟨rfl,hb⟩;have HB:=hd_ (z0r H.out.1 hb);have HZ:=hd_ (H.out.2.2.2.low hb);have hq2:=H.out.2.2.1.low hb;have y0:=hq2.c0;have y1:=hq2.c1;have HC3:=hd_ (HC2.out w2 HB.out);clear hb x0 x1 hq2;go_wp2_with fail;refine HC3.out.mono ?_;rintro e w3 ⟨rfl,hb⟩;have HZ:=hd_ (HZ.out.low hb);have HB:=hd_ (z0r HB.out hb);clear hb y0 y1;obtain⟨f0,f1,c0,c1⟩:=HZ.out.all;go_wp2_with fail;have hE:=HZ.out.put (.slice none 0 0) false;have hb:=zbu HB.out (g:=w.heap.size+1+1) (by omega) (.slice none 0 0) (.bool false)
  generalize (w3.setCell ⟨w.heap.size+1+1,0,none⟩ (.slice none 0 0)).setCell ⟨w.heap.size+1+1,1,none⟩ (.bool false)=W3 at hE hb ⊢;clear f0 f1 c0 c1;obtain⟨-,-,c0,c1⟩:=hE.all;exact bodyPost_ret (v:=.tuple #[.agg #[.slice none 0 0,.bool false],.bool false]) (by simp [results,Tryz.results123,go_sem,c0,c1]) rfl ⟨hb,.inl ⟨HN.out,rfl⟩⟩
 subst h0;have HMM:Hid (zan p q=if zai p.parts.length p.rest q.parts.length q.rest=true then (zak (zal p q).parts (zam p q).parts).map (fun l=>⟨l,p.rest && q.rest⟩) else none):=hd_ (by
  rw[HM.out];by_cases h:zai p.parts.length p.rest q.parts.length q.rest=true
  ·rw[if_pos ⟨rfl,rfl,h⟩,if_pos h]
  ·rw[if_neg (fun hh=>h hh.2.2),if_neg h])
 clear HM;have HCO:=hd_ (fun X=>zaj p.parts.length q.parts.length p.rest q.rest X);generalize zai p.parts.length p.rest q.parts.length q.rest=cb at HMM HCO;go_wp2_with fail;refine HC1.out.mono ?_;rintro e w2 ⟨rfl,hb⟩;have HB:=hd_ (z0r H.out.1 hb);have HG:=hd_ (And.intro (H.out.2.1.low hb) (And.intro (H.out.2.2.1.low hb) (H.out.2.2.2.low hb)));have y0:=HG.out.2.1.c0;have y1:=HG.out.2.1.c1;have HC3:=hd_ (HC2.out w2 HB.out);clear hb x0 x1 H HC1 HC2;go_wp2_with fail;refine HC3.out.mono ?_;rintro e w3 ⟨rfl,hb⟩;have HG:=hd_ (And.intro (HG.out.1.low hb) (And.intro (HG.out.2.1.low hb) (HG.out.2.2.low hb)));have HB:=hd_ (z0r HB.out hb);clear hb y0 y1 HC3;have x0:=HG.out.1.c0;have x1:=HG.out.1.c1;have y0:=HG.out.2.1.c0;have y1:=HG.out.2.1.c1;cases cb with
 | false =>
  have HN:Hid (zan p q=none):=hd_ (by rw[HMM.out];rfl)
  have HZ:=hd_ HG.out.2.2;obtain⟨f0,f1,c0,c1⟩:=HZ.out.all;go_wp2_with (go_at_call 171;refine (HCO.out _).mono ?_;rintro e w' ⟨rfl,rfl⟩)
  clear x0 x1 y0 y1;have hE:=HZ.out.put (.slice none 0 0) false;have hb:=zbu HB.out (g:=w.heap.size+1+1) (by omega) (.slice none 0 0) (.bool false)
  generalize (w3.setCell ⟨w.heap.size+1+1,0,none⟩ (.slice none 0 0)).setCell ⟨w.heap.size+1+1,1,none⟩ (.bool false)=W3 at hE hb ⊢;clear f0 f1 c0 c1;obtain⟨-,-,c0,c1⟩:=hE.all;exact bodyPost_ret (v:=.tuple #[.agg #[.slice none 0 0,.bool false],.bool false]) (by simp [results,Tryz.results123,go_sem,c0,c1]) rfl ⟨hb,.inl ⟨HN.out,rfl⟩⟩
 | true =>
  rw[if_pos rfl] at HMM;go_upto_region 5 with (go_at_call 171;refine (HCO.out _).mono ?_;rintro e w' ⟨rfl,rfl⟩)
  have HMB:Hid (zal p q=if p.parts.length<q.parts.length then q else p):=hd_ rfl;have HMS:Hid (zam p q=if p.parts.length<q.parts.length then p else q):=hd_ rfl;by_cases hlt:p.parts.length<q.parts.length
  focus
   have q1:decide ((p.parts.length:Int)<(q.parts.length:Int))=true:=by simp;omega
   obtain⟨f0,f1,-,-⟩:=HG.out.1.all;obtain⟨f2,f3,-,-⟩:=HG.out.2.1.all;have n1:¬(w.heap.size=w.heap.size+1):=by omega
   have HLT:=hd_ hlt;clear hlt;go_upto_region 7 with fail;have hx:=(HG.out.1.put (.slice B q.parts.length b) q.rest).far (g':=w.heap.size+1) (by omega) (.slice A p.parts.length a) (.bool p.rest)
   have hy:=(HG.out.2.1.far (g':=w.heap.size) (by omega) (.slice B q.parts.length b) (.bool q.rest)).put (.slice A p.parts.length a) p.rest
   have hz:=(HG.out.2.2.far (g':=w.heap.size) (by omega) (.slice B q.parts.length b) (.bool q.rest)).far (g':=w.heap.size+1) (by omega) (.slice A p.parts.length a) (.bool p.rest)
   have hb:=zbu (zbu HB.out (g:=w.heap.size) (Nat.le_refl _) (.slice B q.parts.length b) (.bool q.rest)) (g:=w.heap.size+1) (by omega) (.slice A p.parts.length a) (.bool p.rest)
   generalize (((w3.setCell ⟨w.heap.size,0,none⟩ (.slice B q.parts.length b)).setCell ⟨w.heap.size,1,none⟩ (.bool q.rest)).setCell ⟨w.heap.size+1,0,none⟩ (.slice A p.parts.length a)).setCell ⟨w.heap.size+1,1,none⟩ (.bool p.rest)=wx at hx hy hz hb ⊢;obtain⟨x,y,X,Y,c1,c2,HI⟩:∃(x y:Pat) (X Y:Option Addr) (c1 c2:Nat),Hid (MtSt w wx p q x y (.slice X x.parts.length c1) (.slice Y y.parts.length c2)):=⟨q,p,B,A,b,a,hd_ ⟨hb,hx,hy,hz,HQ.out.below hb,HP.out.below hb,by have:=HLT.out;omega,zat HQE.out,by rw[HMM.out,HMB.out,HMS.out,if_pos HLT.out,if_pos HLT.out,Bool.and_comm]⟩⟩
   clear x0 x1 y0 y1 q1 f0 f1 f2 f3 n1 hx hy hz hb HB HG HMM
  rotate_left
  focus
   have q1:decide ((p.parts.length:Int)<(q.parts.length:Int))=false:=by simp;omega
   have HLT:=hd_ hlt;clear hlt;go_upto_region 7 with fail;obtain⟨wx,rfl⟩:∃ X,X=w3:=⟨_,rfl⟩;obtain⟨x,y,X,Y,c1,c2,HI⟩:∃(x y:Pat) (X Y:Option Addr) (c1 c2:Nat),Hid (MtSt w wx p q x y (.slice X x.parts.length c1) (.slice Y y.parts.length c2)):=⟨p,q,A,B,a,b,hd_ ⟨HB.out,HG.out.1,HG.out.2.1,HG.out.2.2,HP.out.below HB.out,HQ.out.below HB.out,by have:=HLT.out;omega,zat HPE.out,by rw[HMM.out,HMB.out,HMS.out,if_neg HLT.out,if_neg HLT.out]⟩⟩
   clear x0 x1 y0 y1 q1 HB HG HMM
  all_goals
   clear HMB HMS HLT HP HQ HPE HQE;have x0:=HI.out.b2.c0;have x1:=HI.out.b2.c1;have HCL:=hd_ (zau x.parts _ _ HI.out.px.1 (by have:=HI.out.len;omega))
   go_wp2_with fail;refine HCL.out.mono ?_;rintro e w5 ⟨v',rfl,hown,hb⟩;have HO:=hd_ hown;have HB5:=hd_ hb;have y0:=(HI.out.next hb).b3.c0;clear x0 x1 hown hb HCL;have HLE:=hd_ HI.out.le;go_wp2_with fail;go_loopw [48] (fun i wr=>∃(k:Nat) (done:List ByteArray),i=.int .i64 k∧k≤y.parts.length∧Hid (zao x.parts y.parts k done∧Below wx.heap.size wx wr∧wr.ownsRow wx.heap.size 9 1 v' x.parts.length ((done++x.parts.drop k).map .string))) (fun i _=>y.parts.length - (intOf i).toNat)
   case atStart=>exact⟨0,[],rfl,Nat.zero_le _,hd_ ⟨zap _ _,HB5.out,by simpa using HO.out⟩⟩
   case round =>
    obtain⟨k,done,rfl,hk,HJ⟩:=hrel;clear y0;have hyl:y.parts.length≤12:=by have:=HI.out.le;have:=HI.out.len;omega
    by_cases hlt:k<y.parts.length
    ·have hxl:k<x.parts.length:=by have:=HLE.out;omega
     obtain⟨ad,rfl,hab,s0⟩:=Strs.at_ (HI.out.next HJ.out.2.1).py.1 hlt;obtain⟨g,cg,rfl⟩:=z0s HJ.out.2.2 (by omega)
     obtain⟨r0,r1,r2⟩:=zah HJ.out.2.2 (zbv HJ.out.1.1 hxl);have HMP:=hd_ (fun X=>za0 x.parts[k] y.parts[k] X (HI.out.px.2 _ (List.getElem_mem _)) (HI.out.py.2 _ (List.getElem_mem _)));have HNO:=hd_ (fun h:z9y x.parts[k] y.parts[k]=none=>(by rw[HI.out.is,zaq HJ.out.1 hxl hlt h];rfl:zan p q=none))
     have HYE:=hd_ (fun z (h:z9y x.parts[k] y.parts[k]=some z)=>zar HJ.out.1 hxl hlt h);generalize x.parts[k]=s at r0 HMP HNO HYE;generalize y.parts[k]=t at s0 HMP HNO HYE;generalize z9y s t=o at HMP HNO HYE;clear hab;have HXL:=hd_ hxl;have HLT:=hd_ hlt;have hxz:(k:Int)<(x.parts.length:Int):=by omega
     cases o with
     | none =>
      have HN:=hd_ (HNO.out rfl);go_wp2_with fail;refine (HMP.out _).mono ?_;rintro e w6 ⟨rfl,hb6⟩;have HI6:=hd_ (HI.out.next (z0r HJ.out.2.1 hb6));clear hb6 r0 r1 s0;obtain⟨f0,f1,c0,c1⟩:=HI6.out.b4.all;go_wp2_with fail;have hE:=HI6.out.b4.put (.slice none 0 0) false;have hb:=zbu HI6.out.low (g:=w.heap.size+1+1) (by omega) (.slice none 0 0) (.bool false)
      generalize (w6.setCell ⟨w.heap.size+1+1,0,none⟩ (.slice none 0 0)).setCell ⟨w.heap.size+1+1,1,none⟩ (.bool false)=W3 at hE hb ⊢;clear f0 f1 c0 c1;obtain⟨-,-,c0,c1⟩:=hE.all;exact bodyPost_ret (v:=.tuple #[.agg #[.slice none 0 0,.bool false],.bool false]) (by simp [results,Tryz.results123,go_sem,c0,c1]) rfl ⟨hb,.inl ⟨HN.out,rfl⟩⟩
     | some z =>
      have HN:=hd_ (HYE.out z rfl);have HGE:=hd_ r2;go_wp2_with fail;refine (HMP.out _).mono ?_;rintro e w6 ⟨rfl,hb6⟩;have HB6:=hd_ (z0r HJ.out.2.1 hb6);have HO6:=hd_ (z0n HJ.out.2.2 hb6);clear hb6 r0 r1 r2 s0;obtain⟨r0,r1,-⟩:=zah HO6.out (zbv HJ.out.1.1 HXL.out);go_wp2_with fail;go_roundw
      case rel=>exact⟨k+1,done++[z],by go_num,by omega,hd_ ⟨HN.out,Below.setCell HB6.out (p:=⟨g,k,none⟩) HGE.out _,by rw[← mt_set HJ.out.1.1 HXL.out];exact zag HO6.out _⟩⟩
      case measure=>simp [intOf];omega
    ·have hke:k=y.parts.length:=by omega
     subst hke;have HME:=hd_ (zas HJ.out.1);have HIS:Hid (zan p q=some ⟨done++x.parts.drop y.parts.length,x.rest && y.rest⟩):=hd_ (by rw[HI.out.is,HME.out];rfl)
     have HIE:=hd_ (HI.out.next HJ.out.2.1);have HLN:=hd_ (zbr HME.out);have HMS:=hd_ (zbq HME.out);have hge:¬((y.parts.length:Int)<(y.parts.length:Int)):=by omega
     obtain⟨Av,cv,rfl⟩:=z0o HJ.out.2.2;have HFR:Hid (∀(Aw:Option Addr) (n cw:Nat),(Aw=Av)→∀ x,(Value.slice Aw n cw).ownBlock=some x→w.heap.size≤x):=hd_ (fun Aw n cw e x hx=>by
      subst e;have:=(HJ.out.2.2.lt x (by cases Aw with | none=>cases hx | some ad=>exact hx)).1
      have:=HI.out.low.size;omega)
     have x1:=HIE.out.b2.c1;have y1:=HIE.out.b3.c1;obtain⟨f0,f1,c0,c1⟩:=HIE.out.b4.all;obtain⟨bx,hbx⟩:∃ bx,x.rest=bx:=⟨_,rfl⟩;obtain⟨by',hby⟩:∃ by',y.rest=by':=⟨_,rfl⟩
     rw[hbx] at x1 HIS;rw[hby] at y1 HIS;clear hbx hby;generalize done++x.parts.drop y.parts.length=l at HJ HME HIS HLN HMS;cases bx with
     | false =>
      go_wp2_with fail;have hb:=zbu HIE.out.low (g:=w.heap.size+1+1) (by omega) (.slice Av x.parts.length cv) (.bool false)
      have hE:=HIE.out.b4.put (.slice Av x.parts.length cv) false;have hO:=Row.of_own (ownsRow_setCell_below (ownsRow_setCell_below HJ.out.2.2 (a:=⟨w.heap.size+1+1,0,none⟩) (Blk.lt HI.out.b4) (.slice Av x.parts.length cv)) (a:=⟨w.heap.size+1+1,1,none⟩) (Blk.lt HI.out.b4) (.bool false));generalize (wr.setCell ⟨w.heap.size+1+1,0,none⟩ (.slice Av x.parts.length cv)).setCell ⟨w.heap.size+1+1,1,none⟩ (.bool false)=W3 at hE hb hO ⊢;clear f0 f1 c0 c1;obtain⟨-,-,c0,c1⟩:=hE.all;refine bodyPost_ret (v:=.tuple #[.agg #[.slice Av x.parts.length cv,.bool false],.bool true]) (by simp [results,Tryz.results123,go_sem,c0,c1]) rfl ⟨hb,.inr ⟨⟨l,false⟩,Av,cv,HIS.out,?_,HFR.out Av _ cv rfl,?_,fun z hz=>?_⟩⟩
      ·show _=Ending.returned (.tuple #[.agg #[.slice Av l.length cv,.bool false],.bool true])
       rw[HLN.out]
      ·show Row W3 1 (.slice Av l.length cv) l.length (l.map .string)
       rw[HLN.out];exact hO
      ·rcases HMS.out z hz with h | h
       ·exact HI.out.px.2 z h
       ·exact HI.out.py.2 z h
     | true =>
      go_wp2_with fail;have hb:=zbu HIE.out.low (g:=w.heap.size+1+1) (by omega) (.slice Av x.parts.length cv) (.bool by')
      have hE:=HIE.out.b4.put (.slice Av x.parts.length cv) by'
      have hO:=Row.of_own (ownsRow_setCell_below (ownsRow_setCell_below HJ.out.2.2 (a:=⟨w.heap.size+1+1,0,none⟩) (Blk.lt HI.out.b4) (.slice Av x.parts.length cv)) (a:=⟨w.heap.size+1+1,1,none⟩) (Blk.lt HI.out.b4) (.bool by'))
      generalize (wr.setCell ⟨w.heap.size+1+1,0,none⟩ (.slice Av x.parts.length cv)).setCell ⟨w.heap.size+1+1,1,none⟩ (.bool by')=W3 at hE hb hO ⊢
      clear f0 f1 c0 c1;obtain⟨-,-,c0,c1⟩:=hE.all;refine bodyPost_ret (v:=.tuple #[.agg #[.slice Av x.parts.length cv,.bool by'],.bool true]) (by simp [results,Tryz.results123,go_sem,c0,c1]) rfl ⟨hb,.inr ⟨⟨l,by'⟩,Av,cv,HIS.out,?_,HFR.out Av _ cv rfl,?_,fun z hz=>?_⟩⟩
      ·show _=Ending.returned (.tuple #[.agg #[.slice Av l.length cv,.bool by'],.bool true])
       rw[HLN.out]
      ·show Row W3 1 (.slice Av l.length cv) l.length (l.map .string)
       rw[HLN.out];exact hO
      ·rcases HMS.out z hz with h | h
       ·exact HI.out.px.2 z h
       ·exact HI.out.py.2 z h
