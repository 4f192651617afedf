/- A part. -/
import Derived.Test.YtlnjaagijaadmaaGreatDoorMvw9
set_option linter.unusedVariables false
set_option linter.unusedSimpArgs false
set_option maxHeartbeats 8000000
set_option maxRecDepth 100000
namespace Go.Proofs.YtlnjaagijaadmaaGreatDoor
open Go.RowKit
theorem zce {xs ys l:List zA}(h:zc3 xs ys=some l):∀ z∈l,z∈xs\/z∈ys:=by
 induction xs generalizing ys l with
 | nil =>
  cases ys with
  | nil=>unfold zc3 at h;rw[<- Option.some.inj h];intro z hz;cases hz
  | cons y ys=>cases h
 | cons x xs ih =>
  cases ys with
  | nil=>unfold zc3 at h;rw[<- Option.some.inj h];exact fun z hz=>.inl hz
  | cons y ys =>
   unfold zc3 at h;cases hm:zbm x y with
   | none=>rw[hm] at h;cases h
   | some z =>
    rw[hm] at h;simp only[Yg] at h
    obtain⟨l',h1,h2⟩:=h;subst h2;intro u hu;rcases Zn.1 hu with rfl | hu
    ·unfold zbm at hm;split at hm
     ·exact .inl (by rw[<- Option.some.inj hm];exact Zj ..)
     ·split at hm
      ·exact .inr (by rw[<- Option.some.inj hm];exact Zj ..)
      ·cases hm
    ·rcases ih h1 u hu with h3 | h3
     ·exact .inl (Zh _ h3)
     ·exact .inr (Zh _ h3)
theorem zcf {xs ys l:List zA}(h:zc3 xs ys=some l):l.length=xs.length:=by
 induction xs generalizing ys l with
 | nil =>
  cases ys with
  | nil=>unfold zc3 at h;rw[<- Option.some.inj h]
  | cons y ys=>cases h
 | cons x xs ih =>
  cases ys with
  | nil=>unfold zc3 at h;rw[<- Option.some.inj h]
  | cons y ys =>
   unfold zc3 at h;cases hm:zbm x y with
   | none=>rw[hm] at h;cases h
   | some z =>
    rw[hm] at h;simp only[Yg] at h
    obtain⟨l',h1,h2⟩:=h;subst h2;rw[Zz,Zz,ih h1]
def zcg (w:zW)(p q:Pat)(e:Ending)(w':zW):Prop:=
 zB w w'/\(zc6 p q=none/\e=.returned (.tuple #[.agg #[zL none 0 0,.bool false],.bool false])\/∃ m A c,zc6 p q=some m/\e=.returned (.tuple #[.agg #[zL A m.kp.length c,.bool m.kr],.bool true])/\(∀ x,(zL A m.kp.length c).ownBlock=some x->w.heap.size<=x)/\zbx w' (zL A m.kp.length c) m)
def zch (w:zW)(g:Nat)(v:zV)(b:Bool):Prop:=Blk w g 56 [v,.bool b]
theorem zch.c0 {w:zW}{g:Nat}{v:zV}{b:Bool}(h:zch w g v b):w.cell? ⟨g,0,none⟩=some v:=Blk.cell h 0
theorem zch.c1 {w:zW}{g:Nat}{v:zV}{b:Bool}(h:zch w g v b):w.cell? ⟨g,1,none⟩=some (.bool b):=Blk.cell h 1
theorem zch.f0 {w:zW}{g:Nat}{v:zV}{b:Bool}(h:zch w g v b):w.frozen? ⟨g,0,none⟩=false:=Blk.frozen h 0
theorem zch.f1 {w:zW}{g:Nat}{v:zV}{b:Bool}(h:zch w g v b):w.frozen? ⟨g,1,none⟩=false:=Blk.frozen h 1
theorem zch.all {w:zW}{g:Nat}{v:zV}{b:Bool}(h:zch w g v b):w.frozen? ⟨g,0,none⟩=false/\w.frozen? ⟨g,1,none⟩=false/\w.cell? ⟨g,0,none⟩=some v/\w.cell? ⟨g,1,none⟩=some (.bool b):=⟨h.f0,h.f1,h.c0,h.c1⟩
theorem zci {B:Nat}{w w':zW}(h:Below B w w'){g:Nat}(hg:B<=g)(u0 u1:zV):Below B w ((w'.setCell ⟨g,0,none⟩ u0).setCell ⟨g,1,none⟩ u1):=(h.setCell (p:=⟨g,0,none⟩) hg u0).setCell (p:=⟨g,1,none⟩) hg u1
theorem zch.low {w w':zW}{g:Nat}{v:zV}{b:Bool}(h:zch w g v b)(hb:zB w w'):zch w' g v b:=Blk.kw h hb (Blk.lt h)
theorem zch.put {w:zW}{g:Nat}{v:zV}{b:Bool}(h:zch w g v b)(v':zV)(b':Bool):zch ((w.setCell ⟨g,0,none⟩ v').setCell ⟨g,1,none⟩ (.bool b')) g v' b':=Blk.set_ (Blk.set_ h 0 v') 1 (.bool b')
theorem zch.far {w:zW}{g g':Nat}{v:zV}{b:Bool}(h:zch w g v b)(hg:g'≠g)(u0 u1:zV):zch ((w.setCell ⟨g',0,none⟩ u0).setCell ⟨g',1,none⟩ u1) g v b:=Blk.far (Blk.far h hg u0) hg u1
structure MtSt (w wx:zW)(p q x y:Pat)(vx vy:zV):Prop where
 low:zB w wx
 b2:zch wx w.heap.size vx x.kr
 b3:zch wx (w.heap.size+1) vy y.kr
 b4:zch wx (w.heap.size+1+1) (zL none 0 0) false
 px:zbx wx vx x
 py:zbx wx vy y
 le:y.kp.length<=x.kp.length
 len:x.kp.length<=12
 is:zc6 p q=(zc3 x.kp y.kp).map (fun l=>⟨l,x.kr && y.kr⟩)
theorem MtSt.next {w wx wy:zW}{p q x y:Pat}{vx vy:zV}(h:MtSt w wx p q x y vx vy)(hb:zB wx wy):MtSt w wy p q x y vx vy:=
 ⟨h.low.trans (hb.mono h.low.size),h.b2.low hb,h.b3.low hb,h.b4.low hb,h.px.kw hb,h.py.kw hb,h.le,h.len,h.is⟩
theorem zcj {xs done:List zA}{k:Nat}(hd:done.length=k)(hx:k<xs.length):((done++xs.drop k).map Value.string)[k]? = some (zS xs[k]):=by
 subst hd;rw[ZA,List.getElem?_append_right (Zd _),Nat.sub_self,List.getElem?_drop,Nat.add_zero,Ze hx];rfl
theorem mt_set {xs done:List zA}{k:Nat}{z:zA}(hd:done.length=k)(hx:k<xs.length):((done++xs.drop k).map Value.string).set k (zS z)=((done++[z])++xs.drop (k+1)).map Value.string:=by
 subst hd;rw[Zo hx,Zs,List.set_append_right _ _ (by simp),Zk,Nat.sub_self,ZN,List.set_cons_zero,ZE,Zs];rfl
theorem zck (p q:Pat)(A B:zP)(a b:Nat)(w:zW)(hp:zbx w (zL A p.kp.length a) p)(hq:zbx w (zL B q.kp.length b) q):
  Calls Tryz.prog 97 #[.agg #[zL A p.kp.length a,.bool p.kr],.agg #[zL B q.kp.length b,.bool q.kr]] w (zcg w p q):=by
 have hA:zB w (((w.alloc (zC #[zL A p.kp.length a,.bool p.kr] 56)).alloc (zC #[zL B q.kp.length b,.bool q.kr] 56)).alloc (zC #[zL none 0 0,.bool false] 56)):=((zR).alloc (by simp) _).alloc (by simp;omega) _
 have h2:zch (((w.alloc (zC #[zL A p.kp.length a,.bool p.kr] 56)).alloc (zC #[zL B q.kp.length b,.bool q.kr] 56)).alloc (zC #[zL none 0 0,.bool false] 56)) w.heap.size (zL A p.kp.length a) p.kr:=((z0l w [zL A p.kp.length a,.bool p.kr] 56).alloc _).alloc _;have h3:zch (((w.alloc (zC #[zL A p.kp.length a,.bool p.kr] 56)).alloc (zC #[zL B q.kp.length b,.bool q.kr] 56)).alloc (zC #[zL none 0 0,.bool false] 56)) (w.heap.size+1) (zL B q.kp.length b) q.kr:=by
  have:=(z0l (w.alloc (zC #[zL A p.kp.length a,.bool p.kr] 56)) [zL B q.kp.length b,.bool q.kr] 56).alloc (zC #[zL none 0 0,.bool false] 56);rw[Zl] at this;exact this
 have h4:zch (((w.alloc (zC #[zL A p.kp.length a,.bool p.kr] 56)).alloc (zC #[zL B q.kp.length b,.bool q.kr] 56)).alloc (zC #[zL none 0 0,.bool false] 56)) (w.heap.size+1+1) (zL none 0 0) false:=by
  have:=z0l ((w.alloc (zC #[zL A p.kp.length a,.bool p.kr] 56)).alloc (zC #[zL B q.kp.length b,.bool q.kr] 56)) [zL none 0 0,.bool false] 56;rw[Zl,Zl] at this;exact this
 have HCP:=hd_ (fun X (hX:zB w X)=>z99 p A a X (hp.kw hX).1 hp.small);have HCQ:=hd_ (fun X (hX:zB w X)=>z99 q B b X (hq.kw hX).1 hq.small);have HP:=hd_ hp;have HQ:=hd_ hq;have HM:Hid (zc6 p q=if z8w p=0/\z8w q=0/\zc1 p.kp.length p.kr q.kp.length q.kr=true then (zc3 (zc4 p q).kp (zc5 p q).kp).map (fun l=>⟨l,p.kr && q.kr⟩) else none):=hd_ rfl;clear hp hq;go_enter Tryz.func97,Tryz.ntmps97;go_upto_region 1 with fail;generalize ((w.alloc (zC #[zL A p.kp.length a,.bool p.kr] 56)).alloc (zC #[zL B q.kp.length b,.bool q.kr] 56)).alloc (zC #[zL none 0 0,.bool false] 56)=W1 at hA h2 h3 h4 |-;have H:=hd_ (Zi hA (Zi h2 (Zi h3 h4)));have x0:=h2.c0;have x1:=h2.c1;have HC1:=hd_ (HCP W1 hA);clear h2 h3 h4 hA HCP;obtain⟨pe,hpe⟩:∃ pe,z8w p=pe:=⟨_,rfl⟩;rw[hpe] at HC1 HM;have HPE:=hd_ hpe;clear hpe;by_cases h0:pe=0
 case neg =>
  have qq:(pe != 0)=true:=by simpa using h0
  have HN:Hid (zc6 p q=none):=hd_ (by rw[HM.out];exact if_neg (fun h=>h0 h.1))
  clear h0 HM;go_wp2_with fail;refine HC1.mono ?_;rintro e w2 ⟨rfl,hb⟩;have HB:=hd_ (z0r H.1 hb);have HZ:=hd_ (H.2.2.2.low hb);clear hb x0 x1;obtain⟨f0,f1,c0,c1⟩:=HZ.out.all;go_wp2_with fail;have hE:=HZ.out.put (zL none 0 0) false;have hb:=zci HB.out (g:=w.heap.size+1+1) (by omega) (zL none 0 0) (.bool false)
  generalize (w2.setCell ⟨w.heap.size+1+1,0,none⟩ (zL none 0 0)).setCell ⟨w.heap.size+1+1,1,none⟩ (.bool false)=W3 at hE hb |-;clear f0 f1 c0 c1;obtain⟨-,-,c0,c1⟩:=hE.all;exact bodyPost_ret (v:=.tuple #[.agg #[zL none 0 0,.bool false],.bool false]) (by simp [results,Tryz.results97,go_sem,c0,c1]) rfl ⟨hb,.inl ⟨HN,rfl⟩⟩
 subst h0;obtain⟨qe,hqe⟩:∃ qe,z8w q=qe:=⟨_,rfl⟩;have HC2:=hd_ (fun X hX=>HCQ X hX);rw[hqe] at HC2 HM;have HQE:=hd_ hqe;clear hqe HCQ;by_cases h0:qe=0
 case neg =>
  have qq:(qe != 0)=true:=by simpa using h0
  have HN:Hid (zc6 p q=none):=hd_ (by rw[HM.out];exact if_neg (fun h=>h0 h.2.1))
  clear h0 HM;go_wp2_with fail;refine HC1.mono ?_;rintro e w2 ⟨rfl,hb⟩;have HB:=hd_ (z0r H.1 hb);have HZ:=hd_ (H.2.2.2.low hb);have hq2:=H.out.2.2.1.low hb;have y0:=hq2.c0;have y1:=hq2.c1;have HC3:=hd_ (HC2 w2 HB);clear hb x0 x1 hq2;go_wp2_with fail;refine HC3.mono ?_;rintro e w3 ⟨rfl,hb⟩;have HZ:=hd_ (HZ.low hb);have HB:=hd_ (z0r HB hb);clear hb y0 y1;obtain⟨f0,f1,c0,c1⟩:=HZ.out.all;go_wp2_with fail;have hE:=HZ.out.put (zL none 0 0) false;have hb:=zci HB.out (g:=w.heap.size+1+1) (by omega) (zL none 0 0) (.bool false)
  generalize (w3.setCell ⟨w.heap.size+1+1,0,none⟩ (zL none 0 0)).setCell ⟨w.heap.size+1+1,1,none⟩ (.bool false)=W3 at hE hb |-;clear f0 f1 c0 c1;obtain⟨-,-,c0,c1⟩:=hE.all;exact bodyPost_ret (v:=.tuple #[.agg #[zL none 0 0,.bool false],.bool false]) (by simp [results,Tryz.results97,go_sem,c0,c1]) rfl ⟨hb,.inl ⟨HN,rfl⟩⟩
 subst h0;have HMM:Hid (zc6 p q=if zc1 p.kp.length p.kr q.kp.length q.kr=true then (zc3 (zc4 p q).kp (zc5 p q).kp).map (fun l=>⟨l,p.kr && q.kr⟩) else none):=hd_ (by
  rw[HM.out];by_cases h:zc1 p.kp.length p.kr q.kp.length q.kr=true
  ·rw[if_pos ⟨rfl,rfl,h⟩,if_pos h]
  ·rw[if_neg (fun hh=>h hh.2.2),if_neg h])
 clear HM;have HCO:=hd_ (fun X=>zc2 p.kp.length q.kp.length p.kr q.kr X);generalize zc1 p.kp.length p.kr q.kp.length q.kr=cb at HMM HCO;go_wp2_with fail;refine HC1.mono ?_;rintro e w2 ⟨rfl,hb⟩;have HB:=hd_ (z0r H.1 hb);have HG:=hd_ (Zi (H.out.2.1.low hb) (Zi (H.out.2.2.1.low hb) (H.out.2.2.2.low hb)));have y0:=HG.out.2.1.c0;have y1:=HG.out.2.1.c1;have HC3:=hd_ (HC2 w2 HB);clear hb x0 x1 H HC1 HC2;go_wp2_with fail;refine HC3.mono ?_;rintro e w3 ⟨rfl,hb⟩;have HG:=hd_ (Zi (HG.out.1.low hb) (Zi (HG.out.2.1.low hb) (HG.out.2.2.low hb)));have HB:=hd_ (z0r HB hb);clear hb y0 y1 HC3;have x0:=HG.out.1.c0;have x1:=HG.out.1.c1;have y0:=HG.out.2.1.c0;have y1:=HG.out.2.1.c1;cases cb with
 | false =>
  have HN:Hid (zc6 p q=none):=hd_ (by rw[HMM.out];rfl)
  have HZ:=hd_ HG.2.2;obtain⟨f0,f1,c0,c1⟩:=HZ.out.all;go_wp2_with (go_at_call 144;refine (HCO _).mono ?_;rintro e w' ⟨rfl,rfl⟩)
  clear x0 x1 y0 y1;have hE:=HZ.out.put (zL none 0 0) false;have hb:=zci HB.out (g:=w.heap.size+1+1) (by omega) (zL none 0 0) (.bool false)
  generalize (w3.setCell ⟨w.heap.size+1+1,0,none⟩ (zL none 0 0)).setCell ⟨w.heap.size+1+1,1,none⟩ (.bool false)=W3 at hE hb |-;clear f0 f1 c0 c1;obtain⟨-,-,c0,c1⟩:=hE.all;exact bodyPost_ret (v:=.tuple #[.agg #[zL none 0 0,.bool false],.bool false]) (by simp [results,Tryz.results97,go_sem,c0,c1]) rfl ⟨hb,.inl ⟨HN,rfl⟩⟩
 | true =>
  rw[if_pos rfl] at HMM;go_upto_region 5 with (go_at_call 144;refine (HCO _).mono ?_;rintro e w' ⟨rfl,rfl⟩)
  have HMB:Hid (zc4 p q=if p.kp.length<q.kp.length then q else p):=hd_ rfl;have HMS:Hid (zc5 p q=if p.kp.length<q.kp.length then p else q):=hd_ rfl;by_cases hlt:p.kp.length<q.kp.length
  focus
   have q1:decide ((p.kp.length:Int)<(q.kp.length:Int))=true:=by simp;omega
   obtain⟨f0,f1,-,-⟩:=HG.out.1.all;obtain⟨f2,f3,-,-⟩:=HG.out.2.1.all;have n1:¬(w.heap.size=w.heap.size+1):=by omega
   have HLT:=hd_ hlt;clear hlt;go_upto_region 7 with fail;have hx:=(HG.out.1.put (zL B q.kp.length b) q.kr).far (g':=w.heap.size+1) (by omega) (zL A p.kp.length a) (.bool p.kr)
   have hy:=(HG.out.2.1.far (g':=w.heap.size) (by omega) (zL B q.kp.length b) (.bool q.kr)).put (zL A p.kp.length a) p.kr
   have hz:=(HG.out.2.2.far (g':=w.heap.size) (by omega) (zL B q.kp.length b) (.bool q.kr)).far (g':=w.heap.size+1) (by omega) (zL A p.kp.length a) (.bool p.kr)
   have hb:=zci (zci HB.out (g:=w.heap.size) (Zd _) (zL B q.kp.length b) (.bool q.kr)) (g:=w.heap.size+1) (by omega) (zL A p.kp.length a) (.bool p.kr)
   generalize (((w3.setCell ⟨w.heap.size,0,none⟩ (zL B q.kp.length b)).setCell ⟨w.heap.size,1,none⟩ (.bool q.kr)).setCell ⟨w.heap.size+1,0,none⟩ (zL A p.kp.length a)).setCell ⟨w.heap.size+1,1,none⟩ (.bool p.kr)=wx at hx hy hz hb |-;obtain⟨x,y,X,Y,c1,c2,HI⟩:∃(x y:Pat) (X Y:zP) (c1 c2:Nat),Hid (MtSt w wx p q x y (zL X x.kp.length c1) (zL Y y.kp.length c2)):=⟨q,p,B,A,b,a,hd_ ⟨hb,hx,hy,hz,HQ.out.kw hb,HP.out.kw hb,by have:=HLT.out;omega,zcc HQE,by rw[HMM.out,HMB.out,HMS.out,if_pos HLT.out,if_pos HLT.out,Bool.and_comm]⟩⟩
   clear x0 x1 y0 y1 q1 f0 f1 f2 f3 n1 hx hy hz hb HB HG HMM
  rotate_left
  focus
   have q1:decide ((p.kp.length:Int)<(q.kp.length:Int))=false:=by simp;omega
   have HLT:=hd_ hlt;clear hlt;go_upto_region 7 with fail;obtain⟨wx,rfl⟩:∃ X,X=w3:=⟨_,rfl⟩;obtain⟨x,y,X,Y,c1,c2,HI⟩:∃(x y:Pat) (X Y:zP) (c1 c2:Nat),Hid (MtSt w wx p q x y (zL X x.kp.length c1) (zL Y y.kp.length c2)):=⟨p,q,A,B,a,b,hd_ ⟨HB.out,HG.out.1,HG.out.2.1,HG.out.2.2,HP.out.kw HB.out,HQ.out.kw HB.out,by have:=HLT.out;omega,zcc HPE,by rw[HMM.out,HMB.out,HMS.out,if_neg HLT.out,if_neg HLT.out]⟩⟩
   clear x0 x1 y0 y1 q1 HB HG HMM
  all_goals
   clear HMB HMS HLT HP HQ HPE HQE;have x0:=HI.out.b2.c0;have x1:=HI.out.b2.c1;have HCL:=hd_ (zcd x.kp _ _ HI.px.1 (by have:=HI.out.len;omega))
   go_wp2_with fail;refine HCL.mono ?_;rintro e w5 ⟨v',rfl,hown,hb⟩;have HO:=hd_ hown;have HB5:=hd_ hb;have y0:=(HI.out.next hb).b3.c0;clear x0 x1 hown hb HCL;have HLE:=hd_ HI.le;go_wp2_with fail;go_loopw [48] (fun i wr=>∃(k:Nat) (done:List zA),i=zI k/\k<=y.kp.length/\Hid (zc7 x.kp y.kp k done/\zB wx wr/\wr.ownsRow wx.heap.size 9 1 v' x.kp.length ((done++x.kp.drop k).map .string))) (fun i _=>y.kp.length - (intOf i).toNat)
   exact⟨0,[],rfl,Zg _,hd_ ⟨zc8 _ _,HB5,by simpa using HO.out⟩⟩
   obtain⟨k,done,rfl,hk,HJ⟩:=hrel;clear y0;have hyl:y.kp.length<=12:=by have:=HI.out.le;have:=HI.out.len;omega
   by_cases hlt:k<y.kp.length
   ·have hxl:k<x.kp.length:=by have:=HLE.out;omega
    obtain⟨ad,rfl,hab,s0⟩:=z20.at_ (HI.out.next HJ.out.2.1).py.1 hlt;obtain⟨g,cg,rfl⟩:=z0s HJ.out.2.2 (by omega)
    obtain⟨r0,r1,r2⟩:=zc0 HJ.out.2.2 (zcj HJ.out.1.1 hxl);have HMP:=hd_ (fun X=>zbo x.kp[k] y.kp[k] X (HI.px.2 _ (Za _)) (HI.py.2 _ (Za _)));have HNO:=hd_ (fun h:zbm x.kp[k] y.kp[k]=none=>(by rw[HI.out.is,zc9 HJ.out.1 hxl hlt h];rfl:zc6 p q=none))
    have HYE:=hd_ (fun z (h:zbm x.kp[k] y.kp[k]=some z)=>zca HJ.1 hxl hlt h);generalize x.kp[k]=s at r0 HMP HNO HYE;generalize y.kp[k]=t at s0 HMP HNO HYE;generalize zbm s t=o at HMP HNO HYE;clear hab;have HXL:=hd_ hxl;have HLT:=hd_ hlt;have hxz:(k:Int)<(x.kp.length:Int):=by omega
    cases o with
    | none =>
     have HN:=hd_ (HNO rfl);go_wp2_with fail;refine (HMP _).mono ?_;rintro e w6 ⟨rfl,hb6⟩;have HI6:=hd_ (HI.next (z0r HJ.2.1 hb6));clear hb6 r0 r1 s0;obtain⟨f0,f1,c0,c1⟩:=HI6.out.b4.all;go_wp2_with fail;have hE:=HI6.out.b4.put (zL none 0 0) false;have hb:=zci HI6.out.low (g:=w.heap.size+1+1) (by omega) (zL none 0 0) (.bool false)
     generalize (w6.setCell ⟨w.heap.size+1+1,0,none⟩ (zL none 0 0)).setCell ⟨w.heap.size+1+1,1,none⟩ (.bool false)=W3 at hE hb |-;clear f0 f1 c0 c1;obtain⟨-,-,c0,c1⟩:=hE.all;exact bodyPost_ret (v:=.tuple #[.agg #[zL none 0 0,.bool false],.bool false]) (by simp [results,Tryz.results97,go_sem,c0,c1]) rfl ⟨hb,.inl ⟨HN,rfl⟩⟩
    | some z =>
     have HN:=hd_ (HYE z rfl);have HGE:=hd_ r2;go_wp2_with fail;refine (HMP _).mono ?_;rintro e w6 ⟨rfl,hb6⟩;have HB6:=hd_ (z0r HJ.2.1 hb6);have HO6:=hd_ (z0n HJ.2.2 hb6);clear hb6 r0 r1 r2 s0;obtain⟨r0,r1,-⟩:=zc0 HO6.out (zcj HJ.out.1.1 HXL.out);go_wp2_with fail;go_roundw
     exact⟨k+1,done++[z],by go_num,by omega,hd_ ⟨HN,Below.setCell HB6 (p:=⟨g,k,none⟩) HGE _,by rw[<- mt_set HJ.out.1.1 HXL.out];exact zbz HO6 _⟩⟩
     simp [intOf];omega
   ·have hke:k=y.kp.length:=by omega
    subst hke;have HME:=hd_ (zcb HJ.1);have HIS:Hid (zc6 p q=some ⟨done++x.kp.drop y.kp.length,x.kr && y.kr⟩):=hd_ (by rw[HI.out.is,HME.out];rfl)
    have HIE:=hd_ (HI.next HJ.2.1);have HLN:=hd_ (zcf HME);have HMS:=hd_ (zce HME);have hge:¬((y.kp.length:Int)<(y.kp.length:Int)):=by omega
    obtain⟨Av,cv,rfl⟩:=z0o HJ.out.2.2;have HFR:Hid (∀(Aw:zP) (n cw:Nat),(Aw=Av)->∀ x,(zL Aw n cw).ownBlock=some x->w.heap.size<=x):=hd_ (fun Aw n cw e x hx=>by
     subst e;have:=(HJ.out.2.2.lt x (by cases Aw with | none=>cases hx | some ad=>exact hx)).1
     have:=HI.out.low.size;omega)
    have x1:=HIE.out.b2.c1;have y1:=HIE.out.b3.c1;obtain⟨f0,f1,c0,c1⟩:=HIE.out.b4.all;obtain⟨bx,hbx⟩:∃ bx,x.kr=bx:=⟨_,rfl⟩;obtain⟨by',hby⟩:∃ by',y.kr=by':=⟨_,rfl⟩
    rw[hbx] at x1 HIS;rw[hby] at y1 HIS;clear hbx hby;generalize done++x.kp.drop y.kp.length=l at HJ HME HIS HLN HMS;cases bx with
    | false =>
     go_wp2_with fail;have hb:=zci HIE.out.low (g:=w.heap.size+1+1) (by omega) (zL Av x.kp.length cv) (.bool false)
     have hE:=HIE.out.b4.put (zL Av x.kp.length cv) false;have hO:=Row.of_own (ownsRow_setCell_below (ownsRow_setCell_below HJ.out.2.2 (a:=⟨w.heap.size+1+1,0,none⟩) (Blk.lt HI.out.b4) (zL Av x.kp.length cv)) (a:=⟨w.heap.size+1+1,1,none⟩) (Blk.lt HI.out.b4) (.bool false));generalize (wr.setCell ⟨w.heap.size+1+1,0,none⟩ (zL Av x.kp.length cv)).setCell ⟨w.heap.size+1+1,1,none⟩ (.bool false)=W3 at hE hb hO |-;clear f0 f1 c0 c1;obtain⟨-,-,c0,c1⟩:=hE.all;refine bodyPost_ret (v:=.tuple #[.agg #[zL Av x.kp.length cv,.bool false],.bool true]) (by simp [results,Tryz.results97,go_sem,c0,c1]) rfl ⟨hb,.inr ⟨⟨l,false⟩,Av,cv,HIS,?_,HFR Av _ cv rfl,?_,fun z hz=>?_⟩⟩
     ·show _=Ending.returned (.tuple #[.agg #[zL Av l.length cv,.bool false],.bool true])
      rw[HLN.out]
     ·show Row W3 1 (zL Av l.length cv) l.length (l.map .string)
      rw[HLN.out];exact hO
     ·rcases HMS.out z hz with h | h
      ·exact HI.px.2 z h
      ·exact HI.py.2 z h
    | true =>
     go_wp2_with fail;have hb:=zci HIE.out.low (g:=w.heap.size+1+1) (by omega) (zL Av x.kp.length cv) (.bool by')
     have hE:=HIE.out.b4.put (zL Av x.kp.length cv) by'
     have hO:=Row.of_own (ownsRow_setCell_below (ownsRow_setCell_below HJ.out.2.2 (a:=⟨w.heap.size+1+1,0,none⟩) (Blk.lt HI.out.b4) (zL Av x.kp.length cv)) (a:=⟨w.heap.size+1+1,1,none⟩) (Blk.lt HI.out.b4) (.bool by'))
     generalize (wr.setCell ⟨w.heap.size+1+1,0,none⟩ (zL Av x.kp.length cv)).setCell ⟨w.heap.size+1+1,1,none⟩ (.bool by')=W3 at hE hb hO |-
     clear f0 f1 c0 c1;obtain⟨-,-,c0,c1⟩:=hE.all;refine bodyPost_ret (v:=.tuple #[.agg #[zL Av x.kp.length cv,.bool by'],.bool true]) (by simp [results,Tryz.results97,go_sem,c0,c1]) rfl ⟨hb,.inr ⟨⟨l,by'⟩,Av,cv,HIS,?_,HFR Av _ cv rfl,?_,fun z hz=>?_⟩⟩
     ·show _=Ending.returned (.tuple #[.agg #[zL Av l.length cv,.bool by'],.bool true])
      rw[HLN.out]
     ·show Row W3 1 (zL Av l.length cv) l.length (l.map .string)
      rw[HLN.out];exact hO
     ·rcases HMS.out z hz with h | h
      ·exact HI.px.2 z h
      ·exact HI.py.2 z h
