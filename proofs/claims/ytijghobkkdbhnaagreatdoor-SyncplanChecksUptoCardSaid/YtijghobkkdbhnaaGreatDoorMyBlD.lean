/- A part. -/
import Derived.Test.YtijghobkkdbhnaaGreatDoorMcw25
set_option linter.unusedVariables false
set_option linter.unusedSimpArgs false
set_option maxHeartbeats 8000000
set_option maxRecDepth 100000
namespace Go.Proofs.YtijghobkkdbhnaaGreatDoor
open Go.RowKit
theorem zlv {xs ys:List ByteArray}{k:Nat}{done:List ByteArray}(h:za3 xs ys k done)(hx:k<xs.length)(hy:ys.length≤k):za3 xs ys (k+1) (done++[xs[k]]):=by
 refine⟨by rw[List.length_append,h.1];rfl,?_⟩
 rw[h.2,List.drop_of_length_le hy,List.drop_of_length_le (by omega:ys.length≤k+1),List.drop_eq_getElem_cons hx]
 unfold z9z;simp
theorem zlw {xs ys:List ByteArray}{done:List ByteArray}(h:za3 xs ys xs.length done)(hy:ys.length≤xs.length):z9z xs ys=some done:=by
 rw[h.2,List.drop_length,List.drop_of_length_le hy];unfold z9z;simp
theorem zlx {x y:ByteArray}(h:z9u x y=true):z9v x y=some x:=by unfold z9v;rw[if_pos h]
theorem zly {x y:ByteArray}(h:z9u x y=false)(h2:z9u y x=false):z9v x y=none:=by unfold z9v;rw[if_neg (by rw[h];decide),if_neg (by rw[h2];decide)]
theorem zlz (n:Nat)(r:Bool)(m:Nat)(s:Bool):z9y n r m s=z9y m s n r:=by
 unfold z9y;cases r <;> cases s <;> simp [eq_comm]
theorem zm0 {n m:Nat}{r s:Bool}(h:m<n):z9y n r m s=s:=by
 unfold z9y;cases r <;> cases s <;> simp <;> omega
theorem zm1 {n m:Nat}{r s:Bool}(h:m=n):z9y n r m s=(r == s):=by
 unfold z9y;cases r <;> cases s <;> simp <;> omega
structure MrSt (w wx:World)(p q x y:Pat)(vx vy:Value):Prop where
 low:zB w wx
 b2:zb5 wx w.heap.size vx x.rest
 b3:zb5 wx (w.heap.size+1) vy y.rest
 b4:zb5 wx (w.heap.size+1+1) (.slice none 0 0) false
 px:z9j wx vx x
 py:z9j wx vy y
 ex:z7g x=0
 ey:z7g y=0
 le:y.parts.length≤x.parts.length
 st:∀(k:Nat) (hx:k<x.parts.length) (hy:k<y.parts.length),z9u x.parts[k] y.parts[k]=false→z9u y.parts[k] x.parts[k]=false
 is:za2 p q=if z9y x.parts.length x.rest y.parts.length y.rest=true then (z9z x.parts y.parts).map (fun l=>⟨l,x.rest && y.rest⟩) else none
theorem MrSt.next {w wx wy:World}{p q x y:Pat}{vx vy:Value}(h:MrSt w wx p q x y vx vy)(hb:zB wx wy):MrSt w wy p q x y vx vy:=
 ⟨h.low.trans (hb.mono h.low.size),h.b2.low hb,h.b3.low hb,h.b4.low hb,h.px.below hb,h.py.below hb,h.ex,h.ey,h.le,h.st,h.is⟩
structure zm2 (w wr:World)(g:Nat)(v:Value)(b:Bool)(l:List ByteArray):Prop where
 low:zB w wr
 le:w.heap.size≤g
 box:zb5 wr g v b
 own:wr.ownsRow (g+1) 9 1 v l.length (l.map .string)
theorem zm2.under {w wr wx:World}{g:Nat}{v:Value}{b:Bool}{l:List ByteArray}(h:zm2 w wr g v b l)(hb:zB wr wx):zm2 w wx g v b l:=⟨z0r h.low hb,h.le,h.box.low hb,z0n h.own hb⟩
theorem zm2.push {w wr w2:World}{g:Nat}{v:Value}{b:Bool}{l:List ByteArray}{x:ByteArray}{A':Option Addr}{c':Nat}(h:zm2 w wr g v b l)
  (hown:w2.ownsRow (g+1) 9 1 (.slice A' (l.length+1) c') (l.length+1) (l.map .string++[.string x])) (hgr:wr.grownBy w2 v.ownBlock)
  (hob:(Value.slice A' (l.length+1) c').ownBlock=v.ownBlock∨(Value.slice A' (l.length+1) c').ownBlock=some wr.heap.size):
  zm2 w (w2.setCell ⟨g,0,none⟩ (.slice A' (l.length+1) c')) g (.slice A' (l.length+1) c') b (l++[x]):=by
 have hl:=Blk.lt h.box;have hb1:∀ k,v.ownBlock=some k→g<k:=fun k e=>by have:=(h.own.lt k e).1;omega
 have hbx:some g≠v.ownBlock:=fun e=>by have:=hb1 g e.symm;omega
 have hbel:zB w w2:=h.low.grown hgr h.low.size (fun k e=>by have:=hb1 k e;have:=h.le;omega)
 have hne:(Value.slice A' (l.length+1) c').ownBlock≠some g:=by
  rcases hob with e | e
  ·rw[e];exact fun e=>hbx e.symm
  ·rw[e];intro e2;injection e2 with e2;omega
 refine⟨hbel.setCell (p:=⟨g,0,none⟩) h.le _,h.le,(Blk.grown h.box hgr hbx).set_ 0 _,?_⟩;rw[List.length_append,List.length_singleton,List.map_append];exact z4x hown (p:=⟨g,0,none⟩) hne _
theorem zm3 (p q:Pat)(A B:Option Addr)(a b:Nat)(w:World)(hp:z9j w (.slice A p.parts.length a) p)(hq:z9j w (.slice B q.parts.length b) q)(hsx:∀(k:Nat) (hx:k<(za0 p q).parts.length) (hy:k<(za1 p q).parts.length),z9u (za0 p q).parts[k] (za1 p q).parts[k]=false→z9u (za1 p q).parts[k] (za0 p q).parts[k]=false):
  Calls Tryz.prog 64 #[.agg #[.slice A p.parts.length a,.bool p.rest],.agg #[.slice B q.parts.length b,.bool q.rest]] w (zb4 w p q):=by
 have HSX:=hd_ hsx;clear hsx;have hA:zB w (((w.alloc (.cells #[.slice A p.parts.length a,.bool p.rest] 68)).alloc (.cells #[.slice B q.parts.length b,.bool q.rest] 68)).alloc (.cells #[.slice none 0 0,.bool false] 68)):=(((Below.refl _ _).alloc (Nat.le_refl _) _).alloc (by simp) _).alloc (by simp;omega) _
 have h2:zb5 (((w.alloc (.cells #[.slice A p.parts.length a,.bool p.rest] 68)).alloc (.cells #[.slice B q.parts.length b,.bool q.rest] 68)).alloc (.cells #[.slice none 0 0,.bool false] 68)) w.heap.size (.slice A p.parts.length a) p.rest:=((z0l w [.slice A p.parts.length a,.bool p.rest] 68).alloc _).alloc _;have h3:zb5 (((w.alloc (.cells #[.slice A p.parts.length a,.bool p.rest] 68)).alloc (.cells #[.slice B q.parts.length b,.bool q.rest] 68)).alloc (.cells #[.slice none 0 0,.bool false] 68)) (w.heap.size+1) (.slice B q.parts.length b) q.rest:=by
  have:=(z0l (w.alloc (.cells #[.slice A p.parts.length a,.bool p.rest] 68)) [.slice B q.parts.length b,.bool q.rest] 68).alloc (.cells #[.slice none 0 0,.bool false] 68);rw[World.size_alloc] at this;exact this
 have h4:zb5 (((w.alloc (.cells #[.slice A p.parts.length a,.bool p.rest] 68)).alloc (.cells #[.slice B q.parts.length b,.bool q.rest] 68)).alloc (.cells #[.slice none 0 0,.bool false] 68)) (w.heap.size+1+1) (.slice none 0 0) false:=by
  have:=z0l ((w.alloc (.cells #[.slice A p.parts.length a,.bool p.rest] 68)).alloc (.cells #[.slice B q.parts.length b,.bool q.rest] 68)) [.slice none 0 0,.bool false] 68;rw[World.size_alloc,World.size_alloc] at this;exact this
 have HCP:=hd_ (fun X (hX:zB w X)=>zcc p A a X (hp.below hX).1 hp.small);have HCQ:=hd_ (fun X (hX:zB w X)=>zcc q B b X (hq.below hX).1 hq.small);have HP:=hd_ hp;have HQ:=hd_ hq;have HM:Hid (za2 p q=if z7g p=0∧z7g q=0∧z9y p.parts.length p.rest q.parts.length q.rest=true then (z9z (za0 p q).parts (za1 p q).parts).map (fun l=>⟨l,p.rest && q.rest⟩) else none):=hd_ rfl;clear hp hq;go_enter Tryz.func64,Tryz.ntmps64;go_upto_region 1 with fail;generalize ((w.alloc (.cells #[.slice A p.parts.length a,.bool p.rest] 68)).alloc (.cells #[.slice B q.parts.length b,.bool q.rest] 68)).alloc (.cells #[.slice none 0 0,.bool false] 68)=W1 at hA h2 h3 h4 ⊢;have H:=hd_ (And.intro hA (And.intro h2 (And.intro h3 h4)));have x0:=h2.c0;have x1:=h2.c1;have HC1:=hd_ (HCP.out W1 hA);clear h2 h3 h4 hA HCP;obtain⟨pe,hpe⟩:∃ pe,z7g p=pe:=⟨_,rfl⟩;rw[hpe] at HC1 HM;have HPE:=hd_ hpe;clear hpe;by_cases h0:pe=0
 case neg =>
  have qq:(pe != 0)=true:=by simpa using h0
  have HN:Hid (za2 p q=none):=hd_ (by rw[HM.out];exact if_neg (fun h=>h0 h.1))
  clear h0 HM;go_wp2_with fail;refine HC1.out.mono ?_;rintro e w2 ⟨rfl,hb⟩;have HB:=hd_ (z0r H.out.1 hb);have HZ:=hd_ (H.out.2.2.2.low hb);clear hb x0 x1;obtain⟨f0,f1,c0,c1⟩:=HZ.out.all;go_wp2_with fail;have hE:=HZ.out.put (.slice none 0 0) false;have hb:=zb6 HB.out (g:=w.heap.size+1+1) (by omega) (.slice none 0 0) (.bool false)
  generalize (w2.setCell ⟨w.heap.size+1+1,0,none⟩ (.slice none 0 0)).setCell ⟨w.heap.size+1+1,1,none⟩ (.bool false)=W3 at hE hb ⊢;clear f0 f1 c0 c1;obtain⟨-,-,c0,c1⟩:=hE.all;exact bodyPost_ret (v:=.tuple #[.agg #[.slice none 0 0,.bool false],.bool false]) (by simp [results,Tryz.results64,go_sem,c0,c1]) rfl ⟨hb,.inl ⟨HN.out,rfl⟩⟩
 subst h0;obtain⟨qe,hqe⟩:∃ qe,z7g q=qe:=⟨_,rfl⟩;have HC2:=hd_ (fun X hX=>HCQ.out X hX);rw[hqe] at HC2 HM;have HQE:=hd_ hqe;clear hqe HCQ;by_cases h0:qe=0
 case neg =>
  have qq:(qe != 0)=true:=by simpa using h0
  have HN:Hid (za2 p q=none):=hd_ (by rw[HM.out];exact if_neg (fun h=>h0 h.2.1))
  clear h0 HM;go_wp2_with fail;refine HC1.out.mono ?_;rintro e w2 ⟨rfl,hb⟩;have HB:=hd_ (z0r H.out.1 hb);have HZ:=hd_ (H.out.2.2.2.low hb);have hq2:=H.out.2.2.1.low hb;have y0:=hq2.c0;have y1:=hq2.c1;have HC3:=hd_ (HC2.out w2 HB.out);clear hb x0 x1 hq2;go_wp2_with fail;refine HC3.out.mono ?_;rintro e w3 ⟨rfl,hb⟩;have HZ:=hd_ (HZ.out.low hb);have HB:=hd_ (z0r HB.out hb);clear hb y0 y1;obtain⟨f0,f1,c0,c1⟩:=HZ.out.all;go_wp2_with fail;have hE:=HZ.out.put (.slice none 0 0) false;have hb:=zb6 HB.out (g:=w.heap.size+1+1) (by omega) (.slice none 0 0) (.bool false)
  generalize (w3.setCell ⟨w.heap.size+1+1,0,none⟩ (.slice none 0 0)).setCell ⟨w.heap.size+1+1,1,none⟩ (.bool false)=W3 at hE hb ⊢;clear f0 f1 c0 c1;obtain⟨-,-,c0,c1⟩:=hE.all;exact bodyPost_ret (v:=.tuple #[.agg #[.slice none 0 0,.bool false],.bool false]) (by simp [results,Tryz.results64,go_sem,c0,c1]) rfl ⟨hb,.inl ⟨HN.out,rfl⟩⟩
 subst h0;have HMM:Hid (za2 p q=if z9y p.parts.length p.rest q.parts.length q.rest=true then (z9z (za0 p q).parts (za1 p q).parts).map (fun l=>⟨l,p.rest && q.rest⟩) else none):=hd_ (by
  rw[HM.out];by_cases h:z9y p.parts.length p.rest q.parts.length q.rest=true
  ·rw[if_pos ⟨rfl,rfl,h⟩,if_pos h]
  ·rw[if_neg (fun hh=>h hh.2.2),if_neg h])
 clear HM;go_wp2_with fail;refine HC1.out.mono ?_;rintro e w2 ⟨rfl,hb⟩;have HB:=hd_ (z0r H.out.1 hb);have HG:=hd_ (And.intro (H.out.2.1.low hb) (And.intro (H.out.2.2.1.low hb) (H.out.2.2.2.low hb)));have y0:=HG.out.2.1.c0;have y1:=HG.out.2.1.c1;have HC3:=hd_ (HC2.out w2 HB.out);clear hb x0 x1 H HC1 HC2;go_wp2_with fail;refine HC3.out.mono ?_;rintro e w3 ⟨rfl,hb⟩;have HG:=hd_ (And.intro (HG.out.1.low hb) (And.intro (HG.out.2.1.low hb) (HG.out.2.2.low hb)));have HB:=hd_ (z0r HB.out hb);clear hb y0 y1 HC3;have x0:=HG.out.1.c0;have x1:=HG.out.1.c1;have y0:=HG.out.2.1.c0;have y1:=HG.out.2.1.c1;have HMB:Hid (za0 p q=if p.parts.length<q.parts.length then q else p):=hd_ rfl;have HMS:Hid (za1 p q=if p.parts.length<q.parts.length then p else q):=hd_ rfl;go_upto_region 3 with fail;by_cases hlt:p.parts.length<q.parts.length
 focus
  have q1:decide ((p.parts.length:Int)<(q.parts.length:Int))=true:=by simp;omega
  obtain⟨f0,f1,-,-⟩:=HG.out.1.all;obtain⟨f2,f3,-,-⟩:=HG.out.2.1.all;have n1:¬(w.heap.size=w.heap.size+1):=by omega
  have HLT:=hd_ hlt;clear hlt;go_upto_region 5 with fail;have hx:=(HG.out.1.put (.slice B q.parts.length b) q.rest).far (g':=w.heap.size+1) (by omega) (.slice A p.parts.length a) (.bool p.rest)
  have hy:=(HG.out.2.1.far (g':=w.heap.size) (by omega) (.slice B q.parts.length b) (.bool q.rest)).put (.slice A p.parts.length a) p.rest
  have hz:=(HG.out.2.2.far (g':=w.heap.size) (by omega) (.slice B q.parts.length b) (.bool q.rest)).far (g':=w.heap.size+1) (by omega) (.slice A p.parts.length a) (.bool p.rest)
  have hb:=zb6 (zb6 HB.out (g:=w.heap.size) (Nat.le_refl _) (.slice B q.parts.length b) (.bool q.rest)) (g:=w.heap.size+1) (by omega) (.slice A p.parts.length a) (.bool p.rest)
  generalize (((w3.setCell ⟨w.heap.size,0,none⟩ (.slice B q.parts.length b)).setCell ⟨w.heap.size,1,none⟩ (.bool q.rest)).setCell ⟨w.heap.size+1,0,none⟩ (.slice A p.parts.length a)).setCell ⟨w.heap.size+1,1,none⟩ (.bool p.rest)=wx at hx hy hz hb ⊢;obtain⟨x,y,X,Y,c1,c2,HI⟩:∃(x y:Pat) (X Y:Option Addr) (c1 c2:Nat),Hid (MrSt w wx p q x y (.slice X x.parts.length c1) (.slice Y y.parts.length c2)):=⟨q,p,B,A,b,a,hd_ ⟨hb,hx,hy,hz,HQ.out.below hb,HP.out.below hb,HQE.out,HPE.out,by have:=HLT.out;omega,by have:=HSX.out;rw[HMB.out,HMS.out,if_pos HLT.out,if_pos HLT.out] at this;exact this,by rw[HMM.out,HMB.out,HMS.out,if_pos HLT.out,if_pos HLT.out,Bool.and_comm,zlz]⟩⟩
  clear x0 x1 y0 y1 q1 f0 f1 f2 f3 n1 hx hy hz hb HB HG HMM
 rotate_left
 focus
  have q1:decide ((p.parts.length:Int)<(q.parts.length:Int))=false:=by simp;omega
  have HLT:=hd_ hlt;clear hlt;go_upto_region 5 with fail;obtain⟨wx,rfl⟩:∃ X,X=w3:=⟨_,rfl⟩;obtain⟨x,y,X,Y,c1,c2,HI⟩:∃(x y:Pat) (X Y:Option Addr) (c1 c2:Nat),Hid (MrSt w wx p q x y (.slice X x.parts.length c1) (.slice Y y.parts.length c2)):=⟨p,q,A,B,a,b,hd_ ⟨HB.out,HG.out.1,HG.out.2.1,HG.out.2.2,HP.out.below HB.out,HQ.out.below HB.out,HPE.out,HQE.out,by have:=HLT.out;omega,by have:=HSX.out;rw[HMB.out,HMS.out,if_neg HLT.out,if_neg HLT.out] at this;exact this,by rw[HMM.out,HMB.out,HMS.out,if_neg HLT.out,if_neg HLT.out]⟩⟩
  clear x0 x1 y0 y1 q1 HB HG HMM
 all_goals
  clear HMB HMS HLT HP HQ HPE HQE HSX;have hlx:=za7 HI.out.ex;have hle:=HI.out.le;have x0:=HI.out.b2.c0;have x1:=HI.out.b2.c1;have y0:=HI.out.b3.c0;have y1:=HI.out.b3.c1;obtain⟨cb,hcb⟩:∃ cb,z9y x.parts.length x.rest y.parts.length y.rest=cb:=⟨_,rfl⟩;have HIS:=hd_ HI.out.is;rw[hcb] at HIS;have HCB:=hd_ hcb;clear hcb;go_upto_region 6 with fail;go_cut [54] (fun v wz=>v=.bool (!cb)∧wz=wx)
  case first =>
   by_cases h1:y.parts.length<x.parts.length
   ·have q1:decide ((y.parts.length:Int)<(x.parts.length:Int))=true:=by simp;omega
    have q2:((x.parts.length:Int) == (y.parts.length:Int))=false:=by rw[beq_eq_false_iff_ne];omega
    have hcb:=(zm0 h1).symm.trans HCB.out;subst hcb;have q1':decide (y.parts.length<x.parts.length)=true:=by simp;omega
    have q2':(x.parts.length == y.parts.length)=false:=by rw[beq_eq_false_iff_ne];omega
    clear h1;cases hyr:y.rest
    all_goals
     rw[hyr] at y1;have HYR:=hd_ hyr;clear hyr;go_wp2_with fail;go_meet
     exact⟨by first | rfl | simp [q1',q2',HYR.out],rfl⟩
   ·have h2:y.parts.length=x.parts.length:=by omega
    have q1:decide ((y.parts.length:Int)<(x.parts.length:Int))=false:=by simp;omega
    have q2:((x.parts.length:Int) == (y.parts.length:Int))=true:=by rw[beq_iff_eq];omega
    have hcb:=(zm1 h2).symm.trans HCB.out;subst hcb;have q1':decide (y.parts.length<x.parts.length)=false:=by simp;omega
    have q2':(x.parts.length == y.parts.length)=true:=by rw[beq_iff_eq];omega
    clear h1 h2;cases hyr:y.rest
    all_goals
     rw[hyr] at y1;have HYR:=hd_ hyr;clear hyr;cases hxr:x.rest
     all_goals
      rw[hxr] at x1;have HXR:=hd_ hxr;clear hxr;go_wp2_with fail;go_meet
      exact⟨by first | rfl | simp [q1',q2',HYR.out,HXR.out],rfl⟩
  case rest =>
   obtain⟨rfl,rfl⟩:=hcut;clear x0 x1 y0 y1;cases cb with
   | false =>
    have HN:Hid (za2 p q=none):=hd_ (by rw[HIS.out];rfl)
    obtain⟨f0,f1,c0,c1⟩:=HI.out.b4.all;go_wp2_with fail;have hE:=HI.out.b4.put (.slice none 0 0) false;have hb:=zb6 HI.out.low (g:=w.heap.size+1+1) (by omega) (.slice none 0 0) (.bool false)
    generalize (wc.setCell ⟨w.heap.size+1+1,0,none⟩ (.slice none 0 0)).setCell ⟨w.heap.size+1+1,1,none⟩ (.bool false)=W3 at hE hb ⊢;clear f0 f1 c0 c1;obtain⟨-,-,c0,c1⟩:=hE.all;exact bodyPost_ret (v:=.tuple #[.agg #[.slice none 0 0,.bool false],.bool false]) (by simp [results,Tryz.results64,go_sem,c0,c1]) rfl ⟨hb,.inl ⟨HN.out,rfl⟩⟩
   | true =>
    have x0:=HI.out.b2.c0;have x1:=HI.out.b2.c1;have HO:Hid (zm2 wc (wc.alloc (.cells #[.slice none 0 0,.bool x.rest] 68)) wc.heap.size (.slice none 0 0) x.rest []):=hd_ ⟨(Below.refl _ _).alloc (Nat.le_refl _) _,Nat.le_refl _,z0l wc [.slice none 0 0,.bool x.rest] _,World.ownsRow_nil _ _ _ _⟩;have y0:=HI.out.b2.c0;have hnl:=HI.out.low.size;have x2:(wc.alloc (.cells #[.slice none 0 0,.bool x.rest] 68)).cell? ⟨w.heap.size,0,none⟩=some (.slice X x.parts.length c1):=(HI.out.next HO.out.low).b2.c0;go_upto_region 9 with fail;generalize wc.alloc (.cells #[.slice none 0 0,.bool x.rest] 68)=W8 at HO x2 ⊢;clear x0 x1 y0;obtain⟨g7,hg7⟩:∃ g,wc.heap.size=g:=⟨_,rfl⟩;rw[hg7] at HO ⊢;have HG7:=hd_ hg7;clear hg7;go_wp2_with fail;go_loopw [62] (fun i wr=>∃(k:Nat) (v:Value) (done:List ByteArray),i=.int .i64 k∧k≤x.parts.length∧Hid (za3 x.parts y.parts k done∧zm2 wc wr g7 v x.rest done)) (fun i _=>x.parts.length - (intOf i).toNat)
    case atStart=>exact⟨0,_,[],rfl,Nat.zero_le _,hd_ ⟨za4 _ _,HO.out⟩⟩
    case round =>
     obtain⟨k,v,done,rfl,hk,HJ⟩:=hrel;clear x2 HO;by_cases hlt:k<x.parts.length
     ·have HW:=hd_ (HI.out.next HJ.out.2.low);obtain⟨ad,rfl,hab,s0⟩:=Strs.at_ HW.out.px.1 hlt;have z0:=HJ.out.2.box.c0;have HLT:=hd_ hlt;have HDL:=hd_ HJ.out.1.1;have hd12:done.length≤12:=by have:=HDL.out;omega
      have HFX:=hd_ (zce HI.out.ex hlt);have HZX:=hd_ (HI.out.px.2 _ (List.getElem_mem hlt));have HMX:=hd_ (List.getElem_mem hlt);obtain⟨Av,cv,rfl⟩:=z0o HJ.out.2.own;by_cases hge:y.parts.length≤k
      ·have q1:decide ((y.parts.length:Int)≤(k:Int))=true:=by simp;omega
       have q1':decide (y.parts.length≤k)=true:=by simp;omega
       have HN:=hd_ (zlv HJ.out.1 hlt hge);generalize x.parts[k]=s at s0 HFX HZX HMX HN;clear hab hge;have HO1:=hd_ (HJ.out.2.under ((Below.refl wr.heap.size wr).alloc (Nat.le_refl _) (.cells #[.string s] 9)));have hrow:=z0i wr [.string s] 9 1 1 rfl (by decide) _ rfl
       have hsz:g7+1≤(wr.alloc (.cells #[.string s] 9)).heap.size:=by have:=Blk.lt HJ.out.2.box;simp;omega
       go_wp2_with (at_builtin;refine z0j rfl rfl z89 HO1.out.own rfl hrow rfl (by simp [Value.oneCell']) (by omega) (by unfold maxLen;omega) hsz ?_;intro A' c' w2 hown hgr hob;have HP:=hd_ (HO1.out.push hown hgr hob);have hbw:=Blk.grown HO1.out.box hgr (fun e=>by have:=(HO1.out.own.lt g7 e.symm).1;omega);have hfz:=hbw.frozen 0;have hcl:w2.cell? ⟨g7,0,none⟩=some (.slice Av done.length cv):=hbw.cell 0)
       go_roundw
       case rel=>exact⟨k+1,_,_,by go_num,by omega,hd_ ⟨HN.out,HP.out⟩⟩
       case measure=>simp [intOf];omega
      ·have hlt2:k<y.parts.length:=by omega
       have q1:decide ((y.parts.length:Int)≤(k:Int))=false:=by simp;omega
       have q1':decide (y.parts.length≤k)=false:=by simp;omega
       have hzl:(k:Int)<(y.parts.length:Int):=by omega
       obtain⟨ae,rfl,hae,t0⟩:=Strs.at_ HW.out.py.1 hlt2;have y0:=HW.out.b3.c0;have HFY:=hd_ (zce HI.out.ey hlt2);have HZY:=hd_ (HI.out.py.2 _ (List.getElem_mem hlt2));have HN1:Hid (z9u x.parts[k] y.parts[k]=true→za3 x.parts y.parts (k+1) (done++[x.parts[k]])):=hd_ (fun h=>za6 HJ.out.1 hlt hlt2 (zlx h));have HN2:Hid (z9u x.parts[k] y.parts[k]=false→z9z x.parts y.parts=none∧z9u y.parts[k] x.parts[k]=false):=hd_ (fun h=>⟨za5 HJ.out.1 hlt hlt2 (zly h (HI.out.st k hlt hlt2 h)),HI.out.st k hlt hlt2 h⟩);generalize x.parts[k]=s at s0 HFX HZX HMX HN1 HN2;generalize y.parts[k]=t at t0 HFY HZY HN1 HN2;clear hab hge hae;have HIA:=hd_ (fun X=>zlu s t X HFX.out HFY.out HZX.out HZY.out);have HIB:=hd_ (fun X=>zlu t s X HFY.out HFX.out HZY.out HZX.out);obtain⟨b,hb⟩:∃ b,z9u s t=b:=⟨_,rfl⟩;rw[hb] at HIA HN1 HN2;clear hb;cases b with
       | true =>
        have HN:=hd_ (HN1.out rfl);go_wp2_with fail;refine (HIA.out _).mono ?_;rintro e w6 ⟨rfl,hb6⟩;have HO6:=hd_ (HJ.out.2.under hb6);have z0:=HO6.out.box.c0;clear s0 t0 y0 hb6;have HO1:=hd_ (HO6.out.under ((Below.refl w6.heap.size w6).alloc (Nat.le_refl _) (.cells #[.string s] 9)));have hrow:=z0i w6 [.string s] 9 1 1 rfl (by decide) _ rfl
        have hsz:g7+1≤(w6.alloc (.cells #[.string s] 9)).heap.size:=by have:=Blk.lt HO6.out.box;simp;omega
        go_wp2_with (at_builtin;refine z0j rfl rfl z89 HO1.out.own rfl hrow rfl (by simp [Value.oneCell']) (by omega) (by unfold maxLen;omega) hsz ?_;intro A' c' w2 hown hgr hob;have HP:=hd_ (HO1.out.push hown hgr hob);have hbw:=Blk.grown HO1.out.box hgr (fun e=>by have:=(HO1.out.own.lt g7 e.symm).1;omega);have hfz:=hbw.frozen 0;have hcl:w2.cell? ⟨g7,0,none⟩=some (.slice Av done.length cv):=hbw.cell 0)
        go_roundw
        case rel=>exact⟨k+1,_,_,by go_num,by omega,hd_ ⟨HN.out,HP.out⟩⟩
        case measure=>simp [intOf];omega
       | false =>
        obtain⟨hn1,hn2⟩:=HN2.out rfl;rw[hn2] at HIB;have HN:Hid (za2 p q=none):=hd_ (by rw[HIS.out];simp [hn1])
        clear hn1 hn2;go_wp2_with fail;refine (HIA.out _).mono ?_;rintro e w6 ⟨rfl,hb6⟩;have HB6:=hd_ hb6;have y0:=(HW.out.next hb6).b3.c0;have t0:=z04 t0 hb6 (z03 t0);clear s0 hb6;go_wp2_with fail;refine (HIB.out _).mono ?_;rintro e w7 ⟨rfl,hb7⟩;have HW7:=hd_ (HW.out.next (z0r HB6.out hb7));clear hb7 y0 t0;obtain⟨f0,f1,c0,c1⟩:=HW7.out.b4.all;go_wp2_with fail;have hE:=HW7.out.b4.put (.slice none 0 0) false;have hb:=zb6 HW7.out.low (g:=w.heap.size+1+1) (by omega) (.slice none 0 0) (.bool false)
        generalize (w7.setCell ⟨w.heap.size+1+1,0,none⟩ (.slice none 0 0)).setCell ⟨w.heap.size+1+1,1,none⟩ (.bool false)=W3 at hE hb ⊢;clear f0 f1 c0 c1;obtain⟨-,-,c0,c1⟩:=hE.all;exact bodyPost_ret (v:=.tuple #[.agg #[.slice none 0 0,.bool false],.bool false]) (by simp [results,Tryz.results64,go_sem,c0,c1]) rfl ⟨hb,.inl ⟨HN.out,rfl⟩⟩
     ·have hke:k=x.parts.length:=by omega
      subst hke;have HME:=hd_ (zlw HJ.out.1 HI.out.le);have HIX:Hid (za2 p q=some ⟨done,x.rest && y.rest⟩):=hd_ (by rw[HIS.out];simp [HME.out])
      have HRE:Hid (x.rest=(x.rest && y.rest)):=hd_ (by
       have h:=HCB.out;by_cases h1:y.parts.length<x.parts.length
       ·rw[zm0 h1] at h;rw[h];simp
       ·rw[zm1 (by have:=HI.out.le;omega)] at h
        have:x.rest=y.rest:=by simpa using h
        rw[← this];simp)
      have HW:=hd_ (HI.out.next HJ.out.2.low);have HMM2:=hd_ (zb3 HME.out);have hge:¬((x.parts.length:Int)<(x.parts.length:Int)):=by omega
      obtain⟨Av,cv,rfl⟩:=z0o HJ.out.2.own;have z0:=HJ.out.2.box.c0;have z1:=HJ.out.2.box.c1;obtain⟨f0,f1,c0,c1⟩:=HW.out.b4.all;rw[← HRE.out] at HIX;obtain⟨bx,hbx⟩:∃ bx,x.rest=bx:=⟨_,rfl⟩;rw[hbx] at z1 HIX;clear hbx;have HG8:Hid (w.heap.size+1+1<g7):=hd_ (by have:=Blk.lt HI.out.b4;have:=HG7.out;omega)
      go_wp2_with fail;have hb:=zb6 HW.out.low (g:=w.heap.size+1+1) (by omega) (.slice Av done.length cv) (.bool bx)
      have hE:=HW.out.b4.put (.slice Av done.length cv) bx;have hO:=Row.of_own (z4x (z4x HJ.out.2.own (p:=⟨w.heap.size+1+1,0,none⟩) (fun e=>by have h1:g7+1≤w.heap.size+1+1:=(HJ.out.2.own.lt _ e).1;have:=HG8.out;omega) (.slice Av done.length cv)) (p:=⟨w.heap.size+1+1,1,none⟩) (fun e=>by have h1:g7+1≤w.heap.size+1+1:=(HJ.out.2.own.lt _ e).1;have:=HG8.out;omega) (.bool bx))
      generalize (wr.setCell ⟨w.heap.size+1+1,0,none⟩ (.slice Av done.length cv)).setCell ⟨w.heap.size+1+1,1,none⟩ (.bool bx)=W3 at hE hb hO ⊢;clear f0 f1 c0 c1;obtain⟨-,-,c0,c1⟩:=hE.all;refine bodyPost_ret (v:=.tuple #[.agg #[.slice Av done.length cv,.bool bx],.bool true]) (by simp [results,Tryz.results64,go_sem,c0,c1]) rfl ⟨hb,.inr ⟨⟨done,bx⟩,Av,cv,HIX.out,rfl,fun x hx=>by have:=(HJ.out.2.own.lt x hx).1;have:=HG8.out;omega,hO,fun z hz=>?_⟩⟩
      rcases HMM2.out z hz with h | h
      ·exact HI.out.px.2 z h
      ·exact HI.out.py.2 z h
