/- A part. -/
import Derived.Test.YtlnjaagijaadmaaGreatDoorMvw23
set_option linter.unusedVariables false
set_option linter.unusedSimpArgs false
set_option maxHeartbeats 8000000
set_option maxRecDepth 100000
namespace Go.Proofs.YtlnjaagijaadmaaGreatDoor
open Go.RowKit
structure MrSw (w wx:zW)(p q x y:Pat)(vx vy:zV):Prop where
 low:zB w wx
 b2:zch wx w.heap.size vx x.kr
 b3:zch wx (w.heap.size+1) vy y.kr
 b4:zch wx (w.heap.size+1+1) (zL none 0 0) false
 px:zbx wx vx x
 py:zbx wx vy y
 ex:z8w x=0
 ey:z8w y=0
 le:y.kp.length<=x.kp.length
 is:zc6 p q=if zc1 x.kp.length x.kr y.kp.length y.kr=true then (zc3 x.kp y.kp).map (fun l=>⟨l,x.kr && y.kr⟩) else none
theorem MrSw.next {w wx wy:zW}{p q x y:Pat}{vx vy:zV}(h:MrSw w wx p q x y vx vy)(hb:zB wx wy):MrSw w wy p q x y vx vy:=
 ⟨h.low.trans (hb.mono h.low.size),h.b2.low hb,h.b3.low hb,h.b4.low hb,h.px.kw hb,h.py.kw hb,h.ex,h.ey,h.le,h.is⟩
theorem zs7 (p q:Pat)(A B:zP)(a b:Nat)(w:zW)(hp:zbx w (zL A p.kp.length a) p)(hq:zbx w (zL B q.kp.length b) q):
  Calls Tryz.prog 44 #[.agg #[zL A p.kp.length a,.bool p.kr],.agg #[zL B q.kp.length b,.bool q.kr]] w (zcg w p q):=by
 have hA:zB w (((w.alloc (zC #[zL A p.kp.length a,.bool p.kr] 56)).alloc (zC #[zL B q.kp.length b,.bool q.kr] 56)).alloc (zC #[zL none 0 0,.bool false] 56)):=((zR).alloc (by simp) _).alloc (by simp;omega) _
 have h2:zch (((w.alloc (zC #[zL A p.kp.length a,.bool p.kr] 56)).alloc (zC #[zL B q.kp.length b,.bool q.kr] 56)).alloc (zC #[zL none 0 0,.bool false] 56)) w.heap.size (zL A p.kp.length a) p.kr:=((z0l w [zL A p.kp.length a,.bool p.kr] 56).alloc _).alloc _;have h3:zch (((w.alloc (zC #[zL A p.kp.length a,.bool p.kr] 56)).alloc (zC #[zL B q.kp.length b,.bool q.kr] 56)).alloc (zC #[zL none 0 0,.bool false] 56)) (w.heap.size+1) (zL B q.kp.length b) q.kr:=by
  have:=(z0l (w.alloc (zC #[zL A p.kp.length a,.bool p.kr] 56)) [zL B q.kp.length b,.bool q.kr] 56).alloc (zC #[zL none 0 0,.bool false] 56);rw[Zl] at this;exact this
 have h4:zch (((w.alloc (zC #[zL A p.kp.length a,.bool p.kr] 56)).alloc (zC #[zL B q.kp.length b,.bool q.kr] 56)).alloc (zC #[zL none 0 0,.bool false] 56)) (w.heap.size+1+1) (zL none 0 0) false:=by
  have:=z0l ((w.alloc (zC #[zL A p.kp.length a,.bool p.kr] 56)).alloc (zC #[zL B q.kp.length b,.bool q.kr] 56)) [zL none 0 0,.bool false] 56;rw[Zl,Zl] at this;exact this
 have HCP:=hd_ (fun X (hX:zB w X)=>zd3 p A a X (hp.kw hX).1 hp.small);have HCQ:=hd_ (fun X (hX:zB w X)=>zd3 q B b X (hq.kw hX).1 hq.small);have HP:=hd_ hp;have HQ:=hd_ hq;have HM:Hid (zc6 p q=if z8w p=0/\z8w q=0/\zc1 p.kp.length p.kr q.kp.length q.kr=true then (zc3 (zc4 p q).kp (zc5 p q).kp).map (fun l=>⟨l,p.kr && q.kr⟩) else none):=hd_ rfl;clear hp hq;go_enter Tryz.func44,Tryz.ntmps44;go_upto_region 1 with fail;generalize ((w.alloc (zC #[zL A p.kp.length a,.bool p.kr] 56)).alloc (zC #[zL B q.kp.length b,.bool q.kr] 56)).alloc (zC #[zL none 0 0,.bool false] 56)=W1 at hA h2 h3 h4 |-;have H:=hd_ (Zi hA (Zi h2 (Zi h3 h4)));have x0:=h2.c0;have x1:=h2.c1;have HC1:=hd_ (HCP W1 hA);clear h2 h3 h4 hA HCP;obtain⟨pe,hpe⟩:∃ pe,z8w p=pe:=⟨_,rfl⟩;rw[hpe] at HC1 HM;have HPE:=hd_ hpe;clear hpe;by_cases h0:pe=0
 case neg =>
  have qq:(pe != 0)=true:=by simpa using h0
  have HN:Hid (zc6 p q=none):=hd_ (by rw[HM.out];exact if_neg (fun h=>h0 h.1))
  clear h0 HM;go_wp2_with fail;refine HC1.mono ?_;rintro e w2 ⟨rfl,hb⟩;have HB:=hd_ (z0r H.1 hb);have HZ:=hd_ (H.2.2.2.low hb);clear hb x0 x1;obtain⟨f0,f1,c0,c1⟩:=HZ.out.all;go_wp2_with fail;have hE:=HZ.out.put (zL none 0 0) false;have hb:=zci HB.out (g:=w.heap.size+1+1) (by omega) (zL none 0 0) (.bool false)
  generalize (w2.setCell ⟨w.heap.size+1+1,0,none⟩ (zL none 0 0)).setCell ⟨w.heap.size+1+1,1,none⟩ (.bool false)=W3 at hE hb |-;clear f0 f1 c0 c1;obtain⟨-,-,c0,c1⟩:=hE.all;exact bodyPost_ret (v:=.tuple #[.agg #[zL none 0 0,.bool false],.bool false]) (by simp [results,Tryz.results44,go_sem,c0,c1]) rfl ⟨hb,.inl ⟨HN,rfl⟩⟩
 subst h0;obtain⟨qe,hqe⟩:∃ qe,z8w q=qe:=⟨_,rfl⟩;have HC2:=hd_ (fun X hX=>HCQ X hX);rw[hqe] at HC2 HM;have HQE:=hd_ hqe;clear hqe HCQ;by_cases h0:qe=0
 case neg =>
  have qq:(qe != 0)=true:=by simpa using h0
  have HN:Hid (zc6 p q=none):=hd_ (by rw[HM.out];exact if_neg (fun h=>h0 h.2.1))
  clear h0 HM;go_wp2_with fail;refine HC1.mono ?_;rintro e w2 ⟨rfl,hb⟩;have HB:=hd_ (z0r H.1 hb);have HZ:=hd_ (H.2.2.2.low hb);have hq2:=H.out.2.2.1.low hb;have y0:=hq2.c0;have y1:=hq2.c1;have HC3:=hd_ (HC2 w2 HB);clear hb x0 x1 hq2;go_wp2_with fail;refine HC3.mono ?_;rintro e w3 ⟨rfl,hb⟩;have HZ:=hd_ (HZ.low hb);have HB:=hd_ (z0r HB hb);clear hb y0 y1;obtain⟨f0,f1,c0,c1⟩:=HZ.out.all;go_wp2_with fail;have hE:=HZ.out.put (zL none 0 0) false;have hb:=zci HB.out (g:=w.heap.size+1+1) (by omega) (zL none 0 0) (.bool false)
  generalize (w3.setCell ⟨w.heap.size+1+1,0,none⟩ (zL none 0 0)).setCell ⟨w.heap.size+1+1,1,none⟩ (.bool false)=W3 at hE hb |-;clear f0 f1 c0 c1;obtain⟨-,-,c0,c1⟩:=hE.all;exact bodyPost_ret (v:=.tuple #[.agg #[zL none 0 0,.bool false],.bool false]) (by simp [results,Tryz.results44,go_sem,c0,c1]) rfl ⟨hb,.inl ⟨HN,rfl⟩⟩
 subst h0;have HMM:Hid (zc6 p q=if zc1 p.kp.length p.kr q.kp.length q.kr=true then (zc3 (zc4 p q).kp (zc5 p q).kp).map (fun l=>⟨l,p.kr && q.kr⟩) else none):=hd_ (by
  rw[HM.out];by_cases h:zc1 p.kp.length p.kr q.kp.length q.kr=true
  ·rw[if_pos ⟨rfl,rfl,h⟩,if_pos h]
  ·rw[if_neg (fun hh=>h hh.2.2),if_neg h])
 clear HM;go_wp2_with fail;refine HC1.mono ?_;rintro e w2 ⟨rfl,hb⟩;have HB:=hd_ (z0r H.1 hb);have HG:=hd_ (Zi (H.out.2.1.low hb) (Zi (H.out.2.2.1.low hb) (H.out.2.2.2.low hb)));have y0:=HG.out.2.1.c0;have y1:=HG.out.2.1.c1;have HC3:=hd_ (HC2 w2 HB);clear hb x0 x1 H HC1 HC2;go_wp2_with fail;refine HC3.mono ?_;rintro e w3 ⟨rfl,hb⟩;have HG:=hd_ (Zi (HG.out.1.low hb) (Zi (HG.out.2.1.low hb) (HG.out.2.2.low hb)));have HB:=hd_ (z0r HB hb);clear hb y0 y1 HC3;have x0:=HG.out.1.c0;have x1:=HG.out.1.c1;have y0:=HG.out.2.1.c0;have y1:=HG.out.2.1.c1;have HMB:Hid (zc4 p q=if p.kp.length<q.kp.length then q else p):=hd_ rfl;have HMS:Hid (zc5 p q=if p.kp.length<q.kp.length then p else q):=hd_ rfl;go_upto_region 3 with fail;by_cases hlt:p.kp.length<q.kp.length
 focus
  have q1:decide ((p.kp.length:Int)<(q.kp.length:Int))=true:=by simp;omega
  obtain⟨f0,f1,-,-⟩:=HG.out.1.all;obtain⟨f2,f3,-,-⟩:=HG.out.2.1.all;have n1:¬(w.heap.size=w.heap.size+1):=by omega
  have HLT:=hd_ hlt;clear hlt;go_upto_region 5 with fail;have hx:=(HG.out.1.put (zL B q.kp.length b) q.kr).far (g':=w.heap.size+1) (by omega) (zL A p.kp.length a) (.bool p.kr)
  have hy:=(HG.out.2.1.far (g':=w.heap.size) (by omega) (zL B q.kp.length b) (.bool q.kr)).put (zL A p.kp.length a) p.kr
  have hz:=(HG.out.2.2.far (g':=w.heap.size) (by omega) (zL B q.kp.length b) (.bool q.kr)).far (g':=w.heap.size+1) (by omega) (zL A p.kp.length a) (.bool p.kr)
  have hb:=zci (zci HB.out (g:=w.heap.size) (Zd _) (zL B q.kp.length b) (.bool q.kr)) (g:=w.heap.size+1) (by omega) (zL A p.kp.length a) (.bool p.kr)
  generalize (((w3.setCell ⟨w.heap.size,0,none⟩ (zL B q.kp.length b)).setCell ⟨w.heap.size,1,none⟩ (.bool q.kr)).setCell ⟨w.heap.size+1,0,none⟩ (zL A p.kp.length a)).setCell ⟨w.heap.size+1,1,none⟩ (.bool p.kr)=wx at hx hy hz hb |-;obtain⟨x,y,X,Y,c1,c2,HI⟩:∃(x y:Pat) (X Y:zP) (c1 c2:Nat),Hid (MrSw w wx p q x y (zL X x.kp.length c1) (zL Y y.kp.length c2)):=⟨q,p,B,A,b,a,hd_ ⟨hb,hx,hy,hz,HQ.out.kw hb,HP.out.kw hb,HQE.out,HPE.out,by have:=HLT.out;omega,by rw[HMM.out,HMB.out,HMS.out,if_pos HLT.out,if_pos HLT.out,Bool.and_comm,zpo]⟩⟩
  clear x0 x1 y0 y1 q1 f0 f1 f2 f3 n1 hx hy hz hb HB HG HMM
 rotate_left
 focus
  have q1:decide ((p.kp.length:Int)<(q.kp.length:Int))=false:=by simp;omega
  have HLT:=hd_ hlt;clear hlt;go_upto_region 5 with fail;obtain⟨wx,rfl⟩:∃ X,X=w3:=⟨_,rfl⟩;obtain⟨x,y,X,Y,c1,c2,HI⟩:∃(x y:Pat) (X Y:zP) (c1 c2:Nat),Hid (MrSw w wx p q x y (zL X x.kp.length c1) (zL Y y.kp.length c2)):=⟨p,q,A,B,a,b,hd_ ⟨HB.out,HG.out.1,HG.out.2.1,HG.out.2.2,HP.out.kw HB.out,HQ.out.kw HB.out,HPE.out,HQE.out,by have:=HLT.out;omega,by rw[HMM.out,HMB.out,HMS.out,if_neg HLT.out,if_neg HLT.out]⟩⟩
  clear x0 x1 y0 y1 q1 HB HG HMM
 all_goals
  clear HMB HMS HLT HP HQ HPE HQE;have hlx:=zcc HI.out.ex;have hle:=HI.out.le;have x0:=HI.out.b2.c0;have x1:=HI.out.b2.c1;have y0:=HI.out.b3.c0;have y1:=HI.out.b3.c1;obtain⟨cb,hcb⟩:∃ cb,zc1 x.kp.length x.kr y.kp.length y.kr=cb:=⟨_,rfl⟩;have HIS:=hd_ HI.is;rw[hcb] at HIS;have HCB:=hd_ hcb;clear hcb;go_upto_region 6 with fail;go_cut [54] (fun v wz=>v=.bool (!cb)/\wz=wx)
  case first =>
   by_cases h1:y.kp.length<x.kp.length
   ·have q1:decide ((y.kp.length:Int)<(x.kp.length:Int))=true:=by simp;omega
    have q2:((x.kp.length:Int) == (y.kp.length:Int))=false:=by rw[beq_eq_false_iff_ne];omega
    have hcb:=(zpp h1).symm.trans HCB.out;subst hcb;have q1':decide (y.kp.length<x.kp.length)=true:=by simp;omega
    have q2':(x.kp.length == y.kp.length)=false:=by rw[beq_eq_false_iff_ne];omega
    clear h1;cases hyr:y.kr
    all_goals
     rw[hyr] at y1;have HYR:=hd_ hyr;clear hyr;go_wp2_with fail;go_meet
     exact⟨by first | rfl | simp [q1',q2',HYR.out],rfl⟩
   ·have h2:y.kp.length=x.kp.length:=by omega
    have q1:decide ((y.kp.length:Int)<(x.kp.length:Int))=false:=by simp;omega
    have q2:((x.kp.length:Int) == (y.kp.length:Int))=true:=by rw[beq_iff_eq];omega
    have hcb:=(zpq h2).symm.trans HCB.out;subst hcb;have q1':decide (y.kp.length<x.kp.length)=false:=by simp;omega
    have q2':(x.kp.length == y.kp.length)=true:=by rw[beq_iff_eq];omega
    clear h1 h2;cases hyr:y.kr
    all_goals
     rw[hyr] at y1;have HYR:=hd_ hyr;clear hyr;cases hxr:x.kr
     all_goals
      rw[hxr] at x1;have HXR:=hd_ hxr;clear hxr;go_wp2_with fail;go_meet
      exact⟨by first | rfl | simp [q1',q2',HYR.out,HXR.out],rfl⟩
  case rest =>
   obtain⟨rfl,rfl⟩:=hcut;clear x0 x1 y0 y1;cases cb with
   | false =>
    have HN:Hid (zc6 p q=none):=hd_ (by rw[HIS.out];rfl)
    obtain⟨f0,f1,c0,c1⟩:=HI.out.b4.all;go_wp2_with fail;have hE:=HI.out.b4.put (zL none 0 0) false;have hb:=zci HI.out.low (g:=w.heap.size+1+1) (by omega) (zL none 0 0) (.bool false)
    generalize (wc.setCell ⟨w.heap.size+1+1,0,none⟩ (zL none 0 0)).setCell ⟨w.heap.size+1+1,1,none⟩ (.bool false)=W3 at hE hb |-;clear f0 f1 c0 c1;obtain⟨-,-,c0,c1⟩:=hE.all;exact bodyPost_ret (v:=.tuple #[.agg #[zL none 0 0,.bool false],.bool false]) (by simp [results,Tryz.results44,go_sem,c0,c1]) rfl ⟨hb,.inl ⟨HN,rfl⟩⟩
   | true =>
    have x0:=HI.out.b2.c0;have x1:=HI.out.b2.c1;have HO:Hid (zpr wc (wc.alloc (zC #[zL none 0 0,.bool x.kr] 56)) wc.heap.size (zL none 0 0) x.kr []):=hd_ ⟨zR,Zd _,z0l wc [zL none 0 0,.bool x.kr] _,Zv _ _ _ _⟩;have y0:=HI.out.b2.c0;have hnl:=HI.out.low.size;have x2:(wc.alloc (zC #[zL none 0 0,.bool x.kr] 56)).cell? ⟨w.heap.size,0,none⟩=some (.slice X x.kp.length c1):=(HI.next HO.low).b2.c0;go_upto_region 9 with fail;generalize wc.alloc (zC #[zL none 0 0,.bool x.kr] 56)=W8 at HO x2 |-;clear x0 x1 y0;obtain⟨g7,hg7⟩:∃ g,wc.heap.size=g:=⟨_,rfl⟩;rw[hg7] at HO |-;have HG7:=hd_ hg7;clear hg7;go_wp2_with fail;go_loopw [62] (fun i wr=>∃(k:Nat) (v:zV) (done:List zA),i=zI k/\k<=x.kp.length/\Hid (zc7 x.kp y.kp k done/\zpr wc wr g7 v x.kr done)) (fun i _=>x.kp.length - (intOf i).toNat)
    exact⟨0,_,[],rfl,Zg _,hd_ ⟨zc8 _ _,HO⟩⟩
    obtain⟨k,v,done,rfl,hk,HJ⟩:=hrel;clear x2 HO;by_cases hlt:k<x.kp.length
    ·have HW:=hd_ (HI.next HJ.2.low);obtain⟨ad,rfl,hab,s0⟩:=z20.at_ HW.out.px.1 hlt;have z0:=HJ.out.2.box.c0;have HLT:=hd_ hlt;have HDL:=hd_ HJ.1.1;have hd12:done.length<=12:=by have:=HDL.out;omega
     have HFX:=hd_ (zd5 HI.ex hlt);have HZX:=hd_ (HI.px.2 _ (Za hlt));have HMX:=hd_ (Za hlt);obtain⟨Av,cv,rfl⟩:=z0o HJ.out.2.own;by_cases hge:y.kp.length<=k
     ·have q1:decide ((y.kp.length:Int)<=(k:Int))=true:=by simp;omega
      have q1':decide (y.kp.length<=k)=true:=by simp;omega
      have HN:=hd_ (zpj HJ.1 hlt hge);generalize x.kp[k]=s at s0 HFX HZX HMX HN;clear hab hge;have HO1:=hd_ (HJ.2.ku ((Zb wr.heap.size wr).alloc (Zd _) (zC #[zS s] 9)));have hrow:=z0i wr [zS s] 9 1 1 rfl (by decide) _ rfl
      have hsz:g7+1<=(wr.alloc (zC #[zS s] 9)).heap.size:=by have:=Blk.lt HJ.out.2.box;simp;omega
      go_wp2_with (at_builtin;refine z0j rfl rfl zac HO1.own rfl hrow rfl (by simp [Value.oneCell']) (by omega) (by unfold maxLen;omega) hsz ?_;intro A' c' w2 hown hgr hob;have HP:=hd_ (HO1.push hown hgr hob);have hbw:=Blk.grown HO1.out.box hgr (fun e=>by have:=(HO1.out.own.lt g7 e.symm).1;omega);have hfz:=hbw.frozen 0;have hcl:w2.cell? ⟨g7,0,none⟩=some (.slice Av done.length cv):=hbw.cell 0)
      go_roundw
      exact⟨k+1,_,_,by go_num,by omega,hd_ ⟨HN,HP⟩⟩
      simp [intOf];omega
     ·have hlt2:k<y.kp.length:=by omega
      have q1:decide ((y.kp.length:Int)<=(k:Int))=false:=by simp;omega
      have q1':decide (y.kp.length<=k)=false:=by simp;omega
      have hzl:(k:Int)<(y.kp.length:Int):=by omega
      obtain⟨ae,rfl,hae,t0⟩:=z20.at_ HW.out.py.1 hlt2;have y0:=HW.out.b3.c0;have HFY:=hd_ (zd5 HI.ey hlt2);have HZY:=hd_ (HI.py.2 _ (Za hlt2));have HN1:Hid (zbl x.kp[k] y.kp[k]=true->zc7 x.kp y.kp (k+1) (done++[x.kp[k]])):=hd_ (fun h=>zca HJ.1 hlt hlt2 (zpl h));have HN2:Hid (zbl x.kp[k] y.kp[k]=false->(zbl y.kp[k] x.kp[k]=true->zc7 x.kp y.kp (k+1) (done++[y.kp[k]]))/\(zbl y.kp[k] x.kp[k]=false->zc3 x.kp y.kp=none)):=hd_ (fun h=>⟨fun h2=>zca HJ.1 hlt hlt2 (zpm h h2),fun h2=>zc9 HJ.1 hlt hlt2 (zpn h h2)⟩);generalize x.kp[k]=s at s0 HFX HZX HMX HN1 HN2;generalize y.kp[k]=t at t0 HFY HZY HN1 HN2;clear hab hge hae;have HIA:=hd_ (fun X=>zpi s t X HFX HFY HZX HZY);have HIB:=hd_ (fun X=>zpi t s X HFY HFX HZY HZX);obtain⟨b,hb⟩:∃ b,zbl s t=b:=⟨_,rfl⟩;rw[hb] at HIA HN1 HN2;clear hb;cases b with
      | true =>
       have HN:=hd_ (HN1 rfl);go_wp2_with fail;refine (HIA _).mono ?_;rintro e w6 ⟨rfl,hb6⟩;have HO6:=hd_ (HJ.2.ku hb6);have z0:=HO6.out.box.c0;clear s0 t0 y0 hb6;have HO1:=hd_ (HO6.ku ((Zb w6.heap.size w6).alloc (Zd _) (zC #[zS s] 9)));have hrow:=z0i w6 [zS s] 9 1 1 rfl (by decide) _ rfl
       have hsz:g7+1<=(w6.alloc (zC #[zS s] 9)).heap.size:=by have:=Blk.lt HO6.out.box;simp;omega
       go_wp2_with (at_builtin;refine z0j rfl rfl zac HO1.own rfl hrow rfl (by simp [Value.oneCell']) (by omega) (by unfold maxLen;omega) hsz ?_;intro A' c' w2 hown hgr hob;have HP:=hd_ (HO1.push hown hgr hob);have hbw:=Blk.grown HO1.out.box hgr (fun e=>by have:=(HO1.out.own.lt g7 e.symm).1;omega);have hfz:=hbw.frozen 0;have hcl:w2.cell? ⟨g7,0,none⟩=some (.slice Av done.length cv):=hbw.cell 0)
       go_roundw
       exact⟨k+1,_,_,by go_num,by omega,hd_ ⟨HN,HP⟩⟩
       simp [intOf];omega
      | false =>
       have HS2:=hd_ (HN2 rfl);obtain⟨b2,hb2⟩:∃ b2,zbl t s=b2:=⟨_,rfl⟩;rw[hb2] at HIB HS2;clear hb2;cases b2 with
       | true =>
        have HN:=hd_ (HS2.1 rfl);go_wp2_with fail;refine (HIA _).mono ?_;rintro e w6 ⟨rfl,hb6⟩;have HB6:=hd_ hb6;have y0:=(HW.out.next hb6).b3.c0;have t0:=z04 t0 hb6 (z03 t0);clear s0 hb6;go_wp2_with fail;refine (HIB _).mono ?_;rintro e w7 ⟨rfl,hb7⟩;have HO6:=hd_ (HJ.2.ku (z0r HB6 hb7));have z0:=HO6.out.box.c0;have y0:=(HW.out.next (z0r HB6.out hb7)).b3.c0;have t0:=z04 t0 hb7 (z03 t0);clear hb7;have hX7:zB w7 (w7.alloc (zC #[zS t] 9)).drew:=((Zb w7.heap.size w7).alloc (Zd _) (zC #[zS t] 9)).drew;have HO1:=hd_ (HO6.ku hX7);have hsz:g7+1<=(w7.alloc (zC #[zS t] 9)).drew.heap.size:=by have:=Blk.lt HO6.out.box;simp;omega
        have f0:=HO6.out.box.frozen 0;have z1:(w7.alloc (zC #[zS t] 9)).cell? ⟨g7,0,none⟩=some (.slice Av done.length cv):=(HO6.ku ((Zb w7.heap.size w7).alloc (Zd _) (zC #[zS t] 9))).box.c0;have hk2:(k:Int)<(y.kp.length:Int):=by omega
        go_upto_region 16 with fail;refine wp_region_noPanic ?_;go_region_law (refine step_app (base:=g7+1) rfl rfl strElem HO1.own (by simp [Act.eval,Act.put]) (Row.drewN (z0i w7 [zS t] _ 1 1 rfl (by decide) _ rfl) 1) (by simp [Act.eval,Act.put]) (by simp [Value.oneCell']) (by omega) (by unfold maxLen;omega) hsz ?_;intro A' c' w2 hown hgr hob;have HP:=hd_ (HO1.push hown ⟨hgr.os,hgr.tape,hgr.output,hgr.size,hgr.block⟩ hob);have hbw:=Blk.grown HO1.out.box hgr (fun e=>by have:=(HO1.out.own.lt g7 e.symm).1;omega);have hfz:=hbw.frozen 0;have hcl:w2.cell? ⟨g7,0,none⟩=some (.slice Av done.length cv):=hbw.cell 0)
        all_goals
         refine NoPanic.normal ?_;have hk:=‹∀(a:Act) (w:zW),Code.wp _ _ _ a w->_›;refine hk _ _ ?_;clear hk hown hgr hob hbw hfz hcl y0 z0 t0 f0 z1;go_wp2_with fail;go_roundw
         exact⟨k+1,_,_,by go_num,by omega,hd_ ⟨HN,HP⟩⟩
         simp [intOf];omega
       | false =>
        have HN:Hid (zc6 p q=none):=hd_ (by rw[HIS.out];simp [HS2.out.2 rfl])
        go_wp2_with fail;refine (HIA _).mono ?_;rintro e w6 ⟨rfl,hb6⟩;have HB6:=hd_ hb6;have y0:=(HW.out.next hb6).b3.c0;have t0:=z04 t0 hb6 (z03 t0);clear s0 hb6;go_wp2_with fail;refine (HIB _).mono ?_;rintro e w7 ⟨rfl,hb7⟩;have HW7:=hd_ (HW.next (z0r HB6 hb7));clear hb7 y0 t0;obtain⟨f0,f1,c0,c1⟩:=HW7.out.b4.all;go_wp2_with fail;have hE:=HW7.out.b4.put (zL none 0 0) false;have hb:=zci HW7.out.low (g:=w.heap.size+1+1) (by omega) (zL none 0 0) (.bool false)
        generalize (w7.setCell ⟨w.heap.size+1+1,0,none⟩ (zL none 0 0)).setCell ⟨w.heap.size+1+1,1,none⟩ (.bool false)=W3 at hE hb |-;clear f0 f1 c0 c1;obtain⟨-,-,c0,c1⟩:=hE.all;exact bodyPost_ret (v:=.tuple #[.agg #[zL none 0 0,.bool false],.bool false]) (by simp [results,Tryz.results44,go_sem,c0,c1]) rfl ⟨hb,.inl ⟨HN,rfl⟩⟩
    ·have hke:k=x.kp.length:=by omega
     subst hke;have HME:=hd_ (zpk HJ.1 HI.le);have HIX:Hid (zc6 p q=some ⟨done,x.kr && y.kr⟩):=hd_ (by rw[HIS.out];simp [HME.out])
     have HRE:Hid (x.kr=(x.kr && y.kr)):=hd_ (by
      have h:=HCB.out;by_cases h1:y.kp.length<x.kp.length
      ·rw[zpp h1] at h;rw[h];simp
      ·rw[zpq (by have:=HI.out.le;omega)] at h
       have:x.kr=y.kr:=by simpa using h
       rw[<- this];simp)
     have HW:=hd_ (HI.next HJ.2.low);have HMM2:=hd_ (zce HME);have hge:¬((x.kp.length:Int)<(x.kp.length:Int)):=by omega
     obtain⟨Av,cv,rfl⟩:=z0o HJ.out.2.own;have z0:=HJ.out.2.box.c0;have z1:=HJ.out.2.box.c1;obtain⟨f0,f1,c0,c1⟩:=HW.out.b4.all;rw[<- HRE.out] at HIX;obtain⟨bx,hbx⟩:∃ bx,x.kr=bx:=⟨_,rfl⟩;rw[hbx] at z1 HIX;clear hbx;have HG8:Hid (w.heap.size+1+1<g7):=hd_ (by have:=Blk.lt HI.out.b4;have:=HG7.out;omega)
     go_wp2_with fail;have hb:=zci HW.out.low (g:=w.heap.size+1+1) (by omega) (zL Av done.length cv) (.bool bx)
     have hE:=HW.out.b4.put (zL Av done.length cv) bx;have hO:=Row.of_own (z5c (z5c HJ.out.2.own (p:=⟨w.heap.size+1+1,0,none⟩) (fun e=>by have h1:g7+1<=w.heap.size+1+1:=(HJ.out.2.own.lt _ e).1;have:=HG8.out;omega) (zL Av done.length cv)) (p:=⟨w.heap.size+1+1,1,none⟩) (fun e=>by have h1:g7+1<=w.heap.size+1+1:=(HJ.2.own.lt _ e).1;have:=HG8.out;omega) (.bool bx))
     generalize (wr.setCell ⟨w.heap.size+1+1,0,none⟩ (zL Av done.length cv)).setCell ⟨w.heap.size+1+1,1,none⟩ (.bool bx)=W3 at hE hb hO |-;clear f0 f1 c0 c1;obtain⟨-,-,c0,c1⟩:=hE.all;refine bodyPost_ret (v:=.tuple #[.agg #[zL Av done.length cv,.bool bx],.bool true]) (by simp [results,Tryz.results44,go_sem,c0,c1]) rfl ⟨hb,.inr ⟨⟨done,bx⟩,Av,cv,HIX,rfl,fun x hx=>by have:=(HJ.out.2.own.lt x hx).1;have:=HG8.out;omega,hO,fun z hz=>?_⟩⟩
     rcases HMM2.out z hz with h | h
     ·exact HI.px.2 z h
     ·exact HI.py.2 z h
