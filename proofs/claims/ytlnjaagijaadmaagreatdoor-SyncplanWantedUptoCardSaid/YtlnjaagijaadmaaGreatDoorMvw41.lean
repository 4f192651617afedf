/- A part. -/
import Derived.Test.YtlnjaagijaadmaaGreatDoorMvw36
import Derived.Test.YtlnjaagijaadmaaGreatDoorMvw39
import Derived.Test.YtlnjaagijaadmaaGreatDoorMvw40
set_option linter.unusedVariables false
set_option linter.unusedSimpArgs false
set_option maxHeartbeats 8000000
set_option maxRecDepth 100000
namespace Go.Proofs.YtlnjaagijaadmaaGreatDoor
open Go.Proofs.Tryz
open Go.RowKit
theorem zt9 {es:List zdk}(h:zdp es):zmj (es.map zdk.p) 0:=by
 refine .inr (.inr (.inr ⟨rfl,fun x hx=>?_,by rw[Zk];exact h.len,fun x hx=>?_,fun i j hi hj=>?_⟩))
 ·obtain⟨y,hy,rfl⟩:=ZD.1 hx;rw[zmt,decide_eq_true (h.ok y hy).rule,decide_eq_true (h.ok y hy).reg];rfl
 ·obtain⟨y,hy,rfl⟩:=ZD.1 hx;rintro⟨q',hq',m,hm,hc⟩;obtain⟨q,hq,rfl⟩:=ZD.1 hq';obtain⟨m',hn⟩:=(h.ok y hy).nar q hq;have e:=hn.meet;rw[show zc6 y.l.1 q.1=some m from hm] at e;injection e with e
  subst e;have:=hn.len;have h2:12<y.r.1.kp.length+(m.kp.length - y.l.1.kp.length):=hc.2;omega
 ·have hi':i<es.length:=by rw[Zk] at hi;exact hi
  rw[List.getElem_map,List.getElem_map];obtain⟨h1,h2⟩:=h.apart i j hi' hj;rintro (⟨m,hm,-⟩ | ⟨m,hm,-⟩)
  ·rw[show zc6 es[i].l.1 es[j].l.1=some m from hm] at h1;cases h1
  ·rw[show zc6 es[i].r.1 es[j].r.1=some m from hm] at h2;cases h2
theorem znl:∀(l cs:List zA),(∀ x∈l,z8r x=false)->zcl l cs=l
 | [],_,_=>rfl
 | x :: xs,cs,h=>by
  unfold zcl;rw[if_neg (by rw[h x (Zj ..)];decide),znl xs cs fun y hy=>h y (Zh _ hy)]
theorem zta {w:zW}{v:zV}{es:List zdk}(hE:zdo w v es)(h:zdp es):∀ x∈es,zmr x:=by
 intro x hx q hq m hm z hz;have hi:=hE.2 x hx;obtain⟨m',hn⟩:=(h.ok x hx).nar q hq;have hsm:SmN 30000000 m.kp:=zn7 hm hi.l.2 (hi.h.2 q hq).2;unfold zif at hz;rw[znl _ _ hn.nr.star] at hz;rcases Zy.1 hz with hz | hz
 ·exact hi.r.2 z hz
 ·split at hz
  ·exact hsm z (ZW hz)
  ·cases hz
theorem znm {D:List Rev}{f:zA->Option zA}{m:Int}{p:zA}{h:Hav}(e:z8i D f m p=some h):f p=some h.loc:=by
 unfold z8i at e;split at e
 ·cases e
 ·split at e
  ·obtain⟨l,h1,rfl⟩:=Yg.1 e;exact h1
  ·cases e
theorem znn (D:List Rev)(es:List zdk)(m:Int)(dv dr mv:zV)(w:zW)(he:Env w)(hR:z3w w dv D)(hE:zdo w mv es)(hl:D.length<=1000000)(h6:∀ r∈D,r.kt∈z8e)(hS:ze2 es):
  Calls prog 6 #[.agg #[dv,dr],mv,zI m] w (WnPost w (z8j D (zdy es) m)):=by
 refine (zn4 D es m dv dr mv w he hR hE hl h6 hS.map.len (zta hE hS.map) fun _=>hS.fits).mono ?_;rintro e w' ⟨v,err,l,rfl,hv,hb,hP⟩;rcases hP with⟨a1,a2,-⟩ | ⟨a1,-,⟨p,hp,h,hw,hz⟩,-⟩ | ⟨-,rfl,-,rfl⟩
 ·exact absurd (zmk a2 (zt9 hS.map)) a1
 ·have:=hS.small p hp _ (znm hw);omega
 ·exact⟨v,rfl,hv,hb⟩
theorem zsl {x:zdk}{K:List PatM}(ho:okE x.p)(hl:¬ zmg x.p)(hn:K.length<=(zlr x.l.1 x.r.1 (x.hs.map (·.1))).length)(hs:SimP (zlr x.l.1 x.r.1 (x.hs.map (·.1))) (K.map (·.1))):(∀ q∈K,z8w q.1=0)/\K.length<=400:=by
 obtain⟨h1,h2,h3,h4⟩:=zmv ho;refine⟨fun q hq=>?_,?_⟩
 ·exact (zml h4 (fun h hh hc=>hl ⟨h,hh,hc⟩) q.1 (hs.1 _ (ZJ hq))).1
 ·have h6:=zmu x.l.1 x.r.1 (x.hs.map (·.1));rw[Zk] at h6;omega
theorem rcT16W (T:Code)(hT:Tryz.f5.body.bind (tailAt 16)=some T)(w W:zW)(A:zP)(c:Nat)(es:List zdk)(hE:zdo W (zL A es.length c) es)(hl:es.length<=32)
  (HOK:Hid (∀ j (hj:j<es.length),okE es[j].p)) (HNL:Hid (∀ j (hj:j<es.length),¬ zmg es[j].p)) (HS:Hid (∀ x∈es,zmr x)) (hbw:zB w W)
  (u1 u2 u3 u4 u5 u6 u7 u8 u9 gF gG gH gI gJ gK gL gM gN gO gP gQ gR gT gV gW gX gY gZ i6 i7 i8 ia ib ic ie ig ii ij ik il im io ip iq ir iu iv iw iy iz iA iB iC iD iE iF iG iH iI iJ iK iL iM iN iO iP iQ iR iS iT iU iV iW iX iY iZ j0 j1 j2 j9 jb jd je jf jg jh ji jj jk jl jm:zV):
  T.wp prog (bodyPost prog Tryz.f5 (ChkW w es)) ⟨#[zL A es.length c,u1,u2,u3,u4,u5,u6,u7,u8,u9,gF,gG,gH,gI,gJ,gK,gL,gM,gN,gO,gP,gQ,gR,gT,gV,gW,gX,gY,gZ,i6,i7,i8,ia,ib,ic,ie,ig,ii,ij,ik,il,im,io,ip,iq,ir,iu,iv,iw,iy,iz,iA,iB,iC,iD,iE,iF,iG,iH,iI,iJ,iK,iL,iM,iN,iO,iP,iQ,iR,iS,iT,iU,iV,iW,iX,iY,iZ,j0,j1,j2,j9,jb,jd,je,jf,jg,jh,ji,jj,jk,jl,jm],[]⟩ W:=by
 simp only[Tryz.f5,Zp,tailAt,hasReg] at hT
 simp at hT
 subst hT;have HE:=hd_ (fun X (hX:zB W X)=>hE.kw hX);have HBW:=hd_ hbw;have hcc:es.length<=c:=by obtain⟨A',c',e,h1,-⟩:=id hE.1;injection e with e1 e2 e3;omega
 clear hE hbw;go_wp2_with fail;go_loopw [56] (fun i wr=>∃ k:Nat,i=zI k/\k<=es.length/\Hid (zB W wr/\∀(i j:Nat) (hi:i<es.length) (hj:j<i),i<k->¬ zmi es[i].p (es[j]'(ZZ hj hi)).p)) (fun i _=>es.length - (intOf i).toNat)
 exact⟨0,rfl,Zg _,hd_ ⟨Zb _ _,fun i j _ _ h=>by omega⟩⟩
 obtain⟨k,rfl,hk,HI⟩:=hrel;by_cases hlt:k<es.length
 ·have HEX:=hd_ (HE wr HI.1);obtain⟨ad,rfl,hab,s0,s1,s2,s3,s4⟩:=HEX.out.at_ hlt;have HXI:=hd_ (HEX.2 es[k] (Za hlt));have HSX:=hd_ (HS es[k] (Za hlt));have HMT:Hid (∀(j:Nat) (hj:j<k),zmi es[k].p (es[j]'(ZZ hj hlt)).p->zmj (es.map zdk.p) 71):=hd_ (fun j hj h=>.inr (.inr (.inl ⟨rfl,fun x hx=>(by obtain⟨j,hj,rfl⟩:=zmx x hx;exact HOK j hj),by simpa using hl,fun x hx=>(by obtain⟨j,hj,rfl⟩:=zmx x hx;exact HNL j hj),k,j,by simpa using hlt,hj,by simpa using h⟩)))
  have HNX:Hid ((∀(j:Nat) (hj:j<k),¬ zmi es[k].p (es[j]'(ZZ hj hlt)).p)->∀(i j:Nat) (hi:i<es.length) (hj:j<i),i<k+1->¬ zmi es[i].p (es[j]'(ZZ hj hi)).p):=hd_ (fun h i j hi hj hik=>by
   by_cases e:i=k
   ·subst e;exact h j hj
   ·exact HI.2 i j hi hj (by omega))
  have HOX:=hd_ (HOK k hlt);have HNX2:=hd_ (HNL k hlt);have HI:=hd_ HI.1;generalize es[k]=x at s0 s1 s2 s3 s4 HXI HSX HMT HNX HOX HNX2;obtain⟨H,hc,hhv⟩:=HXI.out.holes;obtain⟨⟨pl,Al,cl⟩,⟨pr,Ar,cr⟩,hv,hs⟩:=x;change hv=zL H hs.length hc at hhv;subst hhv;change wr.cell? _=some (.slice Al pl.kp.length cl) at s0;change wr.cell? _=some (.bool pl.kr) at s1;change wr.cell? _=some (.slice Ar pr.kp.length cr) at s2;change wr.cell? _=some (.bool pr.kr) at s3;change wr.cell? _=some (.slice H hs.length hc) at s4;have hX:zB wr (wr.alloc (zC #[zL Al pl.kp.length cl,.bool pl.kr,zL Ar pr.kp.length cr,.bool pr.kr,zL H hs.length hc] 59)):=zR;have HX:=hd_ (z0r HI hX);have HN:Hid (Blk _ _ 59 [zL Al pl.kp.length cl,.bool pl.kr,zL Ar pr.kp.length cr,.bool pr.kr,zL H hs.length hc]):=hd_ (z0l wr _ _);have HXP:=hd_ (HXI.kw hX);have hpre:=fun X=>zdr (P:=prog) (t:=23) (n:=es.length) (c:=c) (k:=k) (A:=some ad) underlying23 zds (by omega) X
  have HPR:=hd_ hpre;have HLT:=hd_ hlt;clear hab hX hpre;go_upto_region 19 with fail;generalize wr.alloc (zC #[zL Al pl.kp.length cl,.bool pl.kr,zL Ar pr.kp.length cr,.bool pr.kr,zL H hs.length hc] 59)=W4 at HX HN HXP |-;generalize wr.heap.size=g11 at HN |-;clear s0 s1 s2 s3 s4;obtain⟨x0,x1,x2,x3,x4⟩:=(⟨HN.out.cell 0,HN.out.cell 1,HN.out.cell 2,HN.out.cell 3,HN.out.cell 4⟩:W4.cell? ⟨g11,0,none⟩=some (.slice Al pl.kp.length cl)/\W4.cell? ⟨g11,1,none⟩=some (.bool pl.kr)/\W4.cell? ⟨g11,2,none⟩=some (.slice Ar pr.kp.length cr)/\W4.cell? ⟨g11,3,none⟩=some (.bool pr.kr)/\W4.cell? ⟨g11,4,none⟩=some (.slice H hs.length hc));have HES:=hd_ (zmv HOX);have HRC:=hd_ (zsf pl pr hs Al Ar H cl cr hc W4 HXP.l HXP.r HXP.h (Zf HES.2.1 (by decide)) HES.2.2.2 HES.2.2.1 HSX)
  go_wp2_with fail;refine HRC.mono ?_;rintro e w5 ⟨hb,⟨⟨q9,hq9,hl9⟩,-⟩ | ⟨-,H9,c9,K9,rfl,hK9,hKL9,hKS9⟩⟩
  ·exact absurd ⟨q9.1,ZJ hq9,hl9⟩ HNX2.out
  dsimp only;have hX5:zB w5 (w5.alloc (zC #[zL Ar pr.kp.length cr,.bool pr.kr,zL H9 K9.length c9] 66)):=zR;have hb6:=z0r hb hX5;have HB6:=hd_ (z0r HX hb6);have HE6:=hd_ (HN.kw hb6 HN.lt);have HX6:=hd_ (HXP.kw hb6);have HG6:Hid (Blk _ _ 66 [zL Ar pr.kp.length cr,.bool pr.kr,zL H9 K9.length c9]):=hd_ (z0l w5 _ _);have HK6:=hd_ (hK9.kw hX5);have HKK:=hd_ (Zi (zsl HOX.out HNX2.out hKL9 hKS9) hKS9);clear hb hX5 hb6 x0 x1 x2 x3 x4 HRC HN HXP hK9 hKL9 hKS9;go_upto_region 20 with fail;generalize w5.alloc (zC #[zL Ar pr.kp.length cr,.bool pr.kr,zL H9 K9.length c9] 66)=W6 at HB6 HE6 HX6 HG6 HK6 |-;generalize w5.heap.size=g12 at HG6 |-;have hpre:=HPR.out;go_wp2_with fail;clear hpre;go_loopw [70] (fun i wr=>∃ j:Nat,i=zI j/\j<=k/\Hid (zB W6 wr/\∀(j':Nat) (hj:j'<k),j'<j->¬ zmi (zdk.p ⟨(pl,Al,cl),(pr,Ar,cr),zL H hs.length hc,hs⟩) (es[j']'(ZZ hj HLT)).p)) (fun i _=>k - (intOf i).toNat)
  exact⟨0,rfl,Zg _,hd_ ⟨Zb _ _,fun j' _ h=>by omega⟩⟩
  obtain⟨j,rfl,hj,HJ⟩:=hrel;by_cases hlj:j<k
  ·have hje:j<es.length:=by have:=HLT.out;omega
   have HEY:=hd_ (HE wr (z0r HB6 HJ.1));obtain⟨ad2,had,hab,s0,s1,s2,s3,s4⟩:=HEY.out.at_ hje;injection had with had
   subst had;have HYI:=hd_ (HEY.2 es[j] (Za hje));have HSY:=hd_ (HS es[j] (Za hje));have HAJ:=hd_ (HMT j hlj);have HYE:Hid (¬ zmi (zdk.p ⟨(pl,Al,cl),(pr,Ar,cr),zL H hs.length hc,hs⟩) es[j].p->∀(j':Nat) (hj:j'<k),j'<j+1->¬ zmi (zdk.p ⟨(pl,Al,cl),(pr,Ar,cr),zL H hs.length hc,hs⟩) (es[j']'(ZZ hj HLT)).p):=hd_ (fun h j' hj' hjj=>by
    by_cases e:j'=j
    ·subst e;exact h
    ·exact HJ.2 j' hj' (by omega))
   have HOY:=hd_ (HOK j hje);have HNY:=hd_ (HNL j hje);have HJ:=hd_ HJ.1;generalize es[j]=y at s0 s1 s2 s3 s4 HYI HSY HAJ HYE HOY HNY;obtain⟨Hy,hcy,hhv⟩:=HYI.out.holes;obtain⟨⟨ql,Bl,dl⟩,⟨qr,Br,dr⟩,hv,hsy⟩:=y;change hv=zL Hy hsy.length hcy at hhv;subst hhv;change wr.cell? _=some (.slice Bl ql.kp.length dl) at s0;change wr.cell? _=some (.bool ql.kr) at s1;change wr.cell? _=some (.slice Br qr.kp.length dr) at s2;change wr.cell? _=some (.bool qr.kr) at s3;change wr.cell? _=some (.slice Hy hsy.length hcy) at s4;have hX:zB wr (wr.alloc (zC #[zL Bl ql.kp.length dl,.bool ql.kr,zL Br qr.kp.length dr,.bool qr.kr,zL Hy hsy.length hcy] 59)):=zR;have HJ7:=hd_ (z0r HJ hX);have HN7:Hid (Blk _ _ 59 [zL Bl ql.kp.length dl,.bool ql.kr,zL Br qr.kp.length dr,.bool qr.kr,zL Hy hsy.length hcy]):=hd_ (z0l wr _ _);have HYP:=hd_ (HYI.kw hX);have HLJ:=hd_ hlj;clear hab hX;go_upto_region 23 with fail;generalize wr.alloc (zC #[zL Bl ql.kp.length dl,.bool ql.kr,zL Br qr.kp.length dr,.bool qr.kr,zL Hy hsy.length hcy] 59)=W7 at HJ7 HN7 HYP |-;generalize wr.heap.size=g15 at HN7 |-;clear s0 s1 s2 s3 s4;obtain⟨x0,x1,x2,x3,x4⟩:=(⟨HN7.out.cell 0,HN7.out.cell 1,HN7.out.cell 2,HN7.out.cell 3,HN7.out.cell 4⟩:W7.cell? ⟨g15,0,none⟩=some (.slice Bl ql.kp.length dl)/\W7.cell? ⟨g15,1,none⟩=some (.bool ql.kr)/\W7.cell? ⟨g15,2,none⟩=some (.slice Br qr.kp.length dr)/\W7.cell? ⟨g15,3,none⟩=some (.bool qr.kr)/\W7.cell? ⟨g15,4,none⟩=some (.slice Hy hsy.length hcy));have HFS:=hd_ (zmv HOY);have HRC:=hd_ (zsf ql qr hsy Bl Br Hy dl dr hcy W7 HYP.l HYP.r HYP.h (Zf HFS.2.1 (by decide)) HFS.2.2.2 HFS.2.2.1 HSY)
   go_wp2_with fail;refine HRC.mono ?_;rintro e w8 ⟨hb,⟨⟨q9,hq9,hl9⟩,-⟩ | ⟨-,H8,c8,K8,rfl,hK8,hKL8,hKS8⟩⟩
   ·exact absurd ⟨q9.1,ZJ hq9,hl9⟩ HNY.out
   dsimp only;have hX8:zB w8 (w8.alloc (zC #[zL Br qr.kp.length dr,.bool qr.kr,zL H8 K8.length c8] 66)):=zR;have hb9:=z0r hb hX8;have HJ9:=hd_ (z0r HJ7 hb9);have h15:=HN7.out.kw hb9 HN7.out.lt;have hy9:=HYP.out.kw hb9;have h16:Blk _ _ 66 [zL Br qr.kp.length dr,.bool qr.kr,zL H8 K8.length c8]:=z0l w8 _ _;have HC9:=hd_ (Zi h15 (Zi hy9 h16));have HK9:=hd_ (hK8.kw hX8);have HKY:=hd_ (Zi (zsl HOY.out HNY.out hKL8 hKS8) hKS8);clear hb hX8 hb9 x0 x1 x2 x3 x4 HRC HN7 HYP h15 hy9 h16 hK8 hKL8 hKS8;go_upto_region 24 with fail;generalize w8.alloc (zC #[zL Br qr.kp.length dr,.bool qr.kr,zL H8 K8.length c8] 66)=W9 at HJ9 HC9 HK9 |-;generalize w8.heap.size=g16 at HC9 |-;have hx9:=HX6.out.kw HJ9.out;have hk9:=HK6.out.kw HJ9.out;have HCL:=hd_ (fun X (hX:zB W9 X)=>(zsk pl ql hs hsy Al Bl H Hy cl dl hc hcy X (hx9.l.kw hX) (HC9.2.1.l.kw hX) (hx9.h.kw hX) (HC9.2.1.h.kw hX) HES.2.2.1 HFS.2.2.1 HES.2.1 HFS.2.1).mono (fun e w' h=>h.val));have HCR:=hd_ (fun X (hX:zB W9 X)=>(zsk pr qr K9 K8 Ar Br H9 H8 cr dr c9 c8 X (hx9.r.kw hX) (HC9.2.1.r.kw hX) (hk9.kw hX) (HK9.kw hX) HKK.1.1 HKY.1.1 HKK.1.2 HKY.1.2).mono (fun e w' h=>h.val));have HB1:Hid (zmp pl (hs.map (·.1)) ql (hsy.map (·.1))=true↔zmh pl (hs.map (·.1)) ql (hsy.map (·.1))):=hd_ zmq;have HB2:Hid (zmp pr (K9.map (·.1)) qr (K8.map (·.1))=true↔zmh pr (zlr pl pr (hs.map (·.1))) qr (zlr ql qr (hsy.map (·.1)))):=hd_ (zmq.trans (zmm HKK.2 HKY.2).symm);generalize zmp pl (hs.map (·.1)) ql (hsy.map (·.1))=b1 at HCL HB1;generalize zmp pr (K9.map (·.1)) qr (K8.map (·.1))=b2 at HCR HB2;refine rcR24W _ (by kernel_rfl) _ W9 g11 g12 g15 g16 pl ql pr qr Al Bl Ar Br H Hy H9 H8 cl dl cr dr hs.length hsy.length K9.length K8.length hc hcy c9 c8 (HE6.kw HJ9 HE6.lt) HC9.1 (HG6.kw HJ9 HG6.lt) HC9.2.2 b1 b2 HCL HCR ?_
   intro fQ fR fS fT fU fV fW fX fY w' hb';have HBN:=hd_ (z0r HJ9 hb');clear hb' hx9 hk9;obtain⟨bb,hbb⟩:∃ bb,(b1 || b2)=bb:=⟨_,rfl⟩;have HBB:Hid (bb=true↔zmi (zdk.p ⟨(pl,Al,cl),(pr,Ar,cr),zL H hs.length hc,hs⟩) (zdk.p ⟨(ql,Bl,dl),(qr,Br,dr),zL Hy hsy.length hcy,hsy⟩)):=hd_ (by
    rw[<- hbb,Bool.or_eq_true,HB1.out,HB2.out];rfl)
   rw[hbb];clear hbb HCL HCR HB1 HB2;cases bb with
   | true =>
    have HR:=hd_ (HAJ (HBB.1 rfl));have HBE:=hd_ (z0r HBW (z0r HB6 HBN));go_wp2_with fail;go_ret2;exact⟨_,_,rfl,HR,HBE⟩
   | false =>
    have HY:=hd_ (HYE (fun h=>by have:=HBB.out.2 h;cases this))
    go_wp2_with fail;go_roundw
    exact⟨j+1,by go_num,by have:=HLJ.out;omega,hd_ ⟨HBN,HY⟩⟩
    have:=HLJ.out;simp [intOf];omega
  ·have hke:j=k:=by omega
   subst hke;have HNE:=hd_ (HNX (fun j' hj'=>HJ.2 j' hj' hj'));have HBE:=hd_ (z0r HB6 HJ.1);have hge:¬((j:Int)<(j:Int)):=by omega
   go_wp2_with fail;go_roundw
   exact⟨j+1,by go_num,by have:=HLT.out;omega,hd_ ⟨HBE,HNE⟩⟩
   have:=HLT.out;simp [intOf];omega
 ·have hke:k=es.length:=by omega
  subst hke;have HB:=hd_ (z0r HBW HI.1);have HR:Hid (zmj (es.map zdk.p) 0):=hd_ (.inr (.inr (.inr ⟨rfl,fun x hx=>(by obtain⟨j,hj,rfl⟩:=zmx x hx;exact HOK j hj),by simpa using hl,fun x hx=>(by obtain⟨j,hj,rfl⟩:=zmx x hx;exact HNL j hj),fun i j hi hj h=>HI.2 i j (by simpa using hi) hj (by simpa using hi) (by simpa using h)⟩)))
  have hge:¬((es.length:Int)<(es.length:Int)):=by omega
  go_wp2_with fail;go_ret2;exact⟨_,_,rfl,HR,HB⟩
theorem zsm (ex:Bool)(l r:Pat)(A B:zP)(a b:Nat)(w:zW)(hL:zbx w (zL A l.kp.length a) l)(hR:zbx w (zL B r.kp.length b) r):
  Calls prog 18 #[.agg #[.bool ex,zL A l.kp.length a,.bool l.kr,zL B r.kp.length b,.bool r.kr]] w fun e w'=>e=.returned (zI (zbw l r))/\zB w w':=by
 have hB:=z0l w [.bool ex,zL A l.kp.length a,.bool l.kr,zL B r.kp.length b,.bool r.kr] 62;have hA:zB w (w.alloc (zC #[.bool ex,zL A l.kp.length a,.bool l.kr,zL B r.kp.length b,.bool r.kr] 62)):=zR;have HCL:=hd_ (fun X (hX:zB w X)=>zd3 l A a X (hL.kw hX).1 hL.small);have HCR:=hd_ (fun X (hX:zB w X)=>zd3 r B b X (hR.kw hX).1 hR.small);have HKL:=hd_ (fun X (hX:zB w X) (h1:z8w l=0)=>zqe l A a X (hL.kw hX) h1);have HKR:=hd_ (fun X (hX:zB w X) (h2:z8w r=0)=>zqe r B b X (hR.kw hX) h2);unfold zqd at HKL HKR;have HRU:Hid (zbw l r=if z8w l≠0 then 40 else if z8w r≠0 then 41 else if zbq l≠zbq r\/l.kr≠r.kr then 42 else 0):=hd_ rfl;generalize zbw l r=res at HRU |-;obtain⟨pl,hpl⟩:∃ x,z8w l=x:=⟨_,rfl⟩;obtain⟨pr,hpr⟩:∃ x,z8w r=x:=⟨_,rfl⟩;have hsl:zbq l<=l.kp.length:=ZS ..;rw[hpl] at HCL HRU;rw[hpr] at HCR HRU;have HPL:=hd_ hpl;have HPR:=hd_ hpr;clear hL hR hpl hpr hsl;go_enter func18,ntmps18;go_upto_region 1 with fail;generalize w.alloc (zC #[.bool ex,zL A l.kp.length a,.bool l.kr,zL B r.kp.length b,.bool r.kr] 62)=W1 at hB hA |-;have d1:W1.cell? ⟨w.heap.size,1,none⟩=some (.slice A l.kp.length a):=hB.cell 1;have d2:W1.cell? ⟨w.heap.size,2,none⟩=some (.bool l.kr):=hB.cell 2;have HB:=hd_ hB;have HA:=hd_ hA;have HC:=hd_ (HCL W1 hA);clear hA hB HCL;by_cases h1:pl=0
 case neg =>
  have q1:(pl != 0)=true:=by simpa using h1
  have HR:Hid (res=40):=hd_ (by rw[HRU.out];exact if_pos h1)
  clear h1;go_wp2_with fail;refine HC.mono ?_;rintro e w2 ⟨rfl,hb⟩;dsimp only;have HA:=hd_ (z0r HA hb);clear hb d1 d2 HC;go_wp2_with fail;go_ret;exact⟨by rw[HR.out];rfl,HA⟩
 subst h1;have HRU:=hd_ (HRU.trans (if_neg (by simp)))
 go_wp2_with fail;refine HC.mono ?_;rintro e w2 ⟨rfl,hb⟩;have HB:=hd_ (HB.kw hb HB.lt);have HA:=hd_ (z0r HA hb);clear hb d1 d2 HC;have d3:w2.cell? ⟨w.heap.size,3,none⟩=some (.slice B r.kp.length b):=HB.cell 3;have d4:w2.cell? ⟨w.heap.size,4,none⟩=some (.bool r.kr):=HB.cell 4;have HC:=hd_ (HCR w2 HA);clear HCR;by_cases h1:pr=0
 case neg =>
  have q1:(pr != 0)=true:=by simpa using h1
  have HR:Hid (res=41):=hd_ (by rw[HRU.out];exact if_pos h1)
  clear h1;go_wp2_with fail;refine HC.mono ?_;rintro e w2 ⟨rfl,hb⟩;dsimp only;have HA:=hd_ (z0r HA hb);clear hb d3 d4 HC;go_wp2_with fail;go_ret;exact⟨by rw[HR.out];rfl,HA⟩
 subst h1;have HRU:=hd_ (HRU.trans (if_neg (by simp)))
 go_wp2_with fail;refine HC.mono ?_;rintro e w3 ⟨rfl,hb⟩;have HB:=hd_ (HB.kw hb HB.lt);have HA:=hd_ (z0r HA hb);clear hb d3 d4 HC;have d1:w3.cell? ⟨w.heap.size,1,none⟩=some (.slice A l.kp.length a):=HB.cell 1;have d2:w3.cell? ⟨w.heap.size,2,none⟩=some (.bool l.kr):=HB.cell 2;have HC:=hd_ (HKL w3 HA HPL);clear HKL;go_wp2_with fail;refine HC.mono ?_;rintro e w4 ⟨rfl,hb⟩;have HB:=hd_ (HB.kw hb HB.lt);have HA:=hd_ (z0r HA hb);clear hb d1 d2 HC;have d3:w4.cell? ⟨w.heap.size,3,none⟩=some (.slice B r.kp.length b):=HB.cell 3;have d4:w4.cell? ⟨w.heap.size,4,none⟩=some (.bool r.kr):=HB.cell 4;have HC:=hd_ (HKR w4 HA HPR);clear HKR;go_wp2_with fail;refine HC.mono ?_;rintro e w5 ⟨rfl,hb⟩;have HA:=hd_ (z0r HA hb);clear hb d3 d4 HC;clear HPL HPR;generalize zbq l=n at HRU |-;generalize zbq r=m at HRU |-;by_cases hnm:n=m
 ·subst hnm;have q1:((n:Int) != (n:Int))=false:=by simp
  cases hb1:l.kr <;> cases hb2:r.kr
  all_goals
   rw[hb1,hb2] at HRU;clear hb1 hb2;go_wp2_with fail;go_ret;exact⟨by rw[HRU.out];simp,HA⟩
 ·have q1:((n:Int) != (m:Int))=true:=by simp;omega
  have HR:Hid (res=42):=hd_ (by rw[HRU.out];exact if_pos (.inl hnm))
  go_wp2_with fail;go_ret;exact⟨by rw[HR.out];rfl,HA⟩
theorem rcT9W (T:Code)(hT:Tryz.f5.body.bind (tailAt 9)=some T)(w W:zW)(A:zP)(c:Nat)(es:List zdk)(hE:zdo W (zL A es.length c) es)(hl:es.length<=32)
  (HOK:Hid (∀ j (hj:j<es.length),okE es[j].p)) (HS:Hid (∀ x∈es,zmr x)) (hbw:zB w W)
  (u1 u2 u3 u4 u5 u6 u7 u8 u9 gF gG gH gI gJ gK gL gM gN gO gP gQ gR gT gV gW gX gY gZ i6 i7 i8 ia ib ic ie ig ii ij ik il im io ip iq ir iu iv iw iy iz iA iB iC iD iE iF iG iH iI iJ iK iL iM iN iO iP iQ iR iS iT iU iV iW iX iY iZ j0 j1 j2 j9 jb jd je jf jg jh ji jj jk jl jm:zV):
  T.wp prog (bodyPost prog Tryz.f5 (ChkW w es)) ⟨#[zL A es.length c,u1,u2,u3,u4,u5,u6,u7,u8,u9,gF,gG,gH,gI,gJ,gK,gL,gM,gN,gO,gP,gQ,gR,gT,gV,gW,gX,gY,gZ,i6,i7,i8,ia,ib,ic,ie,ig,ii,ij,ik,il,im,io,ip,iq,ir,iu,iv,iw,iy,iz,iA,iB,iC,iD,iE,iF,iG,iH,iI,iJ,iK,iL,iM,iN,iO,iP,iQ,iR,iS,iT,iU,iV,iW,iX,iY,iZ,j0,j1,j2,j9,jb,jd,je,jf,jg,jh,ji,jj,jk,jl,jm],[]⟩ W:=by
 simp only[Tryz.f5,Zp,tailAt,hasReg] at hT
 simp at hT
 subst hT;have HE:=hd_ (fun X (hX:zB W X)=>hE.kw hX);have HBW:=hd_ hbw;clear hE hbw;go_wp2_with fail;go_loopw [42] (fun i wr=>∃ k:Nat,i=zI k/\k<=es.length/\Hid (zB W wr/\∀ j (hj:j<es.length),j<k->¬ zmg es[j].p)) (fun i _=>es.length - (intOf i).toNat)
 exact⟨0,rfl,Zg _,hd_ ⟨Zb _ _,fun j _ h=>by omega⟩⟩
 obtain⟨k,rfl,hk,HI⟩:=hrel;by_cases hlt:k<es.length
 ·have HEX:=hd_ (HE wr HI.1);obtain⟨ad,rfl,hab,s0,s1,s2,s3,s4⟩:=HEX.out.at_ hlt;have HXI:=hd_ (HEX.2 es[k] (Za hlt));have HES:=hd_ (zmv (HOK k hlt));have HSZ:=hd_ (HS es[k] (Za hlt));have HNO:Hid (zmg es[k].p->zmj (es.map zdk.p) 72):=hd_ (fun h=>.inr (.inl ⟨rfl,fun x hx=>(by obtain⟨j,hj,rfl⟩:=zmx x hx;exact HOK j hj),.inr ⟨_,ZJ (Za hlt),h⟩⟩))
  have HYE:Hid (¬ zmg es[k].p->∀ j (hj:j<es.length),j<k+1->¬ zmg es[j].p):=hd_ (fun h j hj hjk=>by
   by_cases e:j=k
   ·subst e;exact h
   ·exact HI.2 j hj (by omega))
  have HI:=hd_ HI.1;generalize es[k]=x at s0 s1 s2 s3 s4 HXI HES HSZ HNO HYE;obtain⟨H,hc,hhv⟩:=HXI.out.holes;obtain⟨⟨pl,Al,cl⟩,⟨pr,Ar,cr⟩,hv,hs⟩:=x;change hv=zL H hs.length hc at hhv;subst hhv;change wr.cell? _=some (.slice Al pl.kp.length cl) at s0;change wr.cell? _=some (.bool pl.kr) at s1;change wr.cell? _=some (.slice Ar pr.kp.length cr) at s2;change wr.cell? _=some (.bool pr.kr) at s3;change wr.cell? _=some (.slice H hs.length hc) at s4;have hX:zB wr (wr.alloc (zC #[zL Al pl.kp.length cl,.bool pl.kr,zL Ar pr.kp.length cr,.bool pr.kr,zL H hs.length hc] 59)):=zR;have HX:=hd_ (z0r HI hX);have HXP:=hd_ (HXI.kw hX);have HN:Hid (Blk (wr.alloc (zC #[zL Al pl.kp.length cl,.bool pl.kr,zL Ar pr.kp.length cr,.bool pr.kr,zL H hs.length hc] 59)) wr.heap.size 59 [zL Al pl.kp.length cl,.bool pl.kr,zL Ar pr.kp.length cr,.bool pr.kr,zL H hs.length hc]):=hd_ (z0l wr _ _);have HLT:=hd_ hlt;clear hab hX;go_upto_region 12 with fail;generalize wr.alloc (zC #[zL Al pl.kp.length cl,.bool pl.kr,zL Ar pr.kp.length cr,.bool pr.kr,zL H hs.length hc] 59)=W4 at HX HN HXP |-;generalize wr.heap.size=g7 at HN |-;clear s0 s1 s2 s3 s4;obtain⟨x0,x1,x2,x3,x4⟩:=(⟨HN.out.cell 0,HN.out.cell 1,HN.out.cell 2,HN.out.cell 3,HN.out.cell 4⟩:W4.cell? ⟨g7,0,none⟩=some (.slice Al pl.kp.length cl)/\W4.cell? ⟨g7,1,none⟩=some (.bool pl.kr)/\W4.cell? ⟨g7,2,none⟩=some (.slice Ar pr.kp.length cr)/\W4.cell? ⟨g7,3,none⟩=some (.bool pr.kr)/\W4.cell? ⟨g7,4,none⟩=some (.slice H hs.length hc));have HRC:=hd_ (zsf pl pr hs Al Ar H cl cr hc W4 HXP.l HXP.r HXP.h (Zf HES.2.1 (by decide)) HES.2.2.2 HES.2.2.1 HSZ)
  go_wp2_with fail;refine HRC.mono ?_;rintro e w5 ⟨hb,⟨⟨q9,hq9,hl9⟩,rfl⟩ | ⟨hnl,H9,c9,K9,rfl,-,-,-⟩⟩
  ·dsimp only;have HR:=hd_ (HNO ⟨q9.1,ZJ hq9,hl9⟩);have hX:zB w5 (w5.alloc (zC #[zL none 0 0,.bool false,zL none 0 0] 66)):=zR;have HB:=hd_ (z0r HBW (z0r HX (z0r hb hX)));clear hb hX x0 x1 x2 x3 x4 HRC hq9 hl9;go_wp2_with fail;go_ret2;exact⟨_,_,rfl,HR,HB⟩
  dsimp only;have HY:=hd_ (HYE (fun ⟨h,hh,hc⟩=>by obtain⟨q,hq,rfl⟩:=ZD.1 hh;exact hnl q hq hc))
  have hX:zB w5 (w5.alloc (zC #[zL Ar pr.kp.length cr,.bool pr.kr,zL H9 K9.length c9] 66)):=zR;have HB:=hd_ (z0r HX (z0r hb hX));clear hb hX x0 x1 x2 x3 x4 HRC hnl;go_wp2_with fail;go_roundw
  exact⟨k+1,by go_num,by omega,hd_ ⟨HB,HY⟩⟩
  simp [intOf];omega
 ·have hke:k=es.length:=by omega
  subst hke;have HB:=hd_ HI.1;have HNL:Hid (∀ j (hj:j<es.length),¬ zmg es[j].p):=hd_ (fun j hj=>HI.2 j hj hj);have hge:¬((es.length:Int)<(es.length:Int)):=by omega
  rename ∀ a w,Code.wp _ (Code.seq (Code.seq (Code.region 16 _ _) _) _) _ a w->_=>hk7
  have HK7:=hd_ hk7;clear hk7 HI;go_wp2_with fail;exact HK7 _ _ (rcT16W _ (by kernel_rfl) w wr A c es (HE wr HB) hl HOK HNL HS (z0r HBW HB) _ _ _ _ _ _ _ _ _ _ _ _ _ _ _ _ _ _ _ _ _ _ _ _ _ _ _ _ _ _ _ _ _ _ _ _ _ _ _ _ _ _ _ _ _ _ _ _ _ _ _ _ _ _ _ _ _ _ _ _ _ _ _ _ _ _ _ _ _ _ _ _ _ _ _ _ _ _ _ _ _ _ _ _ _ _ _ _ _ _ _)
theorem zsn (es:List zdk)(v:zV)(w:zW)(hE:zdo w v es)(hl:es.length<=32)(hS:∀ x∈es,zmr x):
  Calls prog 5 #[v] w (ChkW w es):=by
 obtain⟨A,c,rfl,-⟩:=id hE.1;have HE:=hd_ (fun X (hX:zB w X)=>hE.kw hX);have HS:=hd_ hS;clear hE hS;go_enter func5,ntmps5;go_wp2_with fail;go_loopw [20] (fun i wr=>∃ k:Nat,i=zI k/\k<=es.length/\Hid (zB w wr/\∀ j (hj:j<es.length),j<k->okE es[j].p)) (fun i _=>es.length - (intOf i).toNat)
 exact⟨0,rfl,Zg _,hd_ ⟨Zb _ _,fun j _ h=>by omega⟩⟩
 obtain⟨k,rfl,hk,HI⟩:=hrel;by_cases hlt:k<es.length
 ·have HEX:=hd_ (HE wr HI.1);obtain⟨ad,rfl,hab,s0,s1,s2,s3,s4⟩:=HEX.out.at_ hlt;have HXI:=hd_ (HEX.2 es[k] (Za hlt));have HXO:=hd_ (zmt es[k]);have HNO:Hid (¬ okE es[k].p->zmj (es.map zdk.p) 70):=hd_ (fun h=>.inl ⟨rfl,_,ZJ (Za hlt),h⟩);have HYE:Hid (okE es[k].p->∀ j (hj:j<es.length),j<k+1->okE es[j].p):=hd_ (fun h j hj hjk=>by
   by_cases e:j=k
   ·subst e;exact h
   ·exact HI.2 j hj (by omega))
  have HI:=hd_ HI.1;generalize es[k]=x at s0 s1 s2 s3 s4 HXI HXO HNO HYE;obtain⟨H,hc,hhv⟩:=HXI.out.holes;obtain⟨⟨pl,Al,cl⟩,⟨pr,Ar,cr⟩,hv,hs⟩:=x;change hv=zL H hs.length hc at hhv;subst hhv;change wr.cell? _=some (.slice Al pl.kp.length cl) at s0;change wr.cell? _=some (.bool pl.kr) at s1;change wr.cell? _=some (.slice Ar pr.kp.length cr) at s2;change wr.cell? _=some (.bool pr.kr) at s3;change wr.cell? _=some (.slice H hs.length hc) at s4;have hX:zB wr (wr.alloc (zC #[zL Al pl.kp.length cl,.bool pl.kr,zL Ar pr.kp.length cr,.bool pr.kr,zL H hs.length hc] 59)):=zR;have HX:=hd_ (z0r HI hX);have HXP:=hd_ (HXI.kw hX);have HN:Hid (Blk (wr.alloc (zC #[zL Al pl.kp.length cl,.bool pl.kr,zL Ar pr.kp.length cr,.bool pr.kr,zL H hs.length hc] 59)) wr.heap.size 59 [zL Al pl.kp.length cl,.bool pl.kr,zL Ar pr.kp.length cr,.bool pr.kr,zL H hs.length hc]):=hd_ (z0l wr _ _);clear hab hX;go_upto_region 4 with fail;generalize wr.alloc (zC #[zL Al pl.kp.length cl,.bool pl.kr,zL Ar pr.kp.length cr,.bool pr.kr,zL H hs.length hc] 59)=W4 at HX HN HXP |-;generalize wr.heap.size=g7 at HN |-;clear s0 s1 s2 s3 s4;obtain⟨x0,x1,x2,x3,x4⟩:=(⟨HN.out.cell 0,HN.out.cell 1,HN.out.cell 2,HN.out.cell 3,HN.out.cell 4⟩:W4.cell? ⟨g7,0,none⟩=some (.slice Al pl.kp.length cl)/\W4.cell? ⟨g7,1,none⟩=some (.bool pl.kr)/\W4.cell? ⟨g7,2,none⟩=some (.slice Ar pr.kp.length cr)/\W4.cell? ⟨g7,3,none⟩=some (.bool pr.kr)/\W4.cell? ⟨g7,4,none⟩=some (.slice H hs.length hc));have HLI:=hd_ (zqq Al Ar pl.kp.length pr.kp.length cl cr pl.kr pr.kr (zL H hs.length hc) W4);go_wp2_with fail;refine HLI.mono ?_;rintro e w5 ⟨rfl,hb5⟩;dsimp only;have HB5:=hd_ (z0r HX hb5);have HN5:=hd_ (HN.kw hb5 HN.lt);have hp5:=HXP.out.kw hb5;have HC5:=hd_ (zsm false pl pr Al Ar cl cr w5 hp5.l hp5.r);have HXP5:=hd_ hp5;obtain⟨re,hre⟩:∃ x,zbw pl pr=x:=⟨_,rfl⟩
  rw[hre] at HC5;have HXO2:Hid (okE (zdk.p ⟨(pl,Al,cl),(pr,Ar,cr),zL H hs.length hc,hs⟩)↔(decide (re=0) && decide (zdf pl hs=0))=true):=hd_ (by rw[<- hre];exact HXO)
  clear hre hp5 HXO;clear hb5 x0 x1 x2 x3 x4 HLI;by_cases h0:re=0
  case neg =>
   have q1:(re != 0)=true:=by simpa using h0
   have HR:=hd_ (HNO (fun h=>by have:=HXO2.out.1 h;rw[decide_eq_false h0] at this;cases this))
   clear h0;go_wp2_with fail;refine HC5.mono ?_;rintro e w6 ⟨rfl,hb6⟩;dsimp only;have HB6:=hd_ (z0r HB5 hb6);clear hb6 HC5;go_wp2_with fail;go_ret2;exact⟨_,_,rfl,HR,HB6⟩
  subst h0;go_wp2_with fail;refine HC5.mono ?_;rintro e w6 ⟨rfl,hb6⟩;dsimp only;have HB6:=hd_ (z0r HB5 hb6);have HN6:=hd_ (HN5.kw hb6 HN5.lt);have HXP6:=hd_ (HXP5.kw hb6);clear hb6 HC5;obtain⟨x0,x1,x2,x3,x4⟩:=(⟨HN6.out.cell 0,HN6.out.cell 1,HN6.out.cell 2,HN6.out.cell 3,HN6.out.cell 4⟩:w6.cell? ⟨g7,0,none⟩=some (.slice Al pl.kp.length cl)/\w6.cell? ⟨g7,1,none⟩=some (.bool pl.kr)/\w6.cell? ⟨g7,2,none⟩=some (.slice Ar pr.kp.length cr)/\w6.cell? ⟨g7,3,none⟩=some (.bool pr.kr)/\w6.cell? ⟨g7,4,none⟩=some (.slice H hs.length hc));have HLE:=hd_ (zqr Al H pl.kp.length cl hs.length hc pl.kr pr.kr (zL Ar pr.kp.length cr) w6);go_wp2_with fail;refine HLE.mono ?_;rintro e w7 ⟨rfl,hb7⟩;dsimp only;have HB7:=hd_ (z0r HB6 hb7);have hp7:=HXP6.out.kw hb7;have HC7:=hd_ (zqp pl hs Al H cl hc w7 hp7.l hp7.h (by have:=hp7.n;exact Zf this (by decide)))
  obtain⟨ge,hge⟩:∃ x,zdf pl hs=x:=⟨_,rfl⟩;rw[hge] at HC7 HXO2;clear hge hp7;clear hb7 x0 x1 x2 x3 x4 HLE;by_cases h0:ge=0
  case neg =>
   have q1:(ge != 0)=true:=by simpa using h0
   have HR:=hd_ (HNO (fun h=>by have:=HXO2.out.1 h;rw[decide_eq_false h0] at this;cases this))
   clear h0;go_wp2_with fail;refine HC7.mono ?_;rintro e w8 ⟨rfl,hb8⟩;dsimp only;have HB8:=hd_ (z0r HB7 hb8);clear hb8 HC7;go_wp2_with fail;go_ret2;exact⟨_,_,rfl,HR,HB8⟩
  subst h0;have HY:=hd_ (HYE (HXO2.2 rfl));go_wp2_with fail;refine HC7.mono ?_;rintro e w8 ⟨rfl,hb8⟩;dsimp only;have HB8:=hd_ (z0r HB7 hb8);clear hb8 HC7;go_wp2_with fail;go_roundw
  exact⟨k+1,by go_num,by omega,hd_ ⟨HB8,HY⟩⟩
  simp [intOf];omega
 ·have hke:k=es.length:=by omega
  subst hke;have HB:=hd_ HI.1;have HOK:Hid (∀ j (hj:j<es.length),okE es[j].p):=hd_ (fun j hj=>HI.2 j hj hj);have hge:¬((es.length:Int)<(es.length:Int)):=by omega
  have h32:¬((32:Int)<(es.length:Int)):=by omega
  have HEW:=hd_ (HE wr HB);clear HI;go_upto_region 7 with fail;rename ∀ a w,Code.wp _ (Code.seq (Code.seq (Code.region 9 _ _) _) _) _ a w->_=>hk7
  have HK7:=hd_ hk7;clear hk7;go_wp2_with fail;exact HK7 _ _ (rcT9W _ (by kernel_rfl) w wr A c es HEW hl HOK HS HB _ _ _ _ _ _ _ _ _ _ _ _ _ _ _ _ _ _ _ _ _ _ _ _ _ _ _ _ _ _ _ _ _ _ _ _ _ _ _ _ _ _ _ _ _ _ _ _ _ _ _ _ _ _ _ _ _ _ _ _ _ _ _ _ _ _ _ _ _ _ _ _ _ _ _ _ _ _ _ _ _ _ _ _ _ _ _ _ _ _ _)
theorem zso {D:List Rev}{f:zA->Option zA}{m:Int}:z7h (z8j D f m):=by
 unfold z8j;have:∀ qs:List zA,z71 (fun q:zA=>q) qs->z7h (qs.filterMap (z8i D f m)):=by
  intro qs;induction qs with
  | nil=>intro _;exact List.Pairwise.nil
  | cons q qs ih =>
   intro hq;rw[List.filterMap_cons];split
   ·exact ih hq.tail
   ·rename_i x hx
    refine ZP.2 ⟨fun b hb=>?_,ih hq.tail⟩;obtain⟨p,hp,e⟩:=Yf.1 hb;rw[(z8l hx).1,(z8l e).1];exact hq.head p hp
 exact this _ z8f
theorem zsp {D:List Rev}{f:zA->Option zA}{m:Int}{out:List Hav}(h:zp2 D f m D.length out):out=z8j D f m:=by
 refine z7c h.1 zso fun x=>⟨fun hx=>?_,fun hx=>?_⟩
 ·exact Yf.2 ⟨x.kt,h.2.1 x hx,h.2.2.1 x hx⟩
 ·obtain⟨p,hp,e⟩:=Yf.1 hx;obtain⟨e1,-,r,hr,e3,-⟩:=z8l e;obtain⟨j,hj,rfl⟩:=ZF hr;exact h.2.2.2 j hj hj x (by rw[e3];exact e)
theorem zsq (es:List zdk)(v:zV)(p:zA)(w:zW)(he:Env w)(hE:zdo w v es)(hl32:es.length<=32)(hz:p.size<=1000000)
  (hC:Calls prog 5 #[v] w fun e w'=>(∃ i:Int,e=.returned (.tuple #[zI i,zI 0]))/\zB w w')
  (hF:∀ x∈es,∀ X,zB w X->Calls prog 113 #[.agg #[.bool false,x.l.v,.bool x.l.1.kr,x.r.v,.bool x.r.1.kr],zS p] X (zcw X (zcv x.l.1 x.r.1 p))):
  Calls prog 29 #[v,zS p] w (zcw w (zdy es p)):=by
 obtain⟨A,c,rfl,-⟩:=id hE.1;have HC:=hd_ hC;have HB:=hd_ (fun X (hX:zB w X)=>rBy_ok es _ p X (he.kw hX) (hE.kw hX) hl32 hz (fun x hx Y hY=>hF x hx Y (z0r hX hY)));generalize zdy es p=o at HB |-;clear he hE hC hF;go_enter func29,ntmps29;go_upto_region 1 with fail;go_wp2_with fail;refine HC.mono ?_;rintro e w2 ⟨⟨ix,rfl⟩,hb⟩;dsimp only;have HB2:=hd_ hb;have HY:=hd_ (HB w2 hb);clear hb HC HB;go_wp2_with fail;refine HY.mono ?_;rintro e w3 ⟨rfl,hb⟩;dsimp only;have HB3:=hd_ (z0r HB2 hb);clear hb HY;go_wp2_with fail;go_ret2;exact⟨rfl,HB3⟩
theorem zsr (es:List zdk)(v:zV)(p:zA)(w:zW)(he:Env w)(hE:zdo w v es)(hl32:es.length<=32)(hS:∀ x∈es,zmr x)(h0:zmj (es.map zdk.p) 0)(hF:zdz es p)(hz:p.size<=1000000):
  Calls prog 29 #[v,zS p] w (zcw w (zdy es p)):=by
 refine zsq es v p w he hE hl32 hz ((zsn es v w hE hl32 hS).mono ?_) fun x hx X hX=>?_
 ·rintro e w' ⟨i,err,rfl,hm,hb⟩;rw[zmk hm h0];exact⟨⟨i,rfl⟩,hb⟩
 have hI:=(hE.2 x hx).kw hX;obtain⟨h1,h2,h3,h4⟩:=zlh ((zmz h0).ok x hx).rule;have hf:=hF x hx;obtain⟨⟨pl,Al,cl⟩,⟨pr,Ar,cr⟩,hv,hs⟩:=x;exact zqg false pl pr p Al Ar cl cr X (he.kw hX) hz hI.l hI.r h1 h2 h3 h4 hf (fun Y caps cv hY hc hfo=>zr9 pr caps Ar cr cv Y ((he.kw hX).kw hY) (hI.r.kw hY) hc hfo)
def WanO (w:zW)(D:List Rev)(es:List zdk)(m:Int)(e:Ending)(w':zW):Prop:=∃(v:zV) (err:Int) (l:List Hav),e=.returned (.tuple #[v,zI err])/\w'.ownsRow w.heap.size 84 3 v l.length (l.flatMap Hav.cells)/\zB w w'/\WanP D es m err l
theorem ztb (D:List Rev)(n:Nat)(es:List zdk)(m:Int)(dv dr mv:zV)(w:zW)(he:Env w)(hR:z3w w dv D)(hE:zdo w mv es)(hD:zoo D n)(hl:D.length<=1000)(hl32:es.length<=32)(hS:∀ x∈es,zmr x)(hF:(∀ x∈es,zbw x.l.1 x.r.1=0)->∀ p∈z8e,zdz es p):
  Calls prog 7 #[.agg #[dv,dr],mv,zI m] w (WanO w D es m):=by
 obtain⟨Ar,cr,rfl,-⟩:=id hR;have hBox:=z0l w [zL Ar D.length cr,dr] 27;have hA:zB w (w.alloc (zC #[zL Ar D.length cr,dr] 27)):=zR;have HCK:=hd_ (fun X (hX:zB w X)=>zsn es mv X (hE.kw hX) hl32 hS);have HAT:=hd_ (fun X (hX:zB w X) p=>zfr D p m (zL Ar D.length cr) dr X (hR.kw hX) (by omega))
 have HFW0:=hd_ (fun(h0:zmj (es.map zdk.p) 0) X (hX:zB w X) p (hp:p∈z8e)=>zsr es mv p X (he.kw hX) (hE.kw hX) hl32 hS h0 (hF (fun x hx=>((zmz h0).ok x hx).rule) p hp) (ze3 p hp).2);have HEV:=hd_ (fun X (hX:zB w X)=>he.kw hX);have HRV:=hd_ (fun X (hX:zB w X)=>hR.kw hX);have HDP:=hd_ hD;have HEND:=hd_ (fun out (h:zp2 D (zdy es) m D.length out)=>zsp h);have HA:=hd_ hA;have HBX:=hd_ hBox;clear he hR hE hS hD hF hA hBox;go_enter func7,ntmps7;go_upto_region 1 with fail;generalize w.alloc (zC #[zL Ar D.length cr,dr] 27)=W1 at HA HBX |-;have HC1:=hd_ (HCK W1 HA);go_wp2_with fail;refine HC1.mono ?_;rintro e w2 ⟨ix,err,rfl,hme,hb⟩;dsimp only;have HME:=hd_ hme;clear hme;have HB2:=hd_ (z0r HA hb);have HBX2:=hd_ (HBX.kw hb HBX.lt);clear hb HCK HC1;by_cases h0:err=0
 case neg =>
  have q1:(err != 0)=true:=by simpa using h0
  have HE0:=hd_ h0;clear h0;go_wp2_with fail;go_ret2;exact⟨_,_,[],rfl,Zv _ _ _ _,HB2,.inl ⟨HE0,HME,rfl⟩⟩
 subst h0;have HFW:=hd_ (HFW0 HME);clear HFW0;have d0:w2.cell? ⟨w.heap.size,0,none⟩=some (.slice Ar D.length cr):=HBX2.cell 0;go_wp2_with fail;go_loopw [10,11] (fun lv i wr=>∃(k:Nat) (out:List Hav) (A:zP) (c:Nat),lv=zL A out.length c/\i=zI k/\k<=D.length/\Hid ((∀(j:Nat) (hj:j<D.length),j<k->∀ h,z8i D (zdy es) m D[j].kt=some h->h.loc.size<=200)/\zp2 D (zdy es) m k out/\zB w2 wr/\wr.ownsRow w2.heap.size 84 3 (zL A out.length c) out.length (out.flatMap Hav.cells))) (fun _ i _=>D.length - (intOf i).toNat)
 exact⟨0,[],none,0,rfl,rfl,Zg _,hd_ ⟨fun j _ h=>by omega,refW_0 _ _ _,Zb _ _,Zv _ _ _ _⟩⟩
 obtain⟨k,out,A,c,rfl,rfl,hk,HI⟩:=hrel;clear d0;have HBD:=hd_ (HBX2.kw HI.2.2.1 HBX2.lt);have d0:wr.cell? ⟨w.heap.size,0,none⟩=some (.slice Ar D.length cr):=HBD.cell 0;have d1:wr.cell? ⟨w.heap.size,1,none⟩=some dr:=HBD.cell 1;have HBW:=hd_ (z0r HB2 HI.2.2.1);by_cases hlt:k<D.length
 ·obtain⟨ad,rfl,hab,hc⟩:=(HRV.out wr HBW.out).at_ hlt;have HNO:=hd_ (fun h=>zp3 HI.2.1 hlt h);have HPT:=hd_ (fun x h=>zp5 (x:=x) HI.2.1 hlt HDP.six h);have H6:=hd_ (HDP.six _ (Za hlt));have HJ:Hid ((∀ h,z8i D (zdy es) m D[k].kt=some h->h.loc.size<=200)->∀(j:Nat) (hj:j<D.length),j<k+1->∀ h,z8i D (zdy es) m D[j].kt=some h->h.loc.size<=200):=hd_ (fun h j hj hjk=>by
   by_cases e:j=k
   ·subst e;exact h
   ·exact HI.1 j hj (by omega))
  have HLG:Hid (∀ h,z8i D (zdy es) m D[k].kt=some h->¬ h.loc.size<=200->Long D es m):=hd_ (fun h e hh=>⟨D[k].kt,HDP.six _ (Za hlt),h,e,by omega⟩)
  generalize D[k]=r at hc HNO HPT H6 HJ HLG;obtain⟨c0,-⟩:=hc;have HT1:=hd_ (HAT wr HBW r.kt);have HWC:=hd_ (zrj (f:=zdy es) (m:=m) (p:=r.kt) HDP);have HFP:=hd_ (fun X (hX:zB w X)=>HFW X hX r.kt H6);have HLT:=hd_ hlt;generalize rAt D r.kt m=v at HT1 HWC;generalize hbo:decide (0<v.num)=bo at HT1 HWC;generalize zdy es r.kt=o at HFP HWC;clear hab hbo hlt;go_wp2_with fail;refine HT1.mono ?_;rintro e w3 ⟨rfl,hb⟩;dsimp only;have HV:=hd_ (z0l w3 [zS v.kt,zI v.num,zI v.chg,zI v.act,zI v.ty.base,.bool v.ty.k,.bool v.ty.l,.bool v.ty.x,.int .u64 v.sum,zI v.size,zS v.frm,zI v.fnum] 78);have hb4:=z0r hb ((Zb w3.heap.size w3).alloc (Zd _) (zC #[zS v.kt,zI v.num,zI v.chg,zI v.act,zI v.ty.base,.bool v.ty.k,.bool v.ty.l,.bool v.ty.x,.int .u64 v.sum,zI v.size,zS v.frm,zI v.fnum] 78));have HB4:=hd_ (z0r HBW hb4);have HL4:=hd_ (z0r HI.2.2.1 hb4);have HO4:=hd_ (z0n HI.2.2.2 hb4);have HRF:=hd_ HI.2.1;clear hb hb4 c0 d0 d1 HT1 HI;go_upto_region 10 with fail;generalize w3.alloc (zC #[zS v.kt,zI v.num,zI v.chg,zI v.act,zI v.ty.base,.bool v.ty.k,.bool v.ty.l,.bool v.ty.x,.int .u64 v.sum,zI v.size,zS v.frm,zI v.fnum] 78)=W4 at HV HB4 HL4 HO4 |-;generalize w3.heap.size=g4 at HV |-;have HFC:=hd_ (HFP W4 HB4);go_wp2_with fail;refine HFC.mono ?_;rintro e w5 ⟨rfl,hb⟩;dsimp only;have HV5:=hd_ (HV.kw hb HV.lt);have HB5:=hd_ (z0r HB4 hb);have HL5:=hd_ (z0r HL4 hb);have HO5:=hd_ (z0n HO4 hb);clear hb HFC HV;cases bo with
  | false =>
   have HN:=hd_ (Zi (HJ.out (fun h e=>by rw[HWC.out.1 rfl] at e;cases e)) (HNO.out (HWC.out.1 rfl)))
   go_wp2_with fail;go_roundw
   exact⟨k+1,out,_,_,rfl,by go_num,HLT,hd_ ⟨HN.1,HN.2,HL5,HO5⟩⟩
   have:=HLT.out;simp [intOf];omega
  | true =>
   have HW2:=hd_ (HWC.2 rfl);clear HWC;cases o with
   | none =>
    have HN:=hd_ (Zi (HJ.out (fun h e=>by rw[HW2.out.1 rfl] at e;cases e)) (HNO.out (HW2.out.1 rfl)))
    go_wp2_with fail;go_roundw
    exact⟨k+1,out,_,_,rfl,by go_num,HLT,hd_ ⟨HN.1,HN.2,HL5,HO5⟩⟩
    have:=HLT.out;simp [intOf];omega
   | some s =>
    have HGO:=hd_ (zge v w5);obtain⟨y0,y1,y2,y3,y4,y5,y6,y7,y8,y9,y10,y11⟩:=z57 HV5.out;cases hlv:z32 v.act with
    | false =>
     have HN:=hd_ (Zi (HJ.out (fun h e=>by rw[HW2.out.2.1 hlv] at e;cases e)) (HNO.out (HW2.out.2.1 hlv)))
     rw[hlv] at HGO;clear hlv;go_wp2_with fail;refine HGO.mono ?_;rintro e w6 ⟨rfl,hb⟩;dsimp only;have HL6:=hd_ (z0r HL5 hb);have HO6:=hd_ (z0n HO5 hb);clear hb y0 y1 y2 y3 y4 y5 y6 y7 y8 y9 y10 y11;go_wp2_with fail;go_roundw
     exact⟨k+1,out,_,_,rfl,by go_num,HLT,hd_ ⟨HN.1,HN.2,HL6,HO6⟩⟩
     have:=HLT.out;simp [intOf];omega
    | true =>
     have HN:=hd_ (HPT _ (HW2.2.2 s rfl hlv));have HWS:=hd_ (HW2.2.2 s rfl hlv);rw[hlv] at HGO;clear hlv;go_wp2_with fail;refine HGO.mono ?_;rintro e w6 ⟨rfl,hb⟩;dsimp only;have HV6:=hd_ (HV5.kw hb HV5.lt);have HB6:=hd_ (z0r HB5 hb);have HL6:=hd_ (z0r HL5 hb);have HO6:=hd_ (z0n HO5 hb);have HPU:Hid (Calls prog 31 #[zL A out.length c,.agg #[zS r.kt,zI v.num,zS s]] w6 (zrh w6 (zov out ⟨r.kt,v.num,s⟩))):=hd_ (zri out _ ⟨r.kt,v.num,s⟩ w6 (HEV w6 HB6) (Row.of_own HO6) (fun x hx=>ze3 _ (HRF.2.1 x hx)) (ze3 _ H6).1 (ze3 _ H6).2 (by have:=zp7 HRF.out;omega))
     have y1:=HV6.out.cell 1;clear hb y0 y2 y3 y4 y5 y6 y7 y8 y9 y10 y11;by_cases hsz:s.size<=200
     case neg =>
      have HSZ:=hd_ (HLG _ HWS hsz);have z200:(200:Int)<(s.size:Int):=by omega
      have z201:200<s.size:=by omega
      clear hsz;go_wp2_with fail;go_ret2;exact⟨_,_,[],rfl,Zv _ _ _ _,HB6,.inr (.inl ⟨HME,rfl,HSZ,rfl⟩)⟩
     have z200:¬(200<(s.size:Int)):=by omega
     have z201:¬(200<s.size):=by omega
     have HJ2:=hd_ (HJ (fun h e=>by rw[HWS.out] at e;injection e with e;rw[<- e];exact hsz))
     clear hsz;go_wp2_with fail;refine HPU.mono ?_;rintro e w7 ⟨v7,rfl,hown,hb⟩;dsimp only;obtain⟨A7,c7,rfl⟩:=z0o hown;have HL7:=hd_ (z0r HL6 hb);have HO7:=hd_ (z5a hown HL6.size);clear hb hown y1 z200 z201;go_wp2_with fail;go_roundw
     exact⟨k+1,zov out ⟨r.kt,v.num,s⟩,A7,c7,rfl,by go_num,HLT,hd_ ⟨HJ2,HN,HL7,HO7⟩⟩
     have:=HLT.out;simp [intOf];omega
 ·have hke:k=D.length:=by omega
  subst hke;have hge:¬((D.length:Int)<(D.length:Int)):=by omega
  have HB:=hd_ HBW;have HO:=hd_ (z5a HI.2.2.2 HB2.size);have HNL:Hid (¬ Long D es m):=hd_ (fun ⟨p,hp,h,e,hh⟩=>by
   obtain⟨-,-,r,hr,e3,-⟩:=z8l e;obtain⟨j,hj,rfl⟩:=ZF hr;have:=HI.out.1 j hj hj h (by rw[e3];exact e)
   omega)
  have e:=HEND.out out HI.out.2.1;subst e;go_wp2_with fail;go_ret2;exact⟨_,_,z8j D (zdy es) m,rfl,HO,HB,.inr (.inr ⟨HME,rfl,HNL,rfl⟩)⟩
theorem zss (D:List Rev)(n:Nat)(es:List zdk)(m:Int)(dv dr mv:zV)(w:zW)(he:Env w)(hR:z3w w dv D)(hE:zdo w mv es)(hD:zoo D n)(hl:D.length<=1000)(hl32:es.length<=32)(hS:∀ x∈es,zmr x)(hF:(∀ x∈es,zbw x.l.1 x.r.1=0)->∀ p∈z8e,zdz es p):
  Calls prog 7 #[.agg #[dv,dr],mv,zI m] w (WanW w D es m):=by
 refine (ztb D n es m dv dr mv w he hR hE hD hl hl32 hS hF).mono ?_;rintro e w' ⟨v,err,l,he,ho,hb,hp⟩;exact⟨v,err,l,he,Row.of_own ho,hb,hp⟩
theorem ztc (D:List Rev)(n:Nat)(es:List zdk)(m:Int)(dv dr mv:zV)(w:zW)(he:Env w)(hR:z3w w dv D)(hE:zdo w mv es)(hD:zoo D n)(hl:D.length<=1000)(hS:ze2 es):
  Calls prog 7 #[.agg #[dv,dr],mv,zI m] w (RwPost w (z8j D (zdy es) m)):=by
 refine (ztb D n es m dv dr mv w he hR hE hD hl hS.map.len (zta hE hS.map) fun _=>hS.fits).mono ?_;rintro e w' ⟨v,err,l,rfl,hv,hb,hP⟩;rcases hP with⟨a1,a2,-⟩ | ⟨a1,-,⟨p,hp,h,hw,hz⟩,-⟩ | ⟨-,rfl,-,rfl⟩
 ·exact absurd (zmk a2 (zt9 hS.map)) a1
 ·have:=hS.small p hp _ (znm hw);omega
 ·exact⟨v,rfl,hv,hb⟩
