/- A part. -/
import Derived.Test.YtlnjaagijaadmaaGreatDoorMvw28
import Derived.Test.YtlnjaagijaadmaaGreatDoorMvw32
set_option linter.unusedVariables false
set_option linter.unusedSimpArgs false
set_option maxHeartbeats 16000000
set_option maxRecDepth 100000
namespace Go.Proofs.YtlnjaagijaadmaaGreatDoor
open Go.Proofs.Tryz
open Go.RowKit
theorem zm6 (b:Pat)(hs:List PatM)(H B:zP)(hc c gn gb n:Nat)(w:zW)(hh:HolesIn w (zL H hs.length hc) hs)(hb:zbx w (zL B b.kp.length c) b)(hl:∀ q∈hs,q.1.kp.length<=12)(hp:w.cell? ⟨gn,0,none⟩=some (zI n))(hgn:gn<w.heap.size)(hg:zch w gb (zL B b.kp.length c) b.kr)(hn:hs.length<=1000):
  Calls prog 106 #[zL H hs.length hc,.func (.func 193) #[] #[.pointer (some ⟨gn,0,none⟩),.pointer (some ⟨gb,0,none⟩)]] w fun e w'=>(∃ i:Int,e=.returned (zI i)/\decide (0<=i)=zlx b (hs.map (·.1)) n)/\zB w w':=by
 have HBB:=hd_ hb;have HGG:=hd_ hg;have HL:=hd_ hl;have HH:=hd_ hh;have HP:=hd_ hp;have HNO:Hid (∀ k (hk:k<hs.length),(zhk hs[k].1 n && zlw b hs[k].1 n)=true->zlx b (hs.map (·.1)) n=true):=hd_ (fun k hk h=>List.any_eq_true.2 ⟨_,ZJ (Za hk),h⟩);have HYE:Hid ((∀ k (hk:k<hs.length),(zhk hs[k].1 n && zlw b hs[k].1 n)=false)->zlx b (hs.map (·.1)) n=false):=hd_ (fun h=>by
  unfold zlx;rw[List.any_eq_false];intro q hq;obtain⟨q',hq',rfl⟩:=ZD.1 hq;obtain⟨k,hk,rfl⟩:=ZF hq';rw[h k hk];decide)
 generalize zlx b (hs.map (·.1)) n=r at HNO HYE |-;clear hh hp hb hl hg;go_enter func106,ntmps106;go_wp2_with fail;go_loopw [8] (fun i wr=>∃ k:Nat,i=zI k/\k<=hs.length/\Hid (zB w wr/\∀ j (hj:j<hs.length),j<k->(zhk hs[j].1 n && zlw b hs[j].1 n)=false)) (fun i _=>hs.length - (intOf i).toNat)
 exact⟨0,rfl,Zg _,hd_ ⟨Zb _ _,fun j _ h=>by omega⟩⟩
 obtain⟨k,rfl,hk,HI⟩:=hrel;by_cases hlt:k<hs.length
 ·have HHX:=hd_ (HH.kw HI.1);obtain⟨ad,rfl,hab,s0,s1⟩:=HHX.out.at_ hlt;have HPK:=hd_ (HHX.2 hs[k] (Za hlt));have HLK:=hd_ (HL hs[k] (Za hlt));have HNK:=hd_ (HNO k hlt);have HJ:Hid ((zhk hs[k].1 n && zlw b hs[k].1 n)=false->∀ j (hj:j<hs.length),j<k+1->(zhk hs[j].1 n && zlw b hs[j].1 n)=false):=hd_ (fun h j hj hjk=>by
   by_cases e:j=k
   ·subst e;exact h
   ·exact HI.2 j hj (by omega))
  generalize hs[k]=q at s0 s1 HPK HNK HJ HLK;obtain⟨q,Aq,cq⟩:=q;change wr.cell? _=some (.slice Aq q.kp.length cq) at s0;change wr.cell? _=some (.bool q.kr) at s1;have HC:=hd_ (zm5 q b n Aq B cq c gn gb wr HPK (HBB.kw HI.1) HLK ((HI.1.cell (p:=⟨gn,0,none⟩) hgn).trans HP) (Zq hgn HI.1.size) (HGG.low HI.1));obtain⟨o,ho⟩:∃ o,(zhk q n && zlw b q n)=o:=⟨_,rfl⟩;rw[ho] at HC;have HO:=hd_ ho;have HLT:=hd_ hlt;clear hab ho;cases o with
  | true =>
   have HR:=hd_ (HNK HO);go_wp2_with fail;refine HC.mono ?_;rintro e w2 ⟨rfl,hb⟩;have HB:=hd_ (z0r HI.1 hb);clear hb s0 s1;go_wp2_with fail;go_ret;exact⟨⟨(k:Int),rfl,by rw[HR.out];exact decide_eq_true (by omega)⟩,HB⟩
  | false =>
   have HR:=hd_ (HJ HO);go_wp2_with fail;refine HC.mono ?_;rintro e w2 ⟨rfl,hb⟩;have HB:=hd_ (z0r HI.1 hb);clear hb s0 s1;go_wp2_with fail;go_roundw
   exact⟨k+1,by go_num,by omega,hd_ ⟨HB,HR⟩⟩
   simp [intOf];omega
 ·have hke:k=hs.length:=by omega
  subst hke;have HR:=hd_ (HYE (fun j hj=>HI.2 j hj hj));have HB:=hd_ HI.1;have hge:¬((hs.length:Int)<(hs.length:Int)):=by omega
  go_wp2_with fail;go_ret;exact⟨⟨-1,rfl,by rw[HR.out];decide⟩,HB⟩
theorem zm7 (b:Pat)(hs:List PatM)(H B:zP)(hc c gn gb n:Nat)(w:zW)(hh:HolesIn w (zL H hs.length hc) hs)(hb:zbx w (zL B b.kp.length c) b)(hl:∀ q∈hs,q.1.kp.length<=12)(hp:w.cell? ⟨gn,0,none⟩=some (zI n))(hgn:gn<w.heap.size)(hg:zch w gb (zL B b.kp.length c) b.kr)(hn:hs.length<=1000):
  Calls prog 56 #[zL H hs.length hc,.func (.func 193) #[] #[.pointer (some ⟨gn,0,none⟩),.pointer (some ⟨gb,0,none⟩)]] w fun e w'=>e=.returned (.bool (zlx b (hs.map (·.1)) n))/\zB w w':=by
 have HC:=hd_ (zm6 b hs H B hc c gn gb n w hh hb hl hp hgn hg hn);clear hh hp hb hl hg;generalize zlx b (hs.map (·.1)) n=r at HC |-;go_enter func56,ntmps56;go_wp2_with fail;refine HC.mono ?_;rintro e w2 ⟨⟨i,rfl,hi⟩,hb⟩;have HI:=hd_ hi;have HB:=hd_ hb;clear hi hb;go_wp2_with fail;go_ret;exact⟨by rw[<- HI.out];rfl,HB⟩
def cellN (v:zV)(w:zW):Nat:=match v with
 | .pointer (some a)=>(match w.cell? a with
  | some u=>(intOf u).toNat
  | none=>0)
 | _=>0
structure LlSt (w wr:zW)(gn n:Nat)(bv:zV)(br:Bool):Prop where
 low:zB w wr
 box:zch wr w.heap.size bv br
 cell:Blk wr gn 3 [zI n]
 ge:w.heap.size<gn
theorem LlSt.ku {w wr wx:zW}{gn n:Nat}{bv:zV}{br:Bool}(h:LlSt w wr gn n bv br)(hb:zB wr wx):LlSt w wx gn n bv br:=⟨z0r h.low hb,h.box.low hb,h.cell.kw hb h.cell.lt,h.ge⟩
theorem LlSt.next {w wr:zW}{gn n:Nat}{bv:zV}{br:Bool}(h:LlSt w wr gn n bv br):LlSt w (wr.alloc (zC #[zI ((n:Int)+1)] 3)) wr.heap.size (n+1) bv br:=by
 have hl:=h.low.size;have hX:zB wr (wr.alloc (zC #[zI ((n:Int)+1)] 3)):=zR;refine⟨z0r h.low hX,h.box.low hX,?_,?_⟩
 ·exact z0l wr [zI ((n:Int)+1)] 3
 ·exact Blk.lt h.box
theorem zm8 {w:zW}{a:Addr}{n:Nat}(h:w.cell? a=some (zI n)):cellN (.pointer (some a)) w=n:=by
 unfold cellN;simp only[h]
 simp [intOf]
def zm9 (b:Pat)(H:List Pat)(first last:Nat):Prop:=0<first/\(zly b H↔∀ n,first<=n->n<=last->zlx b H n=true)
theorem zma {b:Pat}{H:List Pat}(hr:b.kr=false)(h0:0<b.kp.length):zm9 b H b.kp.length b.kp.length:=by
 refine⟨h0,(void_no hr).trans ⟨fun h n h1 h2=>?_,fun h=>h _ (Zd _) (Zd _)⟩⟩;rw[show n=b.kp.length by omega];exact h
theorem zmb {b:Pat}{H:List Pat}{m:Nat}(hr:b.kr=true)(h1:b.kp.length+1<=m)(hL:∀ h∈H,h.kp.length+1<=m):zm9 b H (b.kp.length+1) m:=by
 refine⟨by omega,(zm3 (L:=m - 1) hr (by omega) (fun h hh=>by have:=hL h hh;omega)).trans ⟨fun h n h1 h2=>h n (by omega) (by omega),fun h n h1 h2=>h n (by omega) (by omega)⟩⟩
def zmc (w:zW)(b:Pat)(hs:List PatM)(e:Ending)(w':zW):Prop:=∃ k:Nat,e=.returned (zI k)/\(k=0↔zly b (hs.map (·.1)))/\zB w w'
theorem llT9 (T:Code)(hT:Tryz.f147.body.bind (tailAt 9)=some T)(b:Pat)(hs:List PatM)(H B:zP)(hc c first last:Nat)(w W:zW)(hlow:zB w W)(hbox:zch W w.heap.size (zL B b.kp.length c) b.kr)(hh:HolesIn w (zL H hs.length hc) hs)(hb:zbx w (zL B b.kp.length c) b)(hl:∀ q∈hs,q.1.kp.length<=12)(hn:hs.length<=1000)(hS:zm9 b (hs.map (·.1)) first last)(h13:last<=13)(hfl:first<=last+1)
  (u0 u3 u4 u7 u8 u9 gF gG gH gI gJ gK gL gM gN gO gP gQ gR gT gV gW gX gY gZ i6 i7 i8 ia ib ic ie ig ii ij ik il im io ip iq ir iu:zV):
  T.wp prog (bodyPost prog Tryz.f147 (zmc w b hs)) ⟨#[u0,zL H hs.length hc,.pointer (some ⟨w.heap.size,0,none⟩),u3,u4,zI first,zI last,u7,u8,u9,gF,gG,gH,gI,gJ,gK,gL,gM,gN,gO,gP,gQ,gR,gT,gV,gW,gX,gY,gZ,i6,i7,i8,ia,ib,ic,ie,ig,ii,ij,ik,il,im,io,ip,iq,ir,iu],[]⟩ W:=by
 simp only[Tryz.f147,Zp,tailAt,hasReg] at hT
 simp at hT
 subst hT;have HCF:=hd_ (fun X n gn (hX:zB w X) hp hgn hg=>zm7 b hs H B hc c gn w.heap.size n X (hh.kw hX) (hb.kw hX) hl hp hgn hg hn);have hX:zB W (W.alloc (zC #[zI first] 3)):=zR
 have HS0:Hid (LlSt w (W.alloc (zC #[zI first] 3)) W.heap.size first (zL B b.kp.length c) b.kr):=hd_ ⟨z0r hlow hX,hbox.low hX,z0l W _ _,Blk.lt hbox⟩
 have HS:=hd_ hS;clear hX hh hb hl hn hS hbox hlow;go_wp2_with fail;generalize W.alloc (zC #[zI first] 3)=W2 at HS0 |-
 generalize W.heap.size=g0 at HS0 |-;go_loopw [9] (fun p wr=>∃ gn n:Nat,p=.pointer (some ⟨gn,0,none⟩)/\first<=n/\n<=last+1/\Hid (LlSt w wr gn n (zL B b.kp.length c) b.kr/\∀ m,first<=m->m<n->zlx b (hs.map (·.1)) m=true)) (fun p wr=>last+1 - cellN p wr)
 exact⟨_,first,rfl,Zd _,hfl,hd_ ⟨HS0,fun m h1 h2=>by omega⟩⟩
 obtain⟨gn,n,rfl,hfn,hnl,HI⟩:=hrel;have n0:wr.cell? ⟨gn,0,none⟩=some (zI n):=HI.1.cell.cell 0;have HC0:=hd_ (zm8 n0);by_cases hle:n<=last
 ·have q1:decide ((n:Int)<=(last:Int))=true:=by simp;omega
  have HC:=hd_ (HCF wr n gn HI.1.low n0 HI.1.cell.lt HI.1.box);obtain⟨f,hf⟩:∃ f,zlx b (hs.map (·.1)) n=f:=⟨_,rfl⟩;rw[hf] at HC;have HF:=hd_ hf;clear hf;cases f with
  | false =>
   go_wp2_with fail;refine HC.mono ?_;rintro e w2 ⟨rfl,hb⟩;have HI2:=hd_ (HI.1.ku hb);clear n0 hb;have n0:w2.cell? ⟨gn,0,none⟩=some (zI n):=HI2.cell.cell 0;go_wp2_with fail;go_ret;exact⟨n,rfl,⟨fun h=>by have:=HS.out.1;omega,fun hv=>by have:=HS.out.2.1 hv n hfn hle;rw[HF.out] at this;cases this⟩,HI2.out.low⟩
  | true =>
   go_wp2_with fail;refine HC.mono ?_;rintro e w2 ⟨rfl,hb⟩;have HI2:=hd_ (HI.1.ku hb);clear n0 hb q1;have n0:w2.cell? ⟨gn,0,none⟩=some (zI n):=HI2.cell.cell 0;have HN:=hd_ HI2.next;have HM:=hd_ (zm8 (show _=some (zI (n+1:Nat)) from HN.out.cell.cell 0));go_wp2_with fail;go_roundw
   case rel=>exact⟨w2.heap.size,n+1,rfl,by omega,by omega,hd_ ⟨HN,fun m h1 h2=>by
    by_cases e:m=n
    ·rw[e];exact HF
    ·exact HI.2 m h1 (by omega)⟩⟩
   case measure=>rw[HM.out,HC0.out];omega
 ·have q1:decide ((n:Int)<=(last:Int))=false:=by simp;omega
  have HB:=hd_ HI.1.low;go_wp2_with fail;go_ret;exact⟨0,rfl,⟨fun _=>HS.2.2 (fun m h1 h2=>HI.2 m h1 (by omega)),fun _=>rfl⟩,HB⟩
theorem leastW (b:Pat)(hs:List PatM)(H B:zP)(hc c:Nat)(w:zW)(hh:HolesIn w (zL H hs.length hc) hs)(hb:zbx w (zL B b.kp.length c) b)(hl:∀ q∈hs,q.1.kp.length<=12)(h0:0<b.kp.length)(h12:b.kp.length<=12)(hn:hs.length<=1000):
  Calls prog 147 #[.agg #[zL B b.kp.length c,.bool b.kr],zL H hs.length hc] w (zmc w b hs):=by
 have hB:=z0l w [zL B b.kp.length c,.bool b.kr] 56;have hA:zB w (w.alloc (zC #[zL B b.kp.length c,.bool b.kr] 56)):=zR;have HT:=hd_ (fun T hT first last W h1 h2=>llT9 T hT b hs H B hc c first last w W h1 h2 hh hb hl hn)
 have HH:=hd_ hh;have HL:=hd_ hl;clear hh hb hl;go_enter func147,ntmps147;go_upto_region 1 with fail;generalize w.alloc (zC #[zL B b.kp.length c,.bool b.kr] 56)=W1 at hB hA |-;have HB:=hd_ (show zch W1 w.heap.size (zL B b.kp.length c) b.kr from hB);have HA:=hd_ hA;clear hB hA;have d0:=HB.out.c0;have d1:=HB.out.c1;have HDN:=hd_ (fun n=>z48 W1 n);go_quiet (fail)
 go_upto_region 2 with fail;rename ∀ a w,Code.wp _ (Code.seq (Code.seq (Code.region 9 _ _) _) _) _ a w->_=>hk7
 have HK7:=hd_ hk7;clear hk7;cases hbr:b.kr with
 | false =>
  rw[hbr] at d1;have HS:=hd_ (zma (H:=hs.map (·.1)) hbr h0);go_wp2_with fail;exact HK7 _ _ (HT _ (by kernel_rfl) b.kp.length b.kp.length _ (z0r HA (HDN _)) (HB.low (HDN _)) HS (by omega) (by omega) _ _ _ _ _ _ _ _ _ _ _ _ _ _ _ _ _ _ _ _ _ _ _ _ _ _ _ _ _ _ _ _ _ _ _ _ _ _ _ _ _ _ _)
 | true =>
  rw[hbr] at d1;have HR:=hd_ hbr;clear hbr;go_upto_region 4 with fail;generalize hW2:World.drewN W1 _=W2;have HA2:Hid (zB w W2):=hd_ (by rw[<- hW2];exact z0r HA (HDN _))
  have HB2:Hid (zch W2 w.heap.size (zL B b.kp.length c) b.kr):=hd_ (by rw[<- hW2];exact HB.low (HDN _))
  clear hW2 d0 d1 HDN HA HB;go_wp2_with fail;go_loopw [6,24] (fun m i wr=>∃(M k:Nat),m=zI M/\i=zI k/\k<=hs.length/\b.kp.length+1<=M/\M<=13/\Hid (zB W2 wr/\∀ j (hj:j<hs.length),j<k->hs[j].1.kp.length+1<=M)) (fun _ i _=>hs.length - (intOf i).toNat)
  exact⟨b.kp.length+1,0,by go_num,rfl,Zg _,Zd _,by omega,hd_ ⟨Zb _ _,fun j _ h=>by omega⟩⟩
  obtain⟨M,k,rfl,rfl,hk,hM1,hM2,HI⟩:=hrel;by_cases hlt:k<hs.length
  ·have HHX:=hd_ (HH.kw (z0r HA2 HI.1));obtain⟨ad,rfl,hab,s0,s1⟩:=HHX.out.at_ hlt;have hq12:=HL.out hs[k] (Za hlt);have HJ:Hid (∀ M',M<=M'->hs[k].1.kp.length+1<=M'->∀ j (hj:j<hs.length),j<k+1->hs[j].1.kp.length+1<=M'):=hd_ (fun M' h1 h2 j hj hjk=>by
    by_cases e:j=k
    ·subst e;exact h2
    ·have:=HI.out.2 j hj (by omega);omega)
   generalize hs[k]=q at s0 s1 HJ hq12;obtain⟨q,Aq,cq⟩:=q;change wr.cell? _=some (.slice Aq q.kp.length cq) at s0;change wr.cell? _=some (.bool q.kr) at s1;have hq12:q.kp.length<=12:=hq12;have HJ:Hid (∀ M',M<=M'->q.kp.length+1<=M'->∀ j (hj:j<hs.length),j<k+1->hs[j].1.kp.length+1<=M'):=HJ;have hX:zB wr (wr.alloc (zC #[zL Aq q.kp.length cq,.bool q.kr] 56)):=zR;have HBX:=hd_ (z0r HI.1 hX);have HLT:=hd_ hlt;clear hab hX;go_wp2_with fail;go_roundw
   exact⟨max M (q.kp.length+1),k+1,by congr 1;omega,by go_num,by omega,by omega,by omega,hd_ ⟨HBX,HJ _ (by omega) (by omega)⟩⟩
   simp [intOf];omega
  ·have hke:k=hs.length:=by omega
   have HS:=hd_ (zmb (H:=hs.map (·.1)) (m:=M) HR hM1 (fun h hh=>by
    obtain⟨q,hq,rfl⟩:=ZD.1 hh;obtain⟨j,hj,rfl⟩:=ZF hq;exact HI.2 j hj (by omega)))
   subst hke;have hge:¬((hs.length:Int)<(hs.length:Int)):=by omega
   go_wp2_with fail;exact HK7 _ _ (HT _ (by kernel_rfl) (b.kp.length+1) M _ (z0r HA2 HI.1) (HB2.low HI.1) HS (by omega) (by omega) _ _ _ _ _ _ _ _ _ _ _ _ _ _ _ _ _ _ _ _ _ _ _ _ _ _ _ _ _ _ _ _ _ _ _ _ _ _ _ _ _ _ _)
theorem voidW (b:Pat)(hs:List PatM)(H B:zP)(hc c:Nat)(w:zW)(hh:HolesIn w (zL H hs.length hc) hs)(hb:zbx w (zL B b.kp.length c) b)(hl:∀ q∈hs,q.1.kp.length<=12)(h0:0<b.kp.length)(h12:b.kp.length<=12)(hn:hs.length<=1000):
  Calls prog 98 #[.agg #[zL B b.kp.length c,.bool b.kr],zL H hs.length hc] w fun e w'=>∃ r:Bool,e=.returned (.bool r)/\(r=true↔zly b (hs.map (·.1)))/\zB w w':=by
 have hB:=z0l w [zL B b.kp.length c,.bool b.kr] 56;have hA:zB w (w.alloc (zC #[zL B b.kp.length c,.bool b.kr] 56)):=zR;have HL:=hd_ (leastW b hs H B hc c _ (hh.kw hA) (hb.kw hA) hl h0 h12 hn);go_enter func98,ntmps98;go_upto_region 1 with fail;generalize w.alloc (zC #[zL B b.kp.length c,.bool b.kr] 56)=W1 at hB hA HL |-;have d0:W1.cell? ⟨w.heap.size,0,none⟩=some (.slice B b.kp.length c):=hB.cell 0;have d1:W1.cell? ⟨w.heap.size,1,none⟩=some (.bool b.kr):=hB.cell 1;have HA:=hd_ hA;clear hB hA hh hb;go_wp2_with fail;refine HL.mono ?_;rintro e w2 ⟨k,rfl,hk,hb⟩;have HK:=hd_ hk;have HB:=hd_ (z0r HA hb);clear hk hb d0 d1;go_wp2_with fail;go_ret;refine⟨((k:Int) == 0),rfl,?_,HB⟩;rw[beq_iff_eq,<- HK.out];omega
def ComW (w:zW)(p:Pat)(hs:List Pat)(q:Pat)(ks:List Pat)(e:Ending)(w':zW):Prop:=∃ r:Bool,e=.returned (.bool r)/\(r=true↔zmh p hs q ks)/\zB w w'
theorem zmn {w:zW}{hs ks:List PatM}{v:zV}(h:Row w 2 v (hs.length+ks.length) ((hs++ks).flatMap PatM.cells))(h1:∀ q∈hs,zbx w q.v q.1)(h2:∀ q∈ks,zbx w q.v q.1):∃(gs:List PatM) (C:zP) (c:Nat),v=zL C gs.length c/\gs=hs++ks/\HolesIn w v gs:=by
 have h0:Row w 2 v (hs++ks).length ((hs++ks).flatMap PatM.cells):=by rw[Zc];exact h
 obtain⟨C,c,e,-⟩:=id h0;exact⟨_,C,c,e,rfl,h0,fun q hq=>(Zy.1 hq).elim (h1 q) (h2 q)⟩
theorem zmo (p q:Pat)(hs ks:List PatM)(A B H K:zP)(a b hc kc:Nat)(w:zW)(hp:zbx w (zL A p.kp.length a) p)(hq:zbx w (zL B q.kp.length b) q)(hh:HolesIn w (zL H hs.length hc) hs)(hk:HolesIn w (zL K ks.length kc) ks)(hl:∀ x∈hs,x.1.kp.length<=12)(hl2:∀ x∈ks,x.1.kp.length<=12)(hn:hs.length<=400)(hn2:ks.length<=400):
  Calls prog 48 #[.agg #[zL A p.kp.length a,.bool p.kr,zL H hs.length hc],.agg #[zL B q.kp.length b,.bool q.kr,zL K ks.length kc]] w (ComW w p (hs.map (·.1)) q (ks.map (·.1))):=by
 obtain⟨W1,hW1⟩:∃ W,W=(w.alloc (zC #[zL A p.kp.length a,.bool p.kr,zL H hs.length hc] 66)).alloc (zC #[zL B q.kp.length b,.bool q.kr,zL K ks.length kc] 66):=⟨_,rfl⟩;have hA:zB w W1:=by rw[hW1];exact (zR).alloc (by simp) _
 have h2:Blk W1 w.heap.size 66 [zL A p.kp.length a,.bool p.kr,zL H hs.length hc]:=by rw[hW1];exact (z0l w _ _).alloc _
 have h3:Blk W1 (w.heap.size+1) 66 [zL B q.kp.length b,.bool q.kr,zL K ks.length kc]:=by
  rw[hW1];have:=z0l (w.alloc (zC #[zL A p.kp.length a,.bool p.kr,zL H hs.length hc] 66)) [zL B q.kp.length b,.bool q.kr,zL K ks.length kc] 66;simp only[Zl] at this
  exact this
 have HME:=hd_ (zck p q A B a b W1 (hp.kw hA) (hq.kw hA));have HCC:=hd_ (fun g X (hX:zB w X) hB=>zmf hs ks (zL H hs.length hc) (zL K ks.length kc) g X hB (Row.kw hh.1 hX) (Row.kw hk.1 hX) (by omega) (by omega))
 have HHK:=hd_ (Zi hh.2 hk.2);have HL:Hid (∀ x∈hs++ks,x.1.kp.length<=12):=hd_ (fun x hx=>(Zy.1 hx).elim (hl x) (hl2 x));have HA:=hd_ hA;have HW1:=hd_ hW1;have HN:Hid ((hs++ks).length<=1000):=hd_ (by rw[Zc];omega)
 have HB2:=hd_ h2;have HB3:=hd_ h3;obtain⟨x0,x1⟩:=(⟨h2.cell 0,h2.cell 1⟩:W1.cell? ⟨w.heap.size,0,none⟩=some (.slice A p.kp.length a)/\W1.cell? ⟨w.heap.size,1,none⟩=some (.bool p.kr));obtain⟨y0,y1⟩:=(⟨h3.cell 0,h3.cell 1⟩:W1.cell? ⟨w.heap.size+1,0,none⟩=some (.slice B q.kp.length b)/\W1.cell? ⟨w.heap.size+1,1,none⟩=some (.bool q.kr));clear hp hq hA hW1 h2 h3 hh hk hl hl2;go_enter func48,ntmps48;go_upto_region 1 with fail;rw[<- HW1.out];go_wp2_with fail;refine HME.mono ?_;rintro e w4 ⟨hb,⟨hm,rfl⟩ | ⟨m,A6,c6,hmm,rfl,hfr,hpm⟩⟩
 ·have HM:=hd_ hm;have HB:=hd_ (z0r HA hb);have hX:zB w4 (w4.alloc (zC #[zL none 0 0,.bool false] 56)):=zR;have HB5:=hd_ (z0r HB hX);clear x0 x1 y0 y1 hb hX hm;go_upto_region 2 with fail;generalize w4.alloc (zC #[zL none 0 0,.bool false] 56)=W5 at HB5 |-;go_quiet (fail)
  go_wp2_with fail;go_ret;exact⟨false,rfl,⟨fun e=>(by cases e),fun ⟨m,e,_⟩=>(by rw[HM.out] at e;cases e)⟩,HB5.out.trans ((z48 W5 _).mono HB5.out.size)⟩
 ·have HM:=hd_ hmm;have HB:=hd_ (z0r HA hb);have hX:zB w4 (w4.alloc (zC #[zL A6 m.kp.length c6,.bool m.kr] 56)):=zR;have HB5:=hd_ (z0r HB hX);have HP5:=hd_ (hpm.kw hX);have H5:=hd_ (z0l w4 [zL A6 m.kp.length c6,.bool m.kr] 56);have HX2:=hd_ ((HB2.kw hb HB2.lt).kw hX (HB2.kw hb HB2.lt).lt);have HX3:=hd_ ((HB3.kw hb HB3.lt).kw hX (HB3.kw hb HB3.lt).lt);clear x0 x1 y0 y1 hb hX hmm hfr hpm HME;go_upto_region 2 with fail;generalize w4.alloc (zC #[zL A6 m.kp.length c6,.bool m.kr] 56)=W5 at HB5 HP5 H5 HX2 HX3 |-;generalize w4.heap.size=g5 at H5 |-;have m0:W5.cell? ⟨g5,0,none⟩=some (.slice A6 m.kp.length c6):=H5.cell 0;have m1:W5.cell? ⟨g5,1,none⟩=some (.bool m.kr):=H5.cell 1;have x2:W5.cell? ⟨w.heap.size,2,none⟩=some (.slice H hs.length hc):=HX2.cell 2;have y2:W5.cell? ⟨w.heap.size+1,2,none⟩=some (.slice K ks.length kc):=HX3.cell 2;have hXD:zB W5 (W5.alloc (zC #[zL H hs.length hc,zL K ks.length kc] 57)).drew:=(zR).drew;have HC6:=hd_ (HCC W5.heap.size _ (z0r HB5 hXD) (Blk.drew' (z0l W5 _ _)));have HXD:=hd_ hXD;have hXA:zB W5 (W5.alloc (zC #[zL H hs.length hc,zL K ks.length kc] 57)):=zR;have m2:(W5.alloc (zC #[zL H hs.length hc,zL K ks.length kc] 57)).cell? ⟨g5,0,none⟩=some (.slice A6 m.kp.length c6):=(H5.kw hXA H5.lt).cell 0;have m3:(W5.alloc (zC #[zL H hs.length hc,zL K ks.length kc] 57)).cell? ⟨g5,1,none⟩=some (.bool m.kr):=(H5.kw hXA H5.lt).cell 1;have HM12:Hid (0<m.kp.length/\m.kp.length<=12):=hd_ ⟨(zid.1 (zie HM)).pos,(zid.1 (zie HM)).len⟩;clear hXD hXA HCC;refine wp_region_noPanic ?_;go_region_law (first
   | (go_simp;go_at_call 99;refine HC6.mono ?_;rintro e w6 ⟨v',rfl,hb6,hown6⟩;have HS6:=hd_ (z0r HXD hb6);obtain⟨gs,C,c,rfl,hgs,hH6⟩:=zmn (Row.of_own hown6) (fun x hx=>(HHK.out.1 x hx).kw (z0r HB5.out HS6.out)) (fun x hx=>(HHK.out.2 x hx).kw (z0r HB5.out HS6.out));have HV:=hd_ (fun X (hX:zB w6 X)=>voidW m gs C A6 c c6 X (hH6.kw hX) ((HP5.kw HS6).kw hX) (by rw[hgs];exact HL) HM12.1 HM12.2 (by rw[hgs];exact HN));have HGS:=hd_ hgs;have n0:w6.cell? ⟨g5,0,none⟩=some (.slice A6 m.kp.length c6):=(H5.kw HS6 H5.lt).cell 0;have n1:w6.cell? ⟨g5,1,none⟩=some (.bool m.kr):=(H5.kw HS6 H5.lt).cell 1;clear hown6 hH6 hgs)
   | (go_simp;go_at_call 98;refine (HV _ (by repeat (first | exact Zb _ _ | refine Below.drew ?_))).mono ?_;rintro e w7 ⟨r,rfl,hr,hb7⟩;have HR:=hd_ hr;have HB7:=hd_ hb7;clear hr hb7))
  all_goals
   refine NoPanic.normal ?_;have hk:=‹∀(a:Act) (w:zW),Code.wp _ _ _ a w->_›;refine hk _ _ ?_;clear hk;go_wp2_with fail;go_ret;refine⟨!r,rfl,?_,(HB5.trans (HS6.mono HB5.size)).trans (HB7.mono (z0r HB5 HS6).size)⟩;have e:gs.map (·.1)=hs.map (·.1)++ks.map (·.1):=by rw[HGS.out,Zs]
   have hr:=HR.out;rw[e] at hr;constructor
   ·intro h;refine⟨m,HM,fun hv=>?_⟩;rw[hr.2 hv] at h;cases h
   ·rintro⟨m',e1,e2⟩;rw[HM.out] at e1;injection e1 with e1
    subst e1;cases r with
    | true=>exact absurd (hr.1 rfl) e2
    | false=>rfl
open Go.Sort (grow)
def zrh (w:zW)(l:List Hav)(e:Ending)(w':zW):Prop:=∃ v,e=.returned v/\w'.ownsRow w.heap.size 84 3 v l.length (l.flatMap Hav.cells)/\zB w w'
theorem zri (l:List Hav)(v:zV)(h:Hav)(w:zW)(he:Env w)(hH:z5s w v l)(hv:∀ x∈l,z2y x.kt=true/\x.kt.size<=1000000)(hp:z2y h.kt=true)(hz:h.kt.size<=1000000)(hl:l.length<=1000000):
  Calls prog 31 #[v,.agg #[zS h.kt,zI h.num,zS h.loc]] w (zrh w (zov l h)):=by
 obtain⟨A,c,rfl,-⟩:=id hH;have hA:zB w (w.alloc (zC #[zS h.kt,zI h.num,zS h.loc] 84)):=zR;have hB:=z0l w [zS h.kt,zI h.num,zS h.loc] 84;have HF:=hd_ (zp8 l _ h.kt _ (he.kw hA) (hH.ku hA) hv hp hz (by omega))
 have HH:=hd_ hH;have HB:=hd_ hB;have HA:=hd_ hA;obtain⟨hle,hlt⟩:=zow l h.kt;have HPUT:Hid (zov l h=l.take (zou l h.kt).1++h :: l.drop ((zou l h.kt).1+if (zou l h.kt).2 then 1 else 0)):=hd_ rfl;obtain⟨i,hi⟩:∃ i,(zou l h.kt).1=i:=⟨_,rfl⟩;obtain⟨b,hb⟩:∃ b,(zou l h.kt).2=b:=⟨_,rfl⟩;rw[hi,hb] at HF HPUT;rw[hi] at hle hlt;rw[hb] at hlt;have HLT:=hd_ hlt;clear hA he hH hv hp hz hi hb hlt;obtain⟨f0,-,-⟩:=z5h (x:=h) hB;clear hB;go_enter func31,ntmps31;go_upto_region 2 with fail;refine HF.mono ?_;rintro e w2 ⟨rfl,hb2⟩;have HB2:=hd_ (HB.kw hb2 HB.lt);have HA2:=hd_ (z0r HA hb2);clear hb2 f0 HF;go_upto_region 2 with fail;refine puR2 _ (by kernel_rfl) _ w2 A c w.heap.size i l h (HH.ku HA2) HB2 hle (by omega) ?_
 intro en eo et eu ew eA eB A' c' w3 HO;have HB3:=hd_ (z0r HA2 HO.1);have hown:w3.ownsRow w.heap.size 84 3 (zL A' (i+1) c') (i+1) ((l.take i++[h]).flatMap Hav.cells):=z5a HO.2 HA2.size;have HOWN:=hd_ hown;have hbs:=HB3.out.size;have HFIN:Hid (∀(b':Nat) (v:zV) (n:Nat) (w':zW),n=(i+1)+(l.length - b')->b'<=l.length->b'=i+(if b=true then 1 else 0)->w'.ownsRow w.heap.size 84 3 v n ((l.take i++[h]).flatMap Hav.cells++(l.drop b').flatMap Hav.cells)->w'.ownsRow w.heap.size 84 3 v (zov l h).length ((zov l h).flatMap Hav.cells)):=hd_ fun b' v n w' hn hb' hbe ho=>by
  rw[hbe] at ho;have e1:zov l h=(l.take i++[h])++l.drop (i+if b=true then 1 else 0):=by rw[HPUT.out];simp
  rw[e1,ZI];have e2:((l.take i++[h])++l.drop (i+if b=true then 1 else 0)).length=n:=by
   rw[hn,hbe] at *;simp only[Zc,ZK,ZL,Zu]
   omega
  rw[e2];exact ho
 clear HO hown;cases b
 ·obtain⟨Af,cf,hsl,hrw⟩:=zpa (P:=prog) (w:=w3) underlying28 ziy (HH.out.ku HB3.out) hle;have HR:Hid (Row w3 3 (zL Af (l.length - i) cf) (l.length - i) ((l.drop i).flatMap Hav.cells)):=hd_ (by rw[<- zpd];exact hrw w3 (HH.ku HB3))
  clear hrw;have hol:=HOWN.out;have HDO:Hid (∀ v∈(l.drop i).flatMap Hav.cells,v.oneCell'=true):=hd_ (zpb _);go_upto_region 5 with fail;go_wp2_with (at_builtin;refine z0j (base:=w.heap.size) rfl rfl z6g HOWN rfl HR rfl HDO (by omega) (by unfold maxLen;omega) hbs ?_;intro A6 c6 w6 hO6 hG6 hw6)
  have hX6:zB w w6:=HB3.grown hG6 hbs (fun k e=>(HOWN.lt k e).1);go_ret;exact⟨_,rfl,HFIN i _ _ _ rfl hle (by simp) hO6,hX6⟩
 ·have hlt:=HLT.out rfl;have hw1:IntKind.i64.wrap ((i:Int)+1)=((i+1:Nat):Int):=by rw[IntKind.wrap_i64];omega
  obtain⟨Af,cf,hsl,hrw⟩:=zpa (P:=prog) (w:=w3) underlying28 ziy (HH.out.ku HB3.out) (show i+1<=l.length from hlt);have hsl2:∀ X,(Instr.sliceAt 28 (zL A l.length c) (some (zI ((i:Int)+1))) none none).run prog X=.ok (zL Af (l.length - (i+1)) cf) X:=fun X=>hsl X;have hw2:IntKind.i64.wrap ((i:Int)+1)=(i:Int)+1:=by rw[IntKind.wrap_i64];omega
  clear hw1 hsl;have HR:Hid (Row w3 3 (zL Af (l.length - (i+1)) cf) (l.length - (i+1)) ((l.drop (i+1)).flatMap Hav.cells)):=hd_ (by rw[<- zpd];exact hrw w3 (HH.ku HB3))
  clear hrw;have HDO:Hid (∀ v∈(l.drop (i+1)).flatMap Hav.cells,v.oneCell'=true):=hd_ (zpb _);go_upto_region 5 with fail;go_wp2_with (at_builtin;refine z0j (base:=w.heap.size) rfl rfl z6g HOWN rfl HR rfl HDO (by omega) (by unfold maxLen;omega) hbs ?_;intro A6 c6 w6 hO6 hG6 hw6)
  have hX6:zB w w6:=HB3.grown hG6 hbs (fun k e=>(HOWN.lt k e).1);go_ret;exact⟨_,rfl,HFIN (i+1) _ _ _ rfl hlt (by simp) hO6,hX6⟩
theorem zrp {w wr:zW}{U g gw m:Nat}{D:List Rev}{dv dr cv:zV}{l:List Cnk}(h:WsB w wr U g gw m D dv dr cv l)(hl:l.length<=50000)(hm:m<=79000)(hD:D.length<=1000)(num:Int):
  Calls prog 36 #[.pointer (some ⟨gw,0,none⟩),.pointer (some ⟨g,0,none⟩),zI num] wr (ChPost w wr U g gw (m+70) D dv dr cv l.length num):=by
 obtain⟨Ar,cr,rfl,-⟩:=id h.revs;obtain⟨W2,hW2⟩:∃ W,W=(wr.alloc (zC #[zI 0,zS ⟨#[]⟩,zS ⟨#[]⟩,zL none 0 0,zL none 0 0] 93)).alloc (zC #[zI num,zS ⟨#[]⟩,zS ⟨#[]⟩,zL none 0 0,zL none 0 0] 93):=⟨_,rfl⟩;have hb2:zB wr W2:=by rw[hW2];exact (zR).alloc (by simp) _
 have hs2:W2.heap.size=wr.heap.size+1+1:=by rw[hW2];simp
 have h6:Blk W2 wr.heap.size 93 [zI 0,zS ⟨#[]⟩,zS ⟨#[]⟩,zL none 0 0,zL none 0 0]:=by rw[hW2];exact (z0l wr _ _).alloc _
 have h7:Blk W2 (wr.heap.size+1) 93 [zI num,zS ⟨#[]⟩,zS ⟨#[]⟩,zL none 0 0,zL none 0 0]:=by
  rw[hW2];have:=z0l (wr.alloc (zC #[zI 0,zS ⟨#[]⟩,zS ⟨#[]⟩,zL none 0 0,zL none 0 0] 93)) [zI num,zS ⟨#[]⟩,zS ⟨#[]⟩,zL none 0 0,zL none 0 0] 93;simp only[Zl] at this
  exact this
 have hb3:zB W2 (W2.alloc (.cells (z8e.map Value.string).toArray 9)):=zR;have HST:Hid (zl1 w wr (W2.alloc (.cells (z8e.map Value.string).toArray 9)) U g gw m D (zL Ar D.length cr) dr cv cv l wr.heap.size (wr.heap.size+1) (wr.heap.size+1+1) (wr.heap.size+1+1+1) num [] (zL none 0 0)):=hd_ (by
  have hbx:=z0r hb2 hb3;refine⟨h.ku hbx,Frm.of_kept (z49.kw hbx),h6.kw hb3 h6.lt,h7.kw hb3 h7.lt,?_,Zv _ _ _ _,⟨Zd _,by omega,by omega,by omega,by simp [hs2]⟩,h.kept.size,h.box.lt,fun x hx=>(h.far x hx).2.1⟩
  have:=z0l W2 (z8e.map Value.string) 9;rw[hs2] at this;exact this)
 have HW:=hd_ hW2;have HPA:=hd_ (ziu W2);have HL:Hid (∀(p:zA) X,z3w X (zL Ar D.length cr) D->Calls prog 79 #[.agg #[zL Ar D.length cr,dr],zS p] X fun e w'=>e=.returned (.tuple #[.bool (zgi D p),zI (zf8 (zfc D p)).num])/\zB X w'):=hd_ fun p X hX=>zgk D p _ dr X hX (by omega)
 have HLA:Hid (∀(p:zA) X,z3w X (zL Ar D.length cr) D->Calls prog 80 #[.agg #[zL Ar D.length cr,dr],zS p] X (zfk X (zfc D p))):=hd_ fun p X hX=>zfl D p _ dr X hX (by omega)
 clear h hW2 hb2 h6 h7 hb3;rw[hs2] at HPA;go_enter func36,ntmps36;go_upto_region 2 with fail;rw[<- HW.out];go_wp2_with fail;refine HPA.mono ?_;rintro e w3 ⟨rfl,rfl⟩;dsimp only;clear HPA HW hs2;go_upto_region 3 with fail;generalize W2.alloc (.cells (z8e.map Value.string).toArray 9)=W3 at HST |-;have hB:Hid (True):=hd_ trivial;generalize wr.heap.size+1+1+1=B at HST;generalize wr.heap.size+1+1=gp at HST |-;generalize wr.heap.size+1=g7 at HST |-;generalize hg6:wr.heap.size=g6 at HST |-;have HX:=hd_ (z4e U g m 3 W3 HST.ws.tape (by omega) (by omega))
 go_wp2_with fail;refine HX.mono ?_;rintro e w4 ⟨k,rfl,hk,hT,hK⟩;dsimp only;have HS4:=hd_ (HST.next hK hT);obtain⟨b,q0⟩:∃ b,(k == 0)=b:=⟨_,rfl⟩;clear hk hT hK HX HST hB;go_upto_if 28 with fail
 clear q0;go_cut [9,10] (fun f t wx=>∃ a c:Int,f=zI a/\t=zI c/\Hid ((a=-1/\c=-1\/(0<=a/\a<6)/\0<=c/\c<6)/\∃ m',m'<=m+3/\zl1 w wr wx U g gw m' D (zL Ar D.length cr) dr cv cv l g6 g7 gp B num [] (zL none 0 0)))
 case first =>
  cases b with
  | false =>
   go_wp2_with fail;go_meet
   exact⟨-1,-1,rfl,rfl,hd_ ⟨.inl ⟨rfl,rfl⟩,m+1,by omega,HS4⟩⟩
  | true =>
   have HX:=hd_ (z4e U g (m+1) 6 w4 HS4.ws.tape (by omega) (by omega))
   go_wp2_with fail;refine HX.mono ?_;rintro e w5 ⟨a,rfl,ha,hT,hK⟩;dsimp only;obtain⟨ja,rfl⟩:∃ j:Nat,a=j:=⟨a.toNat,by have:=ha.1;omega⟩
   have ja6:ja<6:=by have:=ha.2.1 (by omega);omega
   have HS5:=hd_ (HS4.next hK hT);have HX2:=hd_ (z4e U g (m+1+1) 6 w5 HS5.ws.tape (by omega) (by omega))
   clear ha hT hK HX HS4;go_wp2_with fail;refine HX2.mono ?_;rintro e w6 ⟨c,rfl,hc,hT,hK⟩;dsimp only;obtain⟨jc,rfl⟩:∃ j:Nat,c=j:=⟨c.toNat,by have:=hc.1;omega⟩
   have jc6:jc<6:=by have:=hc.2.1 (by omega);omega
   have HS6:=hd_ (HS5.next hK hT);clear hc hT hK HX2 HS5;have fs:w6.cell? ⟨gp,ja,none⟩=some (zS (z8e[ja]'(show ja<z8e.length from ja6))):=(HS6.out.bp.cell ja).trans (by rw[ZA,Ze (show ja<z8e.length from ja6)];rfl)
   have fc:=HL.out (z8e[ja]'(show ja<z8e.length from ja6));generalize z8e[ja]'(show ja<z8e.length from ja6)=p at fs fc;generalize zgi D p=fb at fc;generalize (zf8 (zfc D p)).num=fn at fc;have cL:∀ d os,Calls prog 79 #[.agg #[zL Ar D.length cr,dr],zS p] (grow (redrawn w6 d) os) fun e w''=>e=.returned (.tuple #[.bool fb,zI fn])/\∃ p:Regrown,w''=grow (redrawn w6 p.d) p.os:=fun d os=>Calls.regrown_of (fc _ (HS6.ws.revs.kw (below_regrown w6 d os)));have x0:=cell_regrown (show w6.cell? ⟨gw,0,none⟩=some (.slice Ar D.length cr) from HS6.out.ws.box.cell 0);have x1:=cell_regrown (show w6.cell? ⟨gw,1,none⟩=some dr from HS6.out.ws.box.cell 1);have x2:=cell_regrown fs;have qz:(ja:Int)<6:=by omega
   clear fs fc;go_upto_region 6 with fail;refine wp_region_quiet_below (by kernel_rfl) (by kernel_rfl) ?_
   repeat (first | go_big_quiet_step (exact cL _ _) | quiet_step (exact cL _ _))
   refine wpQuiet_nil ?_;intro _ hw9;obtain⟨⟨dq,osq⟩,hw9⟩:=hw9;subst hw9;have HS7:=hd_ (HS6.ku (below_regrown w6 dq osq));clear cL x0 x1 x2 qz;generalize grow (redrawn w6 dq) osq=w7 at HS7 |-;have ts:w7.cell? ⟨gp,jc,none⟩=some (zS (z8e[jc]'(show jc<z8e.length from jc6))):=(HS7.out.bp.cell jc).trans (by rw[ZA,Ze (show jc<z8e.length from jc6)];rfl)
   have tc:=HL.out (z8e[jc]'(show jc<z8e.length from jc6));generalize z8e[jc]'(show jc<z8e.length from jc6)=p at ts tc;generalize zgi D p=tb at tc;generalize (zf8 (zfc D p)).num=tn at tc;have cL:∀ d os,Calls prog 79 #[.agg #[zL Ar D.length cr,dr],zS p] (grow (redrawn w7 d) os) fun e w''=>e=.returned (.tuple #[.bool tb,zI tn])/\∃ p:Regrown,w''=grow (redrawn w7 p.d) p.os:=fun d os=>Calls.regrown_of (tc _ (HS7.ws.revs.kw (below_regrown w7 d os)));have x0:=cell_regrown (show w7.cell? ⟨gw,0,none⟩=some (.slice Ar D.length cr) from HS7.out.ws.box.cell 0);have x1:=cell_regrown (show w7.cell? ⟨gw,1,none⟩=some dr from HS7.out.ws.box.cell 1);have x2:=cell_regrown ts;have qz:(jc:Int)<6:=by omega
   clear ts tc;go_upto_region 7 with fail;refine wp_region_quiet_below (by kernel_rfl) (by kernel_rfl) ?_
   repeat (first | go_big_quiet_step (exact cL _ _) | quiet_step (exact cL _ _))
   refine wpQuiet_nil ?_;intro _ hw9;obtain⟨⟨dq,osq⟩,hw9⟩:=hw9;subst hw9;have HS8:=hd_ (HS7.ku (below_regrown w7 dq osq));clear cL x0 x1 x2 qz;generalize grow (redrawn w7 dq) osq=w8 at HS8 |-;cases fb <;> cases tb
   all_goals
    go_wp2_with fail;go_meet
    first
     | exact⟨-1,-1,rfl,rfl,hd_ ⟨.inl ⟨rfl,rfl⟩,m+1+1+1,by omega,HS8⟩⟩
     | exact⟨ja,jc,rfl,rfl,hd_ ⟨.inr ⟨⟨by omega,by omega⟩,by omega,by omega⟩,m+1+1+1,by omega,HS8⟩⟩
 case rest =>
  obtain⟨a,c,rfl,rfl,HX⟩:=hcut;obtain⟨hac,m',hm',hS⟩:=HX.out;have HT:=hd_ (fun(T:Code) hT=>chT10 T hT (m:=m+3) (by omega) hD rfl hl hac ⟨hS.ws.mono hm',hS.frm,hS.b6,hS.b7,hS.bp,hS.own,hS.ord,hS.lo⟩)
  clear HX hac hm' hS HS4 HL HLA;rename ∀ a w,Code.wp _ (Code.seq (Code.seq (Code.region 10 _ _) _) _) _ a w->_=>hk7
  have HK7:=hd_ hk7;clear hk7;go_wp2_with fail;exact HK7 _ _ (HT _ (by kernel_rfl) _ _ _ _ _ _ _ _ _ _ _ _ _ _ _ _ _ _ _ _ _ _ _ _ _ _ _ _ _ _ _ _ _ _ _ _ _ _ _ _ _ _ _ _ _ _ _ _ _ _ _ _ _ _ _ _ _ _ _ _ _ _ _ _ _ _ _ _ _ _ _ _ _ _ _ _ _ _ _ _ _ _ _ _ _ _ _ _ _ _ _ _ _ _ _ _ _ _ _ _ _ _ _ _ _ _ _ _ _ _ _ _ _ _ _ _ _ _ _ _ _ _ _ _ _ _ _ _ _ _ _ _ _ _ _ _ _ _ _ _ _ _ _ _ _ _ _ _ _ _ _ _ _ _ _ _ _ _ _ _ _ _ _ _ _ _ _ _ _ _ _ _ _ _ _ _ _ _ _ _ _ _)
