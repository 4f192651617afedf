/- A part. -/
import Derived.Test.YtlnjaagijaadmaaGreatDoorMvw29
import Derived.Test.YtlnjaagijaadmaaGreatDoorMvw38
import Derived.Test.YtlnjaagijaadmaaGreatDoorMvw33
import Derived.Test.YtlnjaagijaadmaaGreatDoorMvw35
set_option linter.unusedVariables false
set_option linter.unusedSimpArgs false
set_option maxHeartbeats 8000000
set_option maxRecDepth 100000
namespace Go.Proofs.YtlnjaagijaadmaaGreatDoor
open Go.Proofs.Tryz
open Go.RowKit
def SmN (n:Nat)(l:List zA):Prop:=∀ x∈l,x.size<=n
theorem zn5 {n:Nat}{x:zA}{l:List zA}(h:SmN n (x :: l)):x.size<=n/\SmN n l:=⟨h x (Zj ..),fun y hy=>h y (Zh _ hy)⟩
theorem zn6 {n:Nat}:∀ {xs ys zs:List zA},zc3 xs ys=some zs->SmN n xs->SmN n ys->SmN n zs
 | xs,[],zs,h,hx,_=>by
  have:zs=xs:=by cases xs <;> (unfold zc3 at h;injection h with h;exact h.symm)
  rw[this];exact hx
 | [],y :: ys,zs,h,_,_=>by unfold zc3 at h;cases h
 | x :: xs,y :: ys,zs,h,hx,hy=>by
  unfold zc3 at h;cases hm:zbm x y with
  | none=>rw[hm] at h;cases h
  | some z =>
   rw[hm] at h;obtain⟨r,hr,rfl⟩:=Yg.1 h;intro u hu;rcases Zn.1 hu with rfl | hu
   ·rcases (zhg hm).2.2 with rfl | rfl
    ·exact (zn5 hx).1
    ·exact (zn5 hy).1
   ·exact zn6 hr (zn5 hx).2 (zn5 hy).2 u hu
theorem zn7 {n:Nat}{p q m:Pat}(h:zc6 p q=some m)(hp:SmN n p.kp)(hq:SmN n q.kp):SmN n m.kp:=by
 unfold zc6 at h;split at h
 ·obtain⟨r,hr,rfl⟩:=Yg.1 h;refine zn6 hr ?_ ?_
  ·unfold zc4;split <;> assumption
  ·unfold zc5;split <;> assumption
 ·cases h
theorem zn8 (n:Nat):z2r.size<=n:=Zg _
theorem zn9 (a b:List UInt8):(Lib.trimSuffix a b).length<=a.length:=by
 unfold Lib.trimSuffix;split
 ·rw[ZK];omega
 ·exact Zd _
theorem zna (x y:zA):(zi4 x y).size<=y.size:=by
 unfold zi4;rw[z9c];refine Zf (zn9 _ _) ?_;simp
theorem znb {n:Nat}:∀(l ms:List zA),SmN n ms->SmN n (zi7 l ms)
 | [],_,_=>by intro x hx;cases hx
 | x :: xs,ms,h=>by
  have ht:SmN n ms.tail:=fun z hz=>h z (List.mem_of_mem_tail hz);have hh:(ms.headD z2r).size<=n:=by
   cases ms with
   | nil=>exact zn8 n
   | cons a r=>exact (zn5 h).1
  unfold zi7;split
  ·intro z hz;rcases Zn.1 hz with rfl | hz
   ·exact Zf (zna _ _) hh
   ·exact znb xs _ ht z hz
  ·exact znb xs _ ht
theorem suf_sm (x:zA):(za5 x).size<=x.size:=by unfold za5;rw[ByteArray.size_extract];omega
theorem znc {n k:Nat}:∀(l cs:List zA),SmN n l->SmN k cs->SmN (n+k) (zcl l cs)
 | [],_,_,_=>by intro x hx;cases hx
 | x :: xs,cs,h,hc=>by
  have ht:SmN k cs.tail:=fun z hz=>hc z (List.mem_of_mem_tail hz);have hh:(cs.headD z2r).size<=k:=by
   cases cs with
   | nil=>exact zn8 k
   | cons a r=>exact (zn5 hc).1
  have hx:=zn5 h;unfold zcl;split
  ·intro z hz;rcases Zn.1 hz with rfl | hz
   ·have:=suf_sm x;rw[ByteArray.size_append];omega
   ·exact znc xs _ hx.2 ht z hz
  ·intro z hz;rcases Zn.1 hz with rfl | hz
   ·omega
   ·exact znc xs cs hx.2 hc z hz
theorem znd {n:Nat}{l r m:Pat}(hr:SmN n r.kp)(hm:SmN n m.kp):SmN (n+n) (zif l r m).kp:=by
 unfold zif;intro z hz;rcases Zy.1 hz with hz | hz
 ·exact znc _ _ hr (znb _ _ hm) z hz
 ·split at hz
  ·have:=hm z (ZW hz);omega
  ·cases hz
theorem sz_of {n:Nat}{l r q:Pat}(hn:n<=15000000)(hl:SmN n l.kp)(hr:SmN n r.kp)(hq:SmN n q.kp):∀ m,zc6 l q=some m->∀ z∈(zif l r m).kp,z.size<=30000000:=fun m hm z hz=>by
 have:=znd (l:=l) hr (zn7 hm hl hq) z hz;omega
theorem zne {l:List zA}{k:Nat}(h:k<l.length):zad l k=l[k]:=by unfold zad;rw[Ze h];rfl
theorem znf {parts:List zA}{cs:List (List UInt8)}:∀ k,k<=parts.length->(zag parts cs k).length=zbp parts k
 | 0,_=>by unfold zag zbp;rfl
 | k+1,h=>by
  unfold zag;rw[Zc,znf k (by omega),zbr (by omega),zne (by omega)]
  congr 1
  cases z8r parts[k] <;> rfl
theorem zng (l:List zA):zbp l l.length=(l.filter z8r).length:=by unfold zbp;rw[ZH]
theorem capV_ok {x c:zA}(hs:z8r x=true)(h:za7 x c=true)(hc:z0z c=true):z0z (za6 x c)=true/\(za6 x c).size<=c.size:=by
 obtain⟨d,hd,e⟩:=(zhd hs).1 h;have hv:(za6 x c).data.toList=d:=by
  unfold za6;rw[if_pos hs,e,zh6]
 have hsz:(za6 x c).size<=c.size:=by
  have h1:(za6 x c).size=(za6 x c).data.toList.length:=by simp
  have h2:c.size=c.data.toList.length:=by simp
  rw[h1,h2,hv,e,Zc];omega
 refine⟨?_,hsz⟩;rw[zhy] at hc |-;rw[hv];rw[e] at hc;refine⟨⟨hd,?_⟩,(zi3.1 hc.2).1⟩;cases d with
 | nil=>exact absurd rfl hd
 | cons a t=>simpa using hc.1.2
theorem znh {parts:List zA}{cs:List (List UInt8)}:∀ k,∀ z∈zag parts cs k,∃ j,j<k/\z8r (zad parts j)=true/\z=za6 (zad parts j) (zae cs j)
 | 0,z,hz=>by unfold zag at hz;cases hz
 | k+1,z,hz=>by
  unfold zag at hz;rcases Zy.1 hz with hz | hz
  ·obtain⟨j,h1,h2⟩:=znh k z hz;exact⟨j,by omega,h2⟩
  ·split at hz
   ·rename_i hs
    exact⟨k,by omega,hs,by simpa using hz⟩
   ·cases hz
theorem zni {ps:List (List UInt8)}{B:Nat}(h:∀ p∈ps,p.length<=B):(Lib.join ps [47]).length<=ps.length * (B+1):=by
 have:=z1o (List.replicate B 0) ps (fun p hp=>by rw[List.length_replicate];exact h p hp) ps.length (Zd _)
 rwa [List.length_replicate] at this
def FewP (p:zA):Prop:=∀ cs,z2w p.data.toList 2=some cs->cs.length<=10/\(∀ c∈cs,c.length<=100)/\cs.all z0y=true
theorem few_six:∀ p∈z8e,FewP p:=by
 have h:z8e.all (fun p=>match z2w p.data.toList 2 with | none=>true | some cs=>decide (cs.length<=10) && cs.all (fun c=>decide (c.length<=100)) && cs.all z0y)=true:=by decide +kernel
 intro p hp cs hcs;have:=ZB.1 h p hp;rw[hcs] at this;simp only[Zw,decide_eq_true_eq] at this
 exact⟨this.1.1,fun c hc=>of_decide_eq_true (ZB.1 this.1.2 c hc),this.2⟩
theorem znj {c:List UInt8}(h:z0y c=true):(47:UInt8)∉c:=by
 intro hm;unfold z0y at h;rw[Zw] at h;have:=ZB.1 h.2 47 hm;revert this
 decide
theorem znk {l r:Pat}(h:zbw l r=0):z8w l=0/\z8w r=0/\zbq l=zbq r/\l.kr=r.kr:=by
 unfold zbw at h;split at h
 ·cases h
 ·split at h
  ·cases h
  ·split at h
   ·cases h
   ·rename_i a b c
    simp only[ne_eq,not_or,Decidable.not_not] at a b c
    exact⟨a,b,c.1,c.2⟩
theorem fit_of {l r:Pat}{p:zA}{n:Nat}(hn:n<=2000000)(hR:zbw l r=0)(hr:SmN n r.kp)(hp:FewP p):∀ caps,zaj l p=some caps->zco r caps:=by
 intro caps hm;obtain⟨pl,pr,hst,hre⟩:=znk hR;unfold zaj at hm;cases hd:z2w p.data.toList 2 with
 | none=>rw[hd] at hm;cases hm
 | some cs =>
  rw[hd] at hm;simp only at hm
  split at hm
  ·rename_i hc
   injection hm with hm
   subst hm;obtain⟨-,hfit,hzip⟩:=hc;obtain⟨hl10,hc100,hca⟩:=hp cs hd;unfold zah at hfit;rw[Zw,decide_eq_true_eq,beq_iff_eq] at hfit;have hcomp:∀ j,j<l.kp.length->z0z (zae cs j)=true/\(zae cs j).size<=100:=fun j hj=>by
    have hj2:j<cs.length:=by omega
    unfold zae;rw[Ze hj2];show z0z (baL cs[j])=true/\(baL cs[j]).size<=100
    rw[z9c];refine⟨?_,hc100 _ (Za hj2)⟩;unfold z0z;rw[z9b];exact ZB.1 hca _ (Za hj2)
   have hz:∀ z∈zag l.kp cs l.kp.length,z0z z=true/\z.size<=100:=fun z hz=>by
    obtain⟨j,hj,hs,rfl⟩:=znh _ z hz;have hcb:za7 (zad l.kp j) (zae cs j)=true:=by
     unfold zaf at hzip;exact ZB.1 hzip j (List.mem_range.2 hj)
    obtain⟨h1,h2⟩:=capV_ok hs hcb (hcomp j hj).1;exact⟨h1,Zf h2 (hcomp j hj).2⟩
   have hlen:(zag l.kp cs l.kp.length).length=zbq r:=by
    rw[znf _ (Zd _),zng,<- hst];rfl
   have hdl:(cs.drop l.kp.length).length<=10:=by rw[Zu];omega
   have hd100:∀ c∈cs.drop l.kp.length,c.length<=100:=fun c hc=>hc100 c (ZW hc);have hjl:(Lib.join (cs.drop l.kp.length) [47]).length<=1010:=by
    refine Zf (zni hd100) ?_;exact Zf (Ye _ hdl) (by decide)
   have hcz:∀ c∈zai l cs,c.size<=1010:=fun c hc=>by
    unfold zai at hc;rcases Zy.1 hc with hc | hc
    ·have:=(hz c hc).2;omega
    ·split at hc
     ·rw[Zm] at hc;subst hc;rw[z9c];exact hjl
     ·cases hc
   have htk:(zai l cs).take (zbq r)=zag l.kp cs l.kp.length:=by
    unfold zai;rw[<- hlen,List.take_left'];rfl
   have hdr:(zai l cs).drop (zbq r)=if l.kr then [baL (Lib.join (cs.drop l.kp.length) [47])] else []:=by
    unfold zai;rw[<- hlen,List.drop_left'];rfl
   have hpl:=zcc pr;have hfa:(zcm r (zai l cs)).length<=13:=by
    unfold zcm;rw[Zc,zia];split
    ·rw[hdr];split <;> simp <;> omega
    ·simp;omega
   have hfs:SmN (n+1010) (zcm r (zai l cs)):=by
    unfold zcm;intro z hz;rcases Zy.1 hz with hz | hz
    ·exact znc _ _ hr hcz z hz
    ·split at hz
     ·have:=hcz z (ZW hz);omega
     ·cases hz
   refine⟨pr,?_,?_,?_,fun c hc=>by have:=hcz c hc;omega,?_,?_⟩
   ·unfold zai;rw[Zc,hlen,hre];split <;> rfl
   ·rw[htk];exact fun c hc=>(hz c hc).1
   ·intro hb c hc;rw[hdr,hre,hb,if_pos rfl,Zm] at hc;subst hc;rw[z9b,z1n ?_ fun c hc=>znj (ZB.1 hca c (ZW hc))]
    ·exact ZB.2 fun c hc=>ZB.1 hca c (ZW hc)
    ·intro e;have h1:=hfit.2;rw[hre,hb,decide_eq_true_eq] at h1;have h2:=congrArg List.length e;rw[Zu] at h2;simp at h2;omega
   ·have:=zni (ps:=(zcm r (zai l cs)).map (·.data.toList)) (B:=n+1010) (fun q hq=>by
     obtain⟨z,hz,rfl⟩:=ZD.1 hq;have:=hfs z hz;simpa using this)
    rw[Zk] at this;refine Zf this (Zf (Ye _ hfa) ?_);omega
   ·unfold zcm;rw[Zc,zia];have:0<r.kp.length:=by
     rcases ZU r.kp.length with h0 | h0
     ·rw[z94 h0] at pr;cases pr
     ·exact h0
    omega
  ·cases hm
open Go.Sort (grow)
structure PlSt (w wr:zW)(B b1 b2:Nat)(v:zV)(op dt:List zA)(ps:List Syn)(k:Nat):Prop where
 own:zj6 wr B v ((ps.take k).map (z88 op dt)++ps.drop k)
 s1:zo3 wr b1 op
 s2:zo3 wr b2 dt
 low:Below B w wr
theorem set_mid {α:Type}(A D:List α)(x y:α)(k:Nat)(hk:A.length=k):(A++x :: D).set k y=A++y :: D:=by
 subst hk;induction A with
 | nil=>rfl
 | cons a r ih=>rw[List.cons_append,Zz,List.set_cons_succ,ih];rfl
theorem get_mid {α:Type}(A D:List α)(x:α)(k:Nat)(hk:A.length=k)(h:k<(A++x :: D).length):(A++x :: D)[k]=x:=by subst hk;simp
theorem PlSt.next {w wr W:zW}{B b1 b2 g c n:Nat}{op dt:List zA}{ps:List Syn}{k:Nat}{x:Syn}{q:Int}(H:PlSt w wr B b1 b2 (zL (some ⟨g,0,none⟩) n c) op dt ps k)(hX:zB wr W)
  (hp:ps.drop k=x :: ps.drop (k+1)) (ht:ps.take (k+1)=ps.take k++[x]) (hk:(ps.take k).length=k) (hq:z87 op dt x=q) (h1:b1≠g) (h2:b2≠g) (hB:B<=g) (hs:B<=wr.heap.size):
  PlSt w (W.setCell ⟨g,k * 5,none⟩ (zI q)) B b1 b2 (zL (some ⟨g,0,none⟩) n c) op dt ps (k+1):=by
 have hO:zj6 W B (zL (some ⟨g,0,none⟩) n c) ((ps.take k).map (z88 op dt)++x :: ps.drop (k+1)):=by
  have:=z0n H.own hX;rw[hp] at this;exact this
 have hlt:k<((ps.take k).map (z88 op dt)++x :: ps.drop (k+1)).length:=by rw[Zc,Zk,hk,Zz];omega
 have hO2:=zj6.put hO hlt q;have hx:((ps.take k).map (z88 op dt)++x :: ps.drop (k+1))[k]=x:=get_mid _ _ _ _ (by rw[Zk,hk]) hlt
 rw[hx,set_mid _ _ _ _ _ (by rw[Zk,hk])] at hO2
 have hkd:zj7 q x=z88 op dt x:=by rw[<- hq];rfl
 refine⟨?_,z2l.setCell (z2l.kw H.s1 hX) (fun e=>h1 e.symm) _,z2l.setCell (z2l.kw H.s2 hX) (fun e=>h2 e.symm) _,(H.low.trans (hX.mono hs)).setCell hB _⟩;rw[ht,Zs,ZE];rw[hkd] at hO2;exact hO2
theorem plT8 (T:Code)(hT:Tryz.f33.body.bind (tailAt 8)=some T)(R:Ending->zW->Prop)(w:zW)(B b1 b2 g c:Nat)(Ap:zP)(ps:List Syn)(op dt:List zA)(hAp:0<ps.length->Ap=some ⟨g,0,none⟩)
  (hI:PlSt w w B b1 b2 (zL Ap ps.length c) op dt ps 0) (h1:b1≠g) (h2:b2≠g) (hB:B<=g) (hBw:B<=w.heap.size) (hl:ps.length<=1000000)
  (hs RL:List Hav) (Ah:zP) (ch:Nat) (P1:List Syn)
  (hBK:∀ X,Below B w X->zj6 X B (zL Ap ps.length c) (ps.map (z88 op dt))->Calls prog 74 #[zL Ah hs.length ch,zL Ap ps.length c] X fun e w'=>e=.returned (.tuple #[])/\zj6 w' B (zL Ap ps.length c) P1/\Below B X w')
  (hRS:∀ X,Below B w X->zj6 X B (zL Ap ps.length c) P1->Calls prog 75 #[zL Ah hs.length ch,zL Ap ps.length c] X fun e w'=>∃ u,e=.returned u/\z5s w' u RL/\zB X w')
  (hR1:1024<RL.length->∀ X,Below B w X->R (.returned (.tuple #[zL none 0 0,zI 351])) X)
  (hR2:¬ 1024<RL.length->∀ X,Below B w X->zj6 X B (zL Ap ps.length c) P1->R (.returned (.tuple #[zL Ap ps.length c,zI 0])) X)
  (u0 u1 u2 u4 u5 u6 u7 u8 u9 gF gG gI gJ gK gO gP gQ gR gT gV gW gX gY gZ i6 i7 i8 ia ib ic ie ig ii ij ik il im io ip iq ir iu iv iw iy iz iA iB iC iD iE iF iG iH iI iJ iK iL iM iN iO iP iQ iR iS iT iU iV iW iX iY iZ j0 j1 j2 j9 jb jd je jf jg jh ji jj jk jl jm jn jo jp jq jr js:zV):
  T.wp prog (bodyPost prog Tryz.f33 R) ⟨#[u0,u1,u2,zL Ah hs.length ch,u4,u5,u6,u7,u8,u9,gF,gG,zL none 0 0,gI,gJ,gK,zL Ap ps.length c,.map (some b1),.map (some b2),gO,gP,gQ,gR,gT,gV,gW,gX,gY,gZ,i6,i7,i8,ia,ib,ic,ie,ig,ii,ij,ik,il,im,io,ip,iq,ir,iu,iv,iw,iy,iz,iA,iB,iC,iD,iE,iF,iG,iH,iI,iJ,iK,iL,iM,iN,iO,iP,iQ,iR,iS,iT,iU,iV,iW,iX,iY,iZ,j0,j1,j2,j9,jb,jd,je,jf,jg,jh,ji,jj,jk,jl,jm,jn,jo,jp,jq,jr,js],[]⟩ w:=by
 simp only[Tryz.f33,Zp,tailAt,hasReg] at hT
 simp at hT
 subst hT;have HI:=hd_ hI;have HBK:=hd_ hBK;have HRS:=hd_ hRS;have HR1:=hd_ hR1;have HR2:=hd_ hR2;clear hI hBK hRS hR1 hR2;go_wp2_with fail;go_loopw [43] (fun i wr=>∃ k:Nat,k<=ps.length/\i=zI k/\Hid (PlSt w wr B b1 b2 (zL Ap ps.length c) op dt ps k)) (fun i _=>ps.length - (intOf i).toNat)
 exact⟨0,Zg _,rfl,HI⟩
 obtain⟨k,hk,rfl,HK⟩:=hrel;by_cases hlt:k<ps.length
 ·obtain rfl:=hAp (by omega)
  have hlt2:k<((ps.take k).map (z88 op dt)++ps.drop k).length:=by simp;omega
  have hx:((ps.take k).map (z88 op dt)++ps.drop k)[k]=ps[k]:=by
   rw[List.getElem_append_right (by rw[Zk,ZK];exact Nat.min_le_left _ _)]
   simp [Nat.min_eq_left hk]
  obtain⟨⟨y0,y1,y2,y3,y4⟩,fz⟩:=zj6.cell HK.out.own hlt2;rw[hx] at y0 y1 y2 y3 y4;have HPX:=hd_ (show ps.drop k=ps[k] :: ps.drop (k+1) from Zo hlt);have HTX:=hd_ (show ps.take (k+1)=ps.take k++[ps[k]] from Zr hlt);generalize ps[k]=x at y0 y1 y2 y3 y4 hx HPX HTX;clear hx fz hlt2;have HH1:=hd_ (fun X (hX:zB wr X)=>zo5 op b1 x.kt X (z2l.kw HK.s1 hX));have hA:zB wr (wr.alloc (zC #[zI x.kind,zS x.kt,zI x.num,zS x.frm,zS x.dst] 99)):=zR;have HC1:=hd_ (HH1 _ hA);have HA:=hd_ hA;obtain⟨z0,z1,z2,z3,z4⟩:=z5g (x:=x) (z0l wr [zI x.kind,zS x.kt,zI x.num,zS x.frm,zS x.dst] 99);have HBX:=hd_ (z0l wr [zI x.kind,zS x.kt,zI x.num,zS x.frm,zS x.dst] 99);clear hA;by_cases hop:x.kt∈op
  ·have HKD:Hid (z87 op dt x=6):=hd_ (if_pos hop);rw[decide_eq_true hop] at HC1;clear hop;go_wp2_with fail;refine HC1.mono ?_;rintro e w1 ⟨rfl,hb1⟩;have HB1:=hd_ (HA.trans (hb1.mono HA.size));clear hb1;have HO1:=hd_ (z0n HK.own HB1);obtain⟨⟨v0,-,-,-,-⟩,fz⟩:=zj6.cell (show zj6 w1 B (zL (some ⟨g,0,none⟩) ps.length c) ((ps.take k).map (z88 op dt)++ps.drop k) from HO1.out) (k:=k) (by simp;omega)
   clear y0 y1 y2 y3 y4 z0 z1 z2 z3 z4;have HN:=hd_ (HK.next HB1 HPX HTX (by rw[ZK];omega) HKD h1 h2 hB (Zf hBw HK.low.size))
   go_wp2_with fail;go_roundw
   exact⟨k+1,by omega,by go_num,HN⟩
   simp [intOf];omega
  ·have HOP:=hd_ hop;rw[decide_eq_false hop] at HC1;clear hop;have HF1:=hd_ (fun X (hX:zB wr X)=>zo5 dt b2 x.frm X (z2l.kw HK.s2 hX));have HD1:=hd_ (fun X (hX:zB wr X)=>zo5 dt b2 x.dst X (z2l.kw HK.s2 hX));have HCELL:=hd_ (fun X (hX:zB wr X)=>zj6.cell (show zj6 X B (zL (some ⟨g,0,none⟩) ps.length c) ((ps.take k).map (z88 op dt)++ps.drop k) from z0n HK.out.own hX) (k:=k) (by simp;omega))
   go_wp2_with fail;refine HC1.mono ?_;rintro e w1 ⟨rfl,hb1⟩;have HB1:=hd_ (HA.trans (hb1.mono HA.size));have HX1:=hd_ (HBX.kw hb1 HBX.lt);clear hb1 y0 y1 y2 y3 y4 z0 z1 z2 z3 z4;obtain⟨z0,z1,z2,z3,z4⟩:=z5g (x:=x) HX1.out;by_cases hf:x.frm=z2r
   ·by_cases hd:x.dst=z2r
    ·have HFE:=hd_ hf;obtain⟨s1,s2⟩:=z5k hf;have HDE:=hd_ hd;obtain⟨t1,t2⟩:=z5k hd;have HKD:Hid (z87 op dt x=z5e x.frm x.dst):=hd_ (by unfold z87;rw[if_neg HOP.out,if_neg (fun h=>h.elim (fun h=>h.1 HFE.out) (fun h=>h.1 HDE.out))])
     clear hf hd;have HKC:=hd_ (z5n x w1);go_wp2_with fail;refine HKC.mono ?_;rintro e w2 ⟨rfl,hb2⟩;have HB2:=hd_ (HB1.trans (hb2.mono HB1.size));have HX2:=hd_ (HX1.kw hb2 HX1.lt);clear hb2 z0 z1 z2 z3 z4;obtain⟨z0,z1,z2,z3,z4⟩:=z5g (x:=x) HX2.out;obtain⟨⟨v0,-,-,-,-⟩,fz⟩:=HCELL.out w2 HB2.out;have HN:=hd_ (HK.next HB2 HPX HTX (by rw[ZK];omega) HKD h1 h2 hB (Zf hBw HK.low.size))
     go_wp2_with fail;go_roundw
     exact⟨k+1,by omega,by go_num,HN⟩
     simp [intOf];omega
    ·by_cases hdd:x.dst∈dt
     ·have HFE:=hd_ hf;obtain⟨s1,s2⟩:=z5k hf;have HDE:=hd_ hd;obtain⟨t1,t2⟩:=z5l hd;have HDD:=hd_ hdd;have HKD:Hid (z87 op dt x=5):=hd_ (by unfold z87;rw[if_neg HOP.out,if_pos (.inr ⟨HDE.out,HDD.out⟩)])
      clear hf hd hdd;have HCD:=hd_ (HD1 w1 HB1);rw[decide_eq_true HDD.out] at HCD;go_wp2_with fail;refine HCD.mono ?_;rintro e w2 ⟨rfl,hb2⟩;have HB2:=hd_ (HB1.trans (hb2.mono HB1.size));have HX2:=hd_ (HX1.kw hb2 HX1.lt);clear hb2 z0 z1 z2 z3 z4;obtain⟨z0,z1,z2,z3,z4⟩:=z5g (x:=x) HX2.out;obtain⟨⟨v0,-,-,-,-⟩,fz⟩:=HCELL.out w2 HB2.out;have HN:=hd_ (HK.next HB2 HPX HTX (by rw[ZK];omega) HKD h1 h2 hB (Zf hBw HK.low.size))
      go_wp2_with fail;go_roundw
      exact⟨k+1,by omega,by go_num,HN⟩
      simp [intOf];omega
     ·have HFE:=hd_ hf;obtain⟨s1,s2⟩:=z5k hf;have HDE:=hd_ hd;obtain⟨t1,t2⟩:=z5l hd;have HDD:=hd_ hdd;have HKD:Hid (z87 op dt x=z5e x.frm x.dst):=hd_ (by unfold z87;rw[if_neg HOP.out,if_neg (fun h=>h.elim (fun h=>h.1 HFE.out) (fun h=>HDD.out h.2))])
      clear hf hd hdd;have HCD:=hd_ (HD1 w1 HB1);rw[decide_eq_false HDD.out] at HCD;go_wp2_with fail;refine HCD.mono ?_;rintro e w2 ⟨rfl,hb2⟩;have HB2:=hd_ (HB1.trans (hb2.mono HB1.size));have HX2:=hd_ (HX1.kw hb2 HX1.lt);clear hb2 z0 z1 z2 z3 z4;obtain⟨z0,z1,z2,z3,z4⟩:=z5g (x:=x) HX2.out;have HKC:=hd_ (z5n x w2);go_wp2_with fail;refine HKC.mono ?_;rintro e w3 ⟨rfl,hb3⟩;have HB3:=hd_ (HB2.trans (hb3.mono HB2.size));have HX3:=hd_ (HX2.kw hb3 HX2.lt);clear hb3 z0 z1 z2 z3 z4;obtain⟨z0,z1,z2,z3,z4⟩:=z5g (x:=x) HX3.out;obtain⟨⟨v0,-,-,-,-⟩,fz⟩:=HCELL.out w3 HB3.out;have HN:=hd_ (HK.next HB3 HPX HTX (by rw[ZK];omega) HKD h1 h2 hB (Zf hBw HK.low.size))
      go_wp2_with fail;go_roundw
      exact⟨k+1,by omega,by go_num,HN⟩
      simp [intOf];omega
   ·by_cases hfd:x.frm∈dt
    ·have HFE:=hd_ hf;obtain⟨s1,s2⟩:=z5l hf;have HCF:=hd_ (HF1 w1 HB1);rw[decide_eq_true hfd] at HCF;have HFD:=hd_ hfd;have HKD:Hid (z87 op dt x=5):=hd_ (by unfold z87;rw[if_neg HOP.out,if_pos (.inl ⟨HFE.out,HFD.out⟩)])
     clear hf hfd;go_wp2_with fail;refine HCF.mono ?_;rintro e w2 ⟨rfl,hb2⟩;have HB2:=hd_ (HB1.trans (hb2.mono HB1.size));have HX2:=hd_ (HX1.kw hb2 HX1.lt);clear hb2 z0 z1 z2 z3 z4;obtain⟨z0,z1,z2,z3,z4⟩:=z5g (x:=x) HX2.out;obtain⟨⟨v0,-,-,-,-⟩,fz⟩:=HCELL.out w2 HB2.out;have HN:=hd_ (HK.next HB2 HPX HTX (by rw[ZK];omega) HKD h1 h2 hB (Zf hBw HK.low.size))
     go_wp2_with fail;go_roundw
     exact⟨k+1,by omega,by go_num,HN⟩
     simp [intOf];omega
    ·by_cases hd:x.dst=z2r
     ·have HFE:=hd_ hf;obtain⟨s1,s2⟩:=z5l hf;have HCF:=hd_ (HF1 w1 HB1);rw[decide_eq_false hfd] at HCF;have HFD:=hd_ hfd;have HDE:=hd_ hd;obtain⟨t1,t2⟩:=z5k hd;have HKD:Hid (z87 op dt x=z5e x.frm x.dst):=hd_ (by unfold z87;rw[if_neg HOP.out,if_neg (fun h=>h.elim (fun h=>HFD.out h.2) (fun h=>h.1 HDE.out))])
      clear hf hfd hd;go_wp2_with fail;refine HCF.mono ?_;rintro e w2 ⟨rfl,hb2⟩;have HB2:=hd_ (HB1.trans (hb2.mono HB1.size));have HX2:=hd_ (HX1.kw hb2 HX1.lt);clear hb2 z0 z1 z2 z3 z4;obtain⟨z0,z1,z2,z3,z4⟩:=z5g (x:=x) HX2.out;have HKC:=hd_ (z5n x w2);go_wp2_with fail;refine HKC.mono ?_;rintro e w3 ⟨rfl,hb3⟩;have HB3:=hd_ (HB2.trans (hb3.mono HB2.size));have HX3:=hd_ (HX2.kw hb3 HX2.lt);clear hb3 z0 z1 z2 z3 z4;obtain⟨z0,z1,z2,z3,z4⟩:=z5g (x:=x) HX3.out;obtain⟨⟨v0,-,-,-,-⟩,fz⟩:=HCELL.out w3 HB3.out;have HN:=hd_ (HK.next HB3 HPX HTX (by rw[ZK];omega) HKD h1 h2 hB (Zf hBw HK.low.size))
      go_wp2_with fail;go_roundw
      exact⟨k+1,by omega,by go_num,HN⟩
      simp [intOf];omega
     ·by_cases hdd:x.dst∈dt
      ·have HFE:=hd_ hf;obtain⟨s1,s2⟩:=z5l hf;have HCF:=hd_ (HF1 w1 HB1);rw[decide_eq_false hfd] at HCF;have HFD:=hd_ hfd;have HDE:=hd_ hd;obtain⟨t1,t2⟩:=z5l hd;have HDD:=hd_ hdd;have HKD:Hid (z87 op dt x=5):=hd_ (by unfold z87;rw[if_neg HOP.out,if_pos (.inr ⟨HDE.out,HDD.out⟩)])
       clear hf hfd hd hdd;go_wp2_with fail;refine HCF.mono ?_;rintro e w2 ⟨rfl,hb2⟩;have HB2:=hd_ (HB1.trans (hb2.mono HB1.size));have HX2:=hd_ (HX1.kw hb2 HX1.lt);clear hb2 z0 z1 z2 z3 z4;obtain⟨z0,z1,z2,z3,z4⟩:=z5g (x:=x) HX2.out;have HCD:=hd_ (HD1 w2 HB2);rw[decide_eq_true HDD.out] at HCD;go_wp2_with fail;refine HCD.mono ?_;rintro e w3 ⟨rfl,hb3⟩;have HB3:=hd_ (HB2.trans (hb3.mono HB2.size));have HX3:=hd_ (HX2.kw hb3 HX2.lt);clear hb3 z0 z1 z2 z3 z4;obtain⟨z0,z1,z2,z3,z4⟩:=z5g (x:=x) HX3.out;obtain⟨⟨v0,-,-,-,-⟩,fz⟩:=HCELL.out w3 HB3.out;have HN:=hd_ (HK.next HB3 HPX HTX (by rw[ZK];omega) HKD h1 h2 hB (Zf hBw HK.low.size))
       go_wp2_with fail;go_roundw
       exact⟨k+1,by omega,by go_num,HN⟩
       simp [intOf];omega
      ·have HFE:=hd_ hf;obtain⟨s1,s2⟩:=z5l hf;have HCF:=hd_ (HF1 w1 HB1);rw[decide_eq_false hfd] at HCF;have HFD:=hd_ hfd;have HDE:=hd_ hd;obtain⟨t1,t2⟩:=z5l hd;have HDD:=hd_ hdd;have HKD:Hid (z87 op dt x=z5e x.frm x.dst):=hd_ (by unfold z87;rw[if_neg HOP.out,if_neg (fun h=>h.elim (fun h=>HFD.out h.2) (fun h=>HDD.out h.2))])
       clear hf hfd hd hdd;go_wp2_with fail;refine HCF.mono ?_;rintro e w2 ⟨rfl,hb2⟩;have HB2:=hd_ (HB1.trans (hb2.mono HB1.size));have HX2:=hd_ (HX1.kw hb2 HX1.lt);clear hb2 z0 z1 z2 z3 z4;obtain⟨z0,z1,z2,z3,z4⟩:=z5g (x:=x) HX2.out;have HCD:=hd_ (HD1 w2 HB2);rw[decide_eq_false HDD.out] at HCD;go_wp2_with fail;refine HCD.mono ?_;rintro e w3 ⟨rfl,hb3⟩;have HB3:=hd_ (HB2.trans (hb3.mono HB2.size));have HX3:=hd_ (HX2.kw hb3 HX2.lt);clear hb3 z0 z1 z2 z3 z4;obtain⟨z0,z1,z2,z3,z4⟩:=z5g (x:=x) HX3.out;have HKC:=hd_ (z5n x w3);go_wp2_with fail;refine HKC.mono ?_;rintro e w4 ⟨rfl,hb4⟩;have HB4:=hd_ (HB3.trans (hb4.mono HB3.size));have HX4:=hd_ (HX3.kw hb4 HX3.lt);clear hb4 z0 z1 z2 z3 z4;obtain⟨z0,z1,z2,z3,z4⟩:=z5g (x:=x) HX4.out;obtain⟨⟨v0,-,-,-,-⟩,fz⟩:=HCELL.out w4 HB4.out;have HN:=hd_ (HK.next HB4 HPX HTX (by rw[ZK];omega) HKD h1 h2 hB (Zf hBw HK.low.size))
       go_wp2_with fail;go_roundw
       exact⟨k+1,by omega,by go_num,HN⟩
       simp [intOf];omega
 ·have hke:k=ps.length:=by omega
  have HO0:Hid (zj6 wr B (zL Ap ps.length c) (ps.map (z88 op dt))):=hd_ (by
   have:=HK.out.own;rw[hke,ZH,Yd,ZM] at this;exact this)
  have HL:=hd_ HK.low;have HC:=hd_ (HBK wr HL HO0);have HBW:=hd_ (Zf hBw HK.low.size);clear hke HK;go_wp2_with fail;refine HC.mono ?_;rintro e w1 ⟨rfl,ho,hb⟩;have HO1:=hd_ ho;have HL1:=hd_ (HL.trans hb);have HS1:=hd_ (Zf HBW hb.size);have HC2:=hd_ (HRS w1 HL1 ho);clear ho hb;go_wp2_with fail;refine HC2.mono ?_;rintro e w2 ⟨u,rfl,hu,hb⟩;have HL2:=hd_ (HL1.trans (hb.mono HS1));have HO2:=hd_ (show zj6 w2 B _ P1 from z0n HO1.out hb);obtain⟨Au,cu,rfl,-⟩:=id hu;clear hu hb;by_cases hr:1024<RL.length
  ·have HF:=hd_ (HR1 hr w2 HL2);go_wp2_with fail;exact HF
  ·have HF:=hd_ (HR2 hr w2 HL2 HO2);go_wp2_with fail;exact HF
section
variable {u0 u1 u2 u3 u4 u5 u6 u7 u8 u9 gF gG gH gI gJ gK gL gM gN gO gP gQ gR gT gV gW gX gY gZ i6 i7 i8 ia ib ic ie ig ii ij ik il im io ip iq ir iu iv iw iy iz iA iB iC iD iE iF iG iH iI iJ iK iL iM iN iO iP iQ iR iS iT iU iV iW iX iY iZ j0 j1 j2 j9 jb jd je jf jg jh ji jj jk jl jm : zV}
theorem rcR24W (ops:Array Oper)(hops:Tryz.f5.body.bind (z0w 24)=some ops)(Q:Exit->Act->zW->Prop)(V:zW)(g11 g12 g15 g16:Nat)(p q r s:Pat)(A B C D H1 H2 H3 H4:zP)(a b c d n1 n2 n3 n4 c1 c2 c3 c4:Nat)
  (h11:Blk V g11 59 [zL A p.kp.length a,.bool p.kr,zL C r.kp.length c,.bool r.kr,zL H1 n1 c1])
  (h15:Blk V g15 59 [zL B q.kp.length b,.bool q.kr,zL D s.kp.length d,.bool s.kr,zL H2 n2 c2])
  (h12:Blk V g12 66 [zL C r.kp.length c,.bool r.kr,zL H3 n3 c3])
  (h16:Blk V g16 66 [zL D s.kp.length d,.bool s.kr,zL H4 n4 c4])
  (b1 b2:Bool) (hcl:∀ X,zB V X->Calls prog 23 #[.agg #[zL A p.kp.length a,.bool p.kr,zL H1 n1 c1],.agg #[zL B q.kp.length b,.bool q.kr,zL H2 n2 c2]] X fun e w'=>e=.returned (.bool b1)/\zB X w')
  (hcr:∀ X,zB V X->Calls prog 23 #[.agg #[zL C r.kp.length c,.bool r.kr,zL H3 n3 c3],.agg #[zL D s.kp.length d,.bool s.kr,zL H4 n4 c4]] X fun e w'=>e=.returned (.bool b2)/\zB X w')
  (hQ:∀(fQ fR fS fT fU fV fW fX fY:zV) (w':zW),zB V w'->Q .normal ⟨#[u0,u1,u2,u3,u4,u5,u6,u7,u8,u9,gF,.pointer (some ⟨g11,0,none⟩),.pointer (some ⟨g12,0,none⟩),gI,gJ,.pointer (some ⟨g15,0,none⟩),.pointer (some ⟨g16,0,none⟩),gM,gN,gO,gP,gQ,gR,gT,gV,gW,gX,gY,gZ,i6,i7,i8,ia,ib,ic,ie,ig,ii,ij,ik,il,im,io,ip,iq,ir,iu,iv,iw,iy,iz,iA,iB,iC,iD,iE,iF,iG,iH,iI,iJ,iK,iL,iM,iN,iO,iP,iQ,iR,iS,iT,iU,iV,iW,iX,iY,iZ,j0,j1,fQ,fR,fS,fT,fU,fV,fW,fX,fY,.bool (b1 || b2),jk,jl,jm],[]⟩ w'):
  (Code.region 24 ops true).wp prog Q ⟨#[u0,u1,u2,u3,u4,u5,u6,u7,u8,u9,gF,.pointer (some ⟨g11,0,none⟩),.pointer (some ⟨g12,0,none⟩),gI,gJ,.pointer (some ⟨g15,0,none⟩),.pointer (some ⟨g16,0,none⟩),gM,gN,gO,gP,gQ,gR,gT,gV,gW,gX,gY,gZ,i6,i7,i8,ia,ib,ic,ie,ig,ii,ij,ik,il,im,io,ip,iq,ir,iu,iv,iw,iy,iz,iA,iB,iC,iD,iE,iF,iG,iH,iI,iJ,iK,iL,iM,iN,iO,iP,iQ,iR,iS,iT,iU,iV,iW,iX,iY,iZ,j0,j1,j2,j9,jb,jd,je,jf,jg,jh,ji,jj,jk,jl,jm],[]⟩ V:=by
 simp only[Tryz.f5,Zp,z0w] at hops
 simp at hops
 subst hops;have HQ:=hd_ hQ;have bR:∀ d os,zB V (grow (redrawn V d) os):=fun d os=>below_regrown V d os;have cL1:∀ d os,Calls prog 21 #[.agg #[zL A p.kp.length a,.bool p.kr,zL C r.kp.length c,.bool r.kr,zL H1 n1 c1]] (grow (redrawn V d) os) fun e w''=>e=.returned (.agg #[zL A p.kp.length a,.bool p.kr,zL H1 n1 c1])/\∃ p:Regrown,w''=grow (redrawn V p.d) p.os:=fun d os=>Calls.regrown_of (zqr A H1 p.kp.length a n1 c1 p.kr r.kr _ _);have cL2:∀ d' os,Calls prog 21 #[.agg #[zL B q.kp.length b,.bool q.kr,zL D s.kp.length d,.bool s.kr,zL H2 n2 c2]] (grow (redrawn V d') os) fun e w''=>e=.returned (.agg #[zL B q.kp.length b,.bool q.kr,zL H2 n2 c2])/\∃ p:Regrown,w''=grow (redrawn V p.d) p.os:=fun d' os=>Calls.regrown_of (zqr B H2 q.kp.length b n2 c2 q.kr s.kr _ _);have cC1:∀ d' os,Calls prog 23 #[.agg #[zL A p.kp.length a,.bool p.kr,zL H1 n1 c1],.agg #[zL B q.kp.length b,.bool q.kr,zL H2 n2 c2]] (grow (redrawn V d') os) fun e w''=>e=.returned (.bool b1)/\∃ p:Regrown,w''=grow (redrawn V p.d) p.os:=fun d' os=>Calls.regrown_of (hcl _ (bR d' os));have cC2:∀ d' os,Calls prog 23 #[.agg #[zL C r.kp.length c,.bool r.kr,zL H3 n3 c3],.agg #[zL D s.kp.length d,.bool s.kr,zL H4 n4 c4]] (grow (redrawn V d') os) fun e w''=>e=.returned (.bool b2)/\∃ p:Regrown,w''=grow (redrawn V p.d) p.os:=fun d' os=>Calls.regrown_of (hcr _ (bR d' os));have x0:=cell_regrown (h11.cell 0);have x1:=cell_regrown (h11.cell 1);have x2:=cell_regrown (h11.cell 2);have x3:=cell_regrown (h11.cell 3);have x4:=cell_regrown (h11.cell 4);have y0:=cell_regrown (h15.cell 0);have y1:=cell_regrown (h15.cell 1);have y2:=cell_regrown (h15.cell 2);have y3:=cell_regrown (h15.cell 3);have y4:=cell_regrown (h15.cell 4);have u0:=cell_regrown (h12.cell 0);have u1:=cell_regrown (h12.cell 1);have u2:=cell_regrown (h12.cell 2);have v0:=cell_regrown (h16.cell 0);have v1:=cell_regrown (h16.cell 1)
 have v2:=cell_regrown (h16.cell 2);clear hQ h11 h12 h15 h16 hcl hcr bR;cases b1
 all_goals
  refine wp_region_quiet_below (by kernel_rfl) (by kernel_rfl) ?_
  iterate 2 (first | go_big_quiet_step (exact cL1 _ _) | quiet_step (exact cL1 _ _))
  iterate 2 (first | go_big_quiet_step (exact cL2 _ _) | quiet_step (exact cL2 _ _))
  iterate 2 (first | go_big_quiet_step (exact cC1 _ _) | quiet_step (exact cC1 _ _))
  repeat (first | go_big_quiet_step (exact cC2 _ _) | quiet_step (exact cC2 _ _))
  refine wpQuiet_nil ?_;intro _ hw9;obtain⟨⟨dq,osq⟩,hw9⟩:=hw9;subst hw9;exact HQ _ _ _ _ _ _ _ _ _ _ (below_regrown V dq osq)
end
theorem rFullW (b:Pat)(hs:List PatM)(H B:zP)(hc c n:Nat)(w:zW)(hh:HolesIn w (zL H hs.length hc) hs)(hb:zbx w (zL B b.kp.length c) b)(hbe:z8w b=0)(hhe:∀ q∈hs,z8w q.1=0)(hn:n<=1000)(hl:hs.length<=1000):
  Calls prog 92 #[.agg #[zL B b.kp.length c,.bool b.kr,zL H hs.length hc],zI n] w fun e w'=>e=.returned (.bool (zlx b (hs.map (·.1)) n))/\zB w w':=by
 have hA:zB w (w.alloc (zC #[zL B b.kp.length c,.bool b.kr,zL H hs.length hc] 66)):=zR;have hBK:=z0l w [zL B b.kp.length c,.bool b.kr,zL H hs.length hc] 66;have HH:=hd_ hh;have HB:=hd_ hb;have HHE:=hd_ hhe;have HBE:=hd_ hbe;have HNO:Hid (∀ k (hk:k<hs.length),(zhk hs[k].1 n && zlw b hs[k].1 n)=true->zlx b (hs.map (·.1)) n=true):=hd_ (fun k hk h=>List.any_eq_true.2 ⟨_,ZJ (Za hk),h⟩);have HYE:Hid ((∀ k (hk:k<hs.length),(zhk hs[k].1 n && zlw b hs[k].1 n)=false)->zlx b (hs.map (·.1)) n=false):=hd_ (fun h=>by
  unfold zlx;rw[List.any_eq_false];intro q hq;obtain⟨q',hq',rfl⟩:=ZD.1 hq;obtain⟨k,hk,rfl⟩:=ZF hq';rw[h k hk];decide)
 generalize zlx b (hs.map (·.1)) n=r at HNO HYE |-;clear hh hb hhe hbe;go_enter func92,ntmps92;go_upto_region 1 with fail;generalize w.alloc (zC #[zL B b.kp.length c,.bool b.kr,zL H hs.length hc] 66)=W1 at hA hBK |-;have HA:=hd_ hA;have HBK:=hd_ hBK;clear hA hBK;have d2:W1.cell? ⟨w.heap.size,2,none⟩=some (.slice H hs.length hc):=HBK.cell 2;go_wp2_with fail;clear d2;go_loopw [10] (fun i wr=>∃ k:Nat,i=zI k/\k<=hs.length/\Hid (zB W1 wr/\∀ j (hj:j<hs.length),j<k->(zhk hs[j].1 n && zlw b hs[j].1 n)=false)) (fun i _=>hs.length - (intOf i).toNat)
 exact⟨0,rfl,Zg _,hd_ ⟨Zb _ _,fun j _ h=>by omega⟩⟩
 obtain⟨k,rfl,hk,HI⟩:=hrel;have HBW:=hd_ (z0r HA HI.1);by_cases hlt:k<hs.length
 ·obtain⟨ad,rfl,hab,s0,s1⟩:=(HH.out.kw HBW.out).at_ hlt;have HPK:=hd_ ((HH.kw HBW).2 hs[k] (Za hlt));have HPE:=hd_ (HHE hs[k] (Za hlt));have HNK:=hd_ (HNO k hlt);have HJ:Hid ((zhk hs[k].1 n && zlw b hs[k].1 n)=false->∀ j (hj:j<hs.length),j<k+1->(zhk hs[j].1 n && zlw b hs[j].1 n)=false):=hd_ (fun h j hj hjk=>by
   by_cases e:j=k
   ·subst e;exact h
   ·exact HI.2 j hj (by omega))
  have HLT:=hd_ hlt;generalize hs[k]=q at s0 s1 HPK HPE HNK HJ;obtain⟨q,Aq,cq⟩:=q;change wr.cell? _=some (.slice Aq q.kp.length cq) at s0;change wr.cell? _=some (.bool q.kr) at s1;have hX:zB wr (wr.alloc (zC #[zL Aq q.kp.length cq,.bool q.kr] 56)):=zR;have HC:=hd_ (zsi q b n Aq B cq c _ (HPK.kw hX) ((HB.kw HBW).kw hX) HPE HBE hn);have HX6:Hid (zch (wr.alloc (zC #[zL Aq q.kp.length cq,.bool q.kr] 56)) wr.heap.size (zL Aq q.kp.length cq) q.kr):=hd_ (z0l wr [zL Aq q.kp.length cq,.bool q.kr] 56);have HB6:=hd_ (z0r HI.1 hX);have HK6:=hd_ ((HBK.kw HI.1 HBK.lt).kw hX (HBK.kw HI.1 HBK.lt).lt);obtain⟨o,ho⟩:∃ o,(zhk q n && zlw b q n)=o:=⟨_,rfl⟩;have HNK:Hid ((zhk q n && zlw b q n)=true->r=true):=HNK;have HJ:Hid ((zhk q n && zlw b q n)=false->∀ j (hj:j<hs.length),j<k+1->(zhk hs[j].1 n && zlw b hs[j].1 n)=false):=HJ;rw[ho] at HC HNK HJ;clear ho hab hX;go_upto_region 4 with fail;clear s0 s1;generalize wr.alloc (zC #[zL Aq q.kp.length cq,.bool q.kr] 56)=W6 at HC HX6 HB6 HK6 |-;generalize wr.heap.size=g6 at HX6 |-;obtain⟨d0,d1⟩:=(⟨HK6.out.cell 0,HK6.out.cell 1⟩:W6.cell? ⟨w.heap.size,0,none⟩=some (.slice B b.kp.length c)/\W6.cell? ⟨w.heap.size,1,none⟩=some (.bool b.kr));have y0:=HX6.out.c0;have y1:=HX6.out.c1;cases o with
  | true =>
   have HR:=hd_ (HNK rfl);go_wp2_with fail;refine HC.mono ?_;rintro e w2 ⟨rfl,hb⟩;dsimp only;have HB2:=hd_ (z0r HA (z0r HB6 hb));clear hb d0 d1 y0 y1;go_wp2_with fail;go_ret;exact⟨by rw[HR.out];rfl,HB2⟩
  | false =>
   have HR:=hd_ (HJ rfl);go_wp2_with fail;refine HC.mono ?_;rintro e w2 ⟨rfl,hb⟩;dsimp only;have HB2:=hd_ (z0r HB6 hb);clear hb d0 d1 y0 y1;go_wp2_with fail;go_roundw
   exact⟨k+1,by go_num,by have:=HLT.out;omega,hd_ ⟨HB2,HR⟩⟩
   have:=HLT.out;simp [intOf];omega
 ·have hke:k=hs.length:=by omega
  subst hke;have HR:=hd_ (HYE (fun j hj=>HI.2 j hj hj));have hge:¬((hs.length:Int)<(hs.length:Int)):=by omega
  go_wp2_with fail;go_ret;exact⟨by rw[HR.out];rfl,HBW⟩
theorem zsj (b:Pat)(hs:List PatM)(H B:zP)(hc c:Nat)(w:zW)(hh:HolesIn w (zL H hs.length hc) hs)(hb:zbx w (zL B b.kp.length c) b)(hbe:z8w b=0)(hhe:∀ q∈hs,z8w q.1=0)(hn:hs.length<=1000):
  Calls prog 45 #[.agg #[zL B b.kp.length c,.bool b.kr,zL H hs.length hc]] w (zmc w b hs):=by
 have hA:zB w (w.alloc (zC #[zL B b.kp.length c,.bool b.kr,zL H hs.length hc] 66)):=zR;have hBK:=z0l w [zL B b.kp.length c,.bool b.kr,zL H hs.length hc] 66;have HH:=hd_ hh;have h0:=(zid.1 hbe).pos;have h12:=zcc hbe;have HL:Hid (∀ q∈hs,q.1.kp.length<=12):=hd_ (fun q hq=>zcc (hhe q hq));have HFU:=hd_ (fun X n (hX:zB w X) (h:n<=1000)=>rFullW b hs H B hc c n X (hh.kw hX) (hb.kw hX) hbe hhe h hn);clear hh hb hhe hbe;go_enter func45,ntmps45;go_upto_region 1 with fail;generalize w.alloc (zC #[zL B b.kp.length c,.bool b.kr,zL H hs.length hc] 66)=W1 at hA hBK |-;have HA:=hd_ hA;have HBK:=hd_ hBK;clear hA hBK;obtain⟨d0,d1,d2⟩:=(⟨HBK.out.cell 0,HBK.out.cell 1,HBK.out.cell 2⟩:W1.cell? ⟨w.heap.size,0,none⟩=some (.slice B b.kp.length c)/\W1.cell? ⟨w.heap.size,1,none⟩=some (.bool b.kr)/\W1.cell? ⟨w.heap.size,2,none⟩=some (.slice H hs.length hc));cases hbr:b.kr with
 | false =>
  rw[hbr] at d1;have HS:=hd_ (zma (H:=hs.map (·.1)) hbr h0);have HC:=hd_ (HFU W1 b.kp.length HA (by omega))
  rw[hbr] at HC;obtain⟨f,hf⟩:∃ f,zlx b (hs.map (·.1)) b.kp.length=f:=⟨_,rfl⟩;rw[hf] at HC;have HF:=hd_ hf;clear hf hbr;cases f with
  | true =>
   go_wp2_with fail;refine HC.mono ?_;rintro e w2 ⟨rfl,hb⟩;dsimp only;have HB2:=hd_ (z0r HA hb);clear hb d0 d1 d2;go_wp2_with fail;go_ret;exact⟨0,rfl,⟨fun _=>HS.2.2 (fun n h1 h2=>by rw[show n=b.kp.length by omega];exact HF),fun _=>rfl⟩,HB2⟩
  | false =>
   go_wp2_with fail;refine HC.mono ?_;rintro e w2 ⟨rfl,hb⟩;dsimp only;have HB2:=hd_ (z0r HA hb);have hk2:=HBK.out.kw hb HBK.out.lt;clear hb d0 d1 d2;have d0:w2.cell? ⟨w.heap.size,0,none⟩=some (.slice B b.kp.length c):=hk2.cell 0;go_wp2_with fail;go_ret;exact⟨b.kp.length,rfl,⟨fun h=>by omega,fun hv=>by have:=HS.out.2.1 hv b.kp.length (Zd _) (Zd _);rw[HF.out] at this;cases this⟩,HB2.out⟩
 | true =>
  rw[hbr] at d1;have HR:=hd_ hbr;clear hbr;go_wp2_with fail;clear d0 d1 d2;go_loopw [3,28] (fun m i wr=>∃(M k:Nat),m=zI M/\i=zI k/\k<=hs.length/\b.kp.length<=M/\M<=12/\Hid (zB W1 wr/\∀ j (hj:j<hs.length),j<k->hs[j].1.kp.length<=M)) (fun _ i _=>hs.length - (intOf i).toNat)
  exact⟨b.kp.length,0,rfl,rfl,Zg _,Zd _,h12,hd_ ⟨Zb _ _,fun j _ h=>by omega⟩⟩
  obtain⟨M,k,rfl,rfl,hk,hM1,hM2,HI⟩:=hrel;by_cases hlt:k<hs.length
  ·obtain⟨ad,rfl,hab,s0,s1⟩:=(HH.out.kw (z0r HA.out HI.out.1)).at_ hlt;have hq12:=HL.out hs[k] (Za hlt);have HJ:Hid (∀ M',M<=M'->hs[k].1.kp.length<=M'->∀ j (hj:j<hs.length),j<k+1->hs[j].1.kp.length<=M'):=hd_ (fun M' h1 h2 j hj hjk=>by
    by_cases e:j=k
    ·subst e;exact h2
    ·have:=HI.out.2 j hj (by omega);omega)
   generalize hs[k]=q at s0 s1 HJ hq12;obtain⟨q,Aq,cq⟩:=q;change wr.cell? _=some (.slice Aq q.kp.length cq) at s0;change wr.cell? _=some (.bool q.kr) at s1;have hq12:q.kp.length<=12:=hq12;have HJ:Hid (∀ M',M<=M'->q.kp.length<=M'->∀ j (hj:j<hs.length),j<k+1->hs[j].1.kp.length<=M'):=HJ;have hX:zB wr (wr.alloc (zC #[zL Aq q.kp.length cq,.bool q.kr] 56)):=zR;have HBX:=hd_ (z0r HI.1 hX);have HLT:=hd_ hlt;clear hab hX;go_wp2_with fail;go_roundw
   exact⟨max M q.kp.length,k+1,by congr 1;omega,by go_num,by omega,by omega,by omega,hd_ ⟨HBX,HJ _ (by omega) (by omega)⟩⟩
   simp [intOf];omega
  ·have hke:k=hs.length:=by omega
   have HS:=hd_ (zmb (H:=hs.map (·.1)) (m:=M+1) HR (by omega) (fun h hh=>by
    obtain⟨q,hq,rfl⟩:=ZD.1 hh;obtain⟨j,hj,rfl⟩:=ZF hq;have:=HI.out.2 j hj (by omega)
    omega))
   subst hke;have hk2:=HBK.out.kw HI.out.1 HBK.out.lt;have d0:wr.cell? ⟨w.heap.size,0,none⟩=some (.slice B b.kp.length c):=hk2.cell 0;have hge:¬((hs.length:Int)<(hs.length:Int)):=by omega
   have HWB:=hd_ HI.1;clear hk2 HI;go_wp2_with fail;clear d0;go_loopw [6] (fun z wx=>∃ n:Nat,z=zI n/\b.kp.length+1<=n/\n<=M+2/\Hid (zB W1 wx/\∀ m,b.kp.length+1<=m->m<n->zlx b (hs.map (·.1)) m=true)) (fun z _=>M+2 - (intOf z).toNat)
   exact⟨b.kp.length+1,by go_num,Zd _,by omega,hd_ ⟨HWB,fun m h1 h2=>by omega⟩⟩
   obtain⟨n,rfl,hn1,hn2,HJ⟩:=hrel;by_cases hle:n<=M+1
   ·have q1:decide ((n:Int)<=(M:Int)+1)=true:=by simp;omega
    have hk3:=HBK.out.kw HJ.out.1 HBK.out.lt;obtain⟨d0,d1,d2⟩:=(⟨hk3.cell 0,hk3.cell 1,hk3.cell 2⟩:wr.cell? ⟨w.heap.size,0,none⟩=some (.slice B b.kp.length c)/\wr.cell? ⟨w.heap.size,1,none⟩=some (.bool b.kr)/\wr.cell? ⟨w.heap.size,2,none⟩=some (.slice H hs.length hc));have HC:=hd_ (HFU wr n (z0r HA HJ.1) (by omega))
    obtain⟨f,hf⟩:∃ f,zlx b (hs.map (·.1)) n=f:=⟨_,rfl⟩;rw[hf] at HC;have HF:=hd_ hf;clear hf hk3;cases f with
    | false =>
     go_wp2_with fail;refine HC.mono ?_;rintro e w2 ⟨rfl,hb⟩;dsimp only;have HB2:=hd_ (z0r HA (z0r HJ.1 hb));clear hb d0 d1 d2;go_wp2_with fail;go_ret;exact⟨n,rfl,⟨fun h=>by omega,fun hv=>by have:=HS.out.2.1 hv n hn1 hle;rw[HF.out] at this;cases this⟩,HB2.out⟩
    | true =>
     go_wp2_with fail;refine HC.mono ?_;rintro e w2 ⟨rfl,hb⟩;dsimp only;have HB2:=hd_ (z0r HJ.1 hb);clear hb d0 d1 d2 q1;go_wp2_with fail;go_roundw
     case rel=>exact⟨n+1,by go_num,by omega,by omega,hd_ ⟨HB2,fun m h1 h2=>by
      by_cases e:m=n
      ·rw[e];exact HF
      ·exact HJ.2 m h1 (by omega)⟩⟩
     case measure=>simp [intOf];omega
   ·have q1:decide ((n:Int)<=(M:Int)+1)=false:=by simp;omega
    have HB:=hd_ (z0r HA HJ.1);go_wp2_with fail;go_ret;exact⟨0,rfl,⟨fun _=>HS.2.2 (fun m h1 h2=>HJ.2 m h1 (by omega)),fun _=>rfl⟩,HB⟩
theorem zsk (p q:Pat)(hs ks:List PatM)(A B H K:zP)(a b hc kc:Nat)(w:zW)(hp:zbx w (zL A p.kp.length a) p)(hq:zbx w (zL B q.kp.length b) q)(hh:HolesIn w (zL H hs.length hc) hs)(hk:HolesIn w (zL K ks.length kc) ks)(hl:∀ x∈hs,z8w x.1=0)(hl2:∀ x∈ks,z8w x.1=0)(hn:hs.length<=400)(hn2:ks.length<=400):
  Calls prog 23 #[.agg #[zL A p.kp.length a,.bool p.kr,zL H hs.length hc],.agg #[zL B q.kp.length b,.bool q.kr,zL K ks.length kc]] w (ComW w p (hs.map (·.1)) q (ks.map (·.1))):=by
 obtain⟨W1,hW1⟩:∃ W,W=(w.alloc (zC #[zL A p.kp.length a,.bool p.kr,zL H hs.length hc] 66)).alloc (zC #[zL B q.kp.length b,.bool q.kr,zL K ks.length kc] 66):=⟨_,rfl⟩;have hA:zB w W1:=by rw[hW1];exact (zR).alloc (by simp) _
 have h2:Blk W1 w.heap.size 66 [zL A p.kp.length a,.bool p.kr,zL H hs.length hc]:=by rw[hW1];exact (z0l w _ _).alloc _
 have h3:Blk W1 (w.heap.size+1) 66 [zL B q.kp.length b,.bool q.kr,zL K ks.length kc]:=by
  rw[hW1];have:=z0l (w.alloc (zC #[zL A p.kp.length a,.bool p.kr,zL H hs.length hc] 66)) [zL B q.kp.length b,.bool q.kr,zL K ks.length kc] 66;simp only[Zl] at this
  exact this
 have HME:=hd_ (zs7 p q A B a b W1 (hp.kw hA) (hq.kw hA));have HROWS:=hd_ (Zi hh.1 hk.1);have HHK:=hd_ (Zi hh.2 hk.2);have HL:Hid (∀ x∈hs++ks,z8w x.1=0):=hd_ (fun x hx=>(Zy.1 hx).elim (hl x) (hl2 x));have HA:=hd_ hA;have HW1:=hd_ hW1;have HN:Hid ((hs++ks).length<=1000):=hd_ (by rw[Zc];omega)
 have HB2:=hd_ h2;have HB3:=hd_ h3;obtain⟨x0,x1⟩:=(⟨h2.cell 0,h2.cell 1⟩:W1.cell? ⟨w.heap.size,0,none⟩=some (.slice A p.kp.length a)/\W1.cell? ⟨w.heap.size,1,none⟩=some (.bool p.kr));obtain⟨y0,y1⟩:=(⟨h3.cell 0,h3.cell 1⟩:W1.cell? ⟨w.heap.size+1,0,none⟩=some (.slice B q.kp.length b)/\W1.cell? ⟨w.heap.size+1,1,none⟩=some (.bool q.kr));clear hp hq hA hW1 h2 h3 hh hk hl hl2;go_enter func23,ntmps23;go_upto_region 1 with fail;rw[<- HW1.out];go_wp2_with fail;refine HME.mono ?_;rintro e w4 ⟨hb,⟨hm,rfl⟩ | ⟨m,A6,c6,hmm,rfl,hfr,hpm⟩⟩
 ·dsimp only;have HM:=hd_ hm;have HB:=hd_ (z0r HA hb);have hX:zB w4 (w4.alloc (zC #[zL none 0 0,.bool false] 56)):=zR;have HB5:=hd_ (z0r HB hX);clear x0 x1 y0 y1 hb hX hm;go_wp2_with fail;go_ret;exact⟨false,rfl,⟨fun e=>(by cases e),fun ⟨m,e,_⟩=>(by rw[HM.out] at e;cases e)⟩,HB5.out⟩
 ·dsimp only;have HM:=hd_ hmm;have HB:=hd_ (z0r HA hb);have hX:zB w4 (w4.alloc (zC #[zL A6 m.kp.length c6,.bool m.kr] 56)):=zR;have HB5:=hd_ (z0r HB hX);have HP5:=hd_ (hpm.kw hX);have H5:=hd_ (z0l w4 [zL A6 m.kp.length c6,.bool m.kr] 56);have HX2:=hd_ ((HB2.kw hb HB2.lt).kw hX (HB2.kw hb HB2.lt).lt);have HX3:=hd_ ((HB3.kw hb HB3.lt).kw hX (HB3.kw hb HB3.lt).lt);have HME2:=hd_ (zie hmm);clear x0 x1 y0 y1 hb hX hmm hfr hpm HME;go_upto_region 4 with fail;generalize w4.alloc (zC #[zL A6 m.kp.length c6,.bool m.kr] 56)=W5 at HB5 HP5 H5 HX2 HX3 |-;generalize w4.heap.size=g5 at H5 |-;have hF:∀ X,zB W5 X->X.cell? ⟨g5,0,none⟩=some (.slice A6 m.kp.length c6)/\X.cell? ⟨g5,1,none⟩=some (.bool m.kr)/\X.cell? ⟨w.heap.size,2,none⟩=some (.slice H hs.length hc)/\X.cell? ⟨w.heap.size+1,2,none⟩=some (.slice K ks.length kc):=fun X hX=>⟨(H5.kw hX H5.lt).cell 0,(H5.kw hX H5.lt).cell 1,(HX2.kw hX HX2.lt).cell 2,(HX3.kw hX HX3.lt).cell 2⟩;refine rcR4 _ (by kernel_rfl) _ W5 w.heap.size (w.heap.size+1) g5 m.kp.length c6 hc kc A6 H K m.kr hs ks hF (Row.kw HROWS.1 HB5) (Row.kw HROWS.2 HB5) hn hn2 ?_
  clear hF;intro eu ew eA eB eC eD eE eF g9 A8 c8 W9 HO;have hBW:=z0r HB5.out HO.out.1;obtain⟨gs,C,c,e,hgs,hH6⟩:=zmn HO.out.2.2 (fun x hx=>(HHK.out.1 x hx).kw hBW) (fun x hx=>(HHK.out.2 x hx).kw hBW);have HBK:=HO.out.2.1;rw[e] at HBK;rw[e] at hH6;have HBK:=hd_ HBK;have HGS:=hd_ hgs;have HLE:=hd_ (zsj m gs C A6 c c6 _ hH6 (HP5.kw HO.1) HME2 (by rw[hgs];exact HL) (by rw[hgs];exact HN))
  have HBX:=hd_ hBW;clear hBW e hgs hH6 HO;obtain⟨z0,z1,z2⟩:=(⟨HBK.out.cell 0,HBK.out.cell 1,HBK.out.cell 2⟩:W9.cell? ⟨g9,0,none⟩=some (.slice A6 m.kp.length c6)/\W9.cell? ⟨g9,1,none⟩=some (.bool m.kr)/\W9.cell? ⟨g9,2,none⟩=some (.slice C gs.length c));go_wp2_with fail;refine HLE.mono ?_;rintro e w10 ⟨k,rfl,hk,hb⟩;dsimp only;have HK:=hd_ hk;have HB10:=hd_ (z0r HBX hb);clear hk hb z0 z1 z2;go_wp2_with fail;go_ret;refine⟨decide (0<k),by first | rfl | simp,?_,HB10⟩
  have e:gs.map (·.1)=hs.map (·.1)++ks.map (·.1):=by rw[HGS.out,Zs]
  have hr:=HK.out;rw[e] at hr;rw[decide_eq_true_eq];constructor
  ·intro h;exact⟨m,HM,fun hv=>by have:=hr.2 hv;omega⟩
  ·rintro⟨m',e1,e2⟩;rw[HM.out] at e1;injection e1 with e1
   subst e1;exact Nat.pos_of_ne_zero (fun h=>e2 (hr.1 h))
