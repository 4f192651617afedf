/- A part. -/
import Derived.Test.YtlnjaagijaadmaaGreatDoorMxAlE
import Derived.Test.YtlnjaagijaadmaaGreatDoorMvw11
set_option linter.unusedVariables false
set_option linter.unusedSimpArgs false
set_option maxHeartbeats 8000000
set_option maxRecDepth 100000
namespace Go.Proofs.YtlnjaagijaadmaaGreatDoor
open Go.Proofs.Tryz
open Go.RowKit
def zcl:List zA->List zA->List zA
 | [],_=>[]
 | x :: xs,cs=>if z8r x then (cs.headD z2r++za5 x) :: zcl xs cs.tail else x :: zcl xs cs
def zcm (p:Pat)(caps:List zA):List zA:=zcl p.kp caps++(if p.kr then caps.drop (zbq p) else [])
def zcn (p:Pat)(caps:List zA):zA:=baL (z9k ((zcm p caps).map (·.data.toList)))
structure zco (p:Pat)(caps:List zA):Prop where
 pat:z8w p=0
 len:caps.length=zbq p+(if p.kr then 1 else 0)
 comp:∀ c∈caps.take (zbq p),z0z c=true
 last:p.kr=true->∀ c∈caps.drop (zbq p),(z1e c.data.toList).all z0y=true
 size:∀ c∈caps,c.size<=1000000
 join:(Lib.join ((zcm p caps).map (·.data.toList)) [47]).length<=30000000
 some:0<(zcm p caps).length
theorem zcp {l:List zA}{j:Nat}(h:j<(l.map (·.data.toList)).length):baL (l.map (·.data.toList))[j]=l[j]'(by simpa using h):=by rw[List.getElem_map];rfl
theorem zcq {w:zW}{B:Nat}{e:TypeId}{k:Nat}{A:zP}{n c:Nat}{xs:List zV}(h:w.ownsRow B e k (zL A n c) n xs):n<=c/\c<=maxLen:=by
 obtain⟨A',c',e,h1,h2,-⟩:=Row.of_own h;injection e with e1 e2 e3
 subst e3;exact⟨h1,h2⟩
theorem zcr (w:zW):(sizeOf 9).run prog w=.ok 1 w:=by kernel_rfl
theorem zcs {P:Program}{w:zW}{t e:TypeId}{size n c:Nat}{A:zP}{xs:List zV}(ht:P.underlying t=some (.slice e))(hs:∀ w,(sizeOf e).run P w=.ok size w)
  (h:Row w size (zL A n c) n xs) (h1:1<=n):
  ∃ A' c',(∀ X,(Instr.sliceAt t (zL A n c) (some (zI 1)) none none).run P X=.ok (zL A' (n - 1) c') X)/\Row w size (zL A' (n - 1) c') (n - 1) (xs.drop (1 * size)):=by
 have he:P.elem t=e:=by simp [Program.elem,ht]
 have hr:=Row.slice h h1 (Zd _);rw[ZQ (by rw[Zu,h.len,<- Nat.sub_mul];exact Zd _)] at hr
 refine⟨_,_,fun X=>?_,hr⟩;have ht':P.underlying t=some (.slice (P.elem t)):=by rw[he];exact ht
 rw[run_sliceAt_slice X t _ _ _ _ ht',run_slice_l X t A n c ht' _ _ (by omega) (by omega),he,hs]
 simp [Result.andThen,sliced]
theorem z20.tail {w:zW}{A:zP}{c n:Nat}{x:zA}{r:List zA}(h:z20 w (zL A n c) (x :: r)):
  ∃ A' c',(∀ X,(Instr.sliceAt 29 (zL A n c) (some (zI 1)) none none).run prog X=.ok (zL A' r.length c') X)/\z20 w (zL A' r.length c') r:=by
 have hn:n=(x :: r).length:=by obtain⟨A',c',e,-⟩:=id h;injection e
 subst hn;obtain⟨A',c',h1,h2⟩:=zcs (P:=prog) (w:=w) underlying29 zcr h (by simp)
 exact⟨A',c',h1,h2⟩
theorem z20.tail2 {w:zW}{ad:Addr}{c n:Nat}{x:zA}{r:List zA}(h:z20 w (zL (some ad) n c) (x :: r)):
  z20 w (zL (if c=1 then some ad else some ⟨ad.block,ad.off+1,none⟩) r.length (c - 1)) r:=by
 obtain⟨A,c',e,h1,h2,h3,h4,h5⟩:=id h;injection e with e1 e2 e3
 subst e1 e3;rw[Zz] at h1 h5;refine⟨_,_,rfl,by omega,by omega,by simp,?_,fun hr=>?_⟩
 ·intro hn;split at hn <;> cases hn
 obtain⟨ad',e',hb,hc⟩:=h5 (by omega)
 injection e' with e'
 subst e';rw[if_neg (by omega)]
 refine⟨_,rfl,hb,fun j u hj=>?_⟩;have:=hc (j+1) u (by simpa using hj)
 unfold Addr.add at this |-
 by_cases h0:j=0
 ·subst h0;simpa using this
 ·simpa [Nat.add_assoc,Nat.add_comm 1 j,h0] using this
theorem z20.head {w:zW}{A:zP}{c n:Nat}{x:zA}{r:List zA}(h:z20 w (zL A n c) (x :: r)):
  n=r.length+1/\∃ ad,A=some ad/\ad.block<w.heap.size/\w.cell? ad=some (zS x):=by
 have hn:n=(x :: r).length:=by obtain⟨A',c',e,-⟩:=id h;injection e
 subst hn;obtain⟨ad,e,hb,hc⟩:=z20.at_ (k:=0) h (by simp)
 refine⟨rfl,ad,e,hb,?_⟩;have:ad.add 0=ad:=by unfold Addr.add;simp
 rw[this] at hc;exact hc
theorem zct {l:List zA}{k:Nat}:zbp l k<=(l.filter z8r).length:=by
 unfold zbp;exact ((List.take_sublist k l).filter z8r).length_le
theorem zcu {p:Pat}{k:Nat}(hk:k<p.kp.length)(h:z8r p.kp[k]=true):zbp p.kp k<zbq p:=by
 have h1:=zbr hk;rw[h,if_pos rfl] at h1;have h2:=zct (l:=p.kp) (k:=k+1);unfold zbq;omega
theorem run_mkS (n:Nat)(hn:n<=1000000)(w:zW):∃ w',(Instr.makeSlice 29 (zI 0) (zI (n+1))).run prog w=.ok (zL (some ⟨w.heap.size,0,none⟩) 0 (n+1)) w'/\w'.ownsRow w.heap.size 9 1 (zL (some ⟨w.heap.size,0,none⟩) 0 (n+1)) 0 []/\zB w w':=by
 obtain⟨i0,hi,hz0,hz1,hz2⟩:=info_parts (P:=prog) (e:=9) (z:=zS ⟨#[]⟩) (size:=1) (bytes:=16) (by kernel_rfl)
 obtain⟨w',h1,h2,h3⟩:=run_make_own (P:=prog) w w.heap.size 29 9 i0 (zS ⟨#[]⟩) 1 underlying29 hi hz0 hz1 .i64 .i64 (n+1) (by rw[hz2];omega) (by unfold maxLen;omega) (Zd _)
 exact⟨w',h1,h2,⟨h3.os,h3.tape,h3.output,h3.size,fun k hk=>h3.block k hk (by intro e;cases e)⟩⟩
structure FlSt (w w2 wr:zW)(parts caps:List zA)(k:Nat)(done:List zA)(cv av:zV):Prop where
 low:zB w2 wr
 own:wr.ownsRow w2.heap.size 9 1 av k (done.map .string)
 len:done.length=k
 is:done++zcl (parts.drop k) (caps.drop (zbp parts k))=zcl parts caps
 row:z20 w cv (caps.drop (zbp parts k))
theorem FlSt.plain {w w2 wr wy:zW}{parts caps:List zA}{k:Nat}{done:List zA}{cv av av':zV}(h:FlSt w w2 wr parts caps k done cv av)(hk:k<parts.length)(hs:z8r parts[k]=false)(hl:zB w2 wy)(ho:wy.ownsRow w2.heap.size 9 1 av' (k+1) ((done++[parts[k]]).map .string)):
  FlSt w w2 wy parts caps (k+1) (done++[parts[k]]) cv av':=by
 have e:zbp parts (k+1)=zbp parts k:=by rw[zbr hk,hs];rfl
 refine⟨hl,ho,by rw[Zc,h.len];rfl,?_,by rw[e];exact h.row⟩
 rw[e,<- h.is,Zo hk];conv=>rhs;unfold zcl
 rw[hs];simp
theorem FlSt.star {w w2 wr wy:zW}{parts caps:List zA}{k:Nat}{done r:List zA}{c:zA}{cv cv' av av':zV}(h:FlSt w w2 wr parts caps k done cv av)(hk:k<parts.length)(hs:z8r parts[k]=true)(hr:caps.drop (zbp parts k)=c :: r)(hl:zB w2 wy)(ho:wy.ownsRow w2.heap.size 9 1 av' (k+1) ((done++[c++za5 parts[k]]).map .string))(hv:z20 w cv' r):
  FlSt w w2 wy parts caps (k+1) (done++[c++za5 parts[k]]) cv' av':=by
 have e:zbp parts (k+1)=zbp parts k+1:=by rw[zbr hk,hs];rfl
 have e2:caps.drop (zbp parts (k+1))=r:=by rw[e,<- List.drop_drop,hr];rfl
 refine⟨hl,ho,by rw[Zc,h.len];rfl,?_,by rw[e2];exact hv⟩
 rw[e2,<- h.is,Zo hk,hr];conv=>rhs;unfold zcl
 rw[hs];simp
theorem fill_at (p:Pat)(b:Bool)(hbr:p.kr=b)(caps:List zA)(A:zP)(a:Nat)(cv:zV)(w:zW)(he:Env w)(hp:zbx w (zL A p.kp.length a) p)(hc:z20 w cv caps)(hf:zco p caps):
  Calls prog 162 #[.agg #[zL A p.kp.length a,.bool b],cv] w fun e w'=>e=.returned (.tuple #[zS (zcn p caps),zI 0])/\zB w w':=by
 have hB:=z0l w [zL A p.kp.length a,.bool b] 56;have hA:zB w (w.alloc (zC #[zL A p.kp.length a,.bool b] 56)):=zR;have HK:Hid (∀ X,zB w X->Calls prog 142 #[.agg #[zL A p.kp.length a,.bool b]] X (zbu X p)):=hd_ (fun X hX=>by have:=zbv p A a X (hp.kw hX).1 hp.small;rw[hbr] at this;exact this)
 have HP:=hd_ hp;have HC:=hd_ hc;have HF:=hd_ hf;have HE:=hd_ he;have hl12:=zcc hf.pat;have hs12:zbq p<=12:=Zf (ZS ..) hl12;obtain⟨Ac,cc,rfl,-⟩:=id hc;obtain⟨nc,hnc⟩:∃ nc,caps.length=nc:=⟨_,rfl⟩;have hlen:nc=zbq p+(if b then 1 else 0):=hnc.symm.trans (by rw[hf.len,hbr])
 have HNC:=hd_ hnc;rw[hnc];have HBR:=hd_ hbr;clear hp hc hf he hnc hbr;go_enter func162,ntmps162;go_upto_region 1 with fail;generalize w.alloc (zC #[zL A p.kp.length a,.bool b] 56)=W1 at hB hA |-;have d0:W1.cell? ⟨w.heap.size,0,none⟩=some (.slice A p.kp.length a):=hB.cell 0;have d1:W1.cell? ⟨w.heap.size,1,none⟩=some (.bool b):=hB.cell 1;have HB:=hd_ hB;have HA:=hd_ hA;have HK1:=hd_ (HK W1 hA);clear hB hA HK;go_wp2_with fail;refine HK1.mono ?_;rintro e w2 ⟨n,b',rfl,hk,hb⟩;obtain⟨rfl,hb'⟩:=hk HF.out.pat;rw[HBR.out] at hb';subst hb';have HA:=hd_ (z0r HA hb);have HB:=hd_ (HB.kw hb HB.lt);clear d0 d1 hb HK1 hk;have hpe:z8w p=0:=HF.out.pat;rw[hpe];clear hpe;obtain⟨wm,hmk,hown,hbm⟩:=run_mkS p.kp.length (by omega) w2
 have d0:w2.cell? ⟨w.heap.size,0,none⟩=some (.slice A p.kp.length a):=HB.cell 0;have HO:=hd_ hown;have HM:=hd_ hbm;clear hown hbm;have q1:b'=true->((nc:Int) != (zbq p:Int)+1)=false:=fun h=>by rw[hlen,h];simp
 have q2:b'=false->((nc:Int) != (zbq p:Int))=false:=fun h=>by rw[hlen,h];simp
 cases b' with
 | false =>
  have q3:=q2 rfl;clear q1 q2;go_upto_region 7 with fail;have d0:wm.cell? ⟨w.heap.size,0,none⟩=some (.slice A p.kp.length a):=(HB.kw HM HB.lt).cell 0;go_wp2_with fail;go_loopw [1,9,49] (fun cvr av i wr=>∃(k:Nat) (done:List zA) (A3:zP) (n3 c3:Nat) (A2:zP) (c2:Nat),i=zI k/\cvr=zL A3 n3 c3/\av=zL A2 k c2/\k<=p.kp.length/\Hid (FlSt w w2 wr p.kp caps k done cvr av)) (fun _ _ i _=>p.kp.length - (intOf i).toNat)
  exact⟨0,[],_,_,_,_,_,rfl,rfl,rfl,Zg _,hd_ ⟨HM,HO,rfl,by simp [zbp],by have:=HC.out;rw[show caps.length=zbq p from by rw[HNC.out,hlen];rfl] at this;simpa [zbp] using this⟩⟩
  obtain⟨k,done,A3,n3,c3,A2,c2,rfl,rfl,rfl,hk,HI⟩:=hrel;clear d0;by_cases hlt:k<p.kp.length
  ·have HPX:=hd_ (HP.kw (z0r HA HI.low));obtain⟨ad,rfl,hab,s0⟩:=z20.at_ HPX.out.1 hlt;have HT:=hd_ (fun X=>z92 p.kp[k] X);have HSZ:=hd_ (HP.2 _ (Za hlt));have HLT:=hd_ hlt;have HSP:=hd_ (fun wy av'=>HI.plain (wy:=wy) (av':=av') hlt);have HSS:=hd_ (fun wy av' r c cv'=>HI.star (wy:=wy) (av':=av') (r:=r) (c:=c) (cv':=cv') hlt);have HRM:=hd_ (fun h=>zcu hlt h);have HS1:Hid (z8r p.kp[k]=true->1<=p.kp[k].size):=hd_ za8;generalize p.kp[k]=part at s0 HT HSP HSS HRM HS1 HSZ;obtain⟨st,hst⟩:∃ st,z8r part=st:=⟨_,rfl⟩;have HST:=hd_ hst;rw[hst] at HT;clear hst hab;have HOW:=hd_ HI.own;have HBI:=hd_ HI.low;cases st with
   | false =>
    go_wp2_with (first
     | (go_at_call 110;refine (HT _).mono ?_;rintro e w' ⟨rfl,rfl⟩)
     | (at_builtin;refine z0k rfl rfl zac (z0n HOW (zR)) rfl (z0i _ [zS part] _ 1 1 rfl (by decide) _ (by simp)) rfl (HBI.alloc HBI.size _) (HBI.alloc HBI.size _).size (by simp [Value.oneCell']) (by omega) (by unfold maxLen;omega) ?_;intro A' c' w5 hown5 hbl5))
    have HN:=hd_ (HSP w5 (zL A' (k+1) c') HST hbl5 (by rw[Zs];exact hown5))
    clear hown5 hbl5;go_wp2_with fail;go_roundw
    exact⟨k+1,done++[part],_,_,_,_,_,by go_num,rfl,rfl,by omega,HN⟩
    simp [intOf];omega
   | true =>
    have hroom:=HRM.out HST.out;obtain⟨c,r,hcr⟩:∃ c r,caps.drop (zbp p.kp k)=c :: r:=by
     cases h:caps.drop (zbp p.kp k) with
     | nil =>
      have:=List.drop_eq_nil_iff.1 h;have h3:=HF.out.len;omega
     | cons c r=>exact⟨c,r,rfl⟩
    have hrow:=HI.out.row;rw[hcr] at hrow;obtain⟨hn3,ad3,rfl,hab3,t0⟩:=z20.head (hrow.kw (z0r HA.out HI.out.low));have hrow4:=z20.tail2 hrow;have hmem:c∈caps.take (zbq p):=by
     have:c=caps[zbp p.kp k]'(by have h3:=HF.out.len;omega):=by
      have:=Zo (l:=caps) (i:=zbp p.kp k) (by have h3:=HF.out.len;omega)
      rw[hcr] at this;injection this
     rw[this];exact List.mem_take_iff_getElem.2 ⟨zbp p.kp k,by have h3:=HF.out.len;omega,rfl⟩
    have HCO:=hd_ (fun X=>z1d c X (by have:=HF.out.size c (List.mem_of_mem_take hmem);unfold maxLen;omega))
    rw[HF.out.comp c hmem] at HCO;have HR4:=hd_ hrow4;have HCR:=hd_ hcr;have s1:(1:Int)<=(part.size:Int):=by have:=HS1.out HST.out;omega
    have hr1:(1:Int)<=(r.length:Int)+1:=by omega
    have z1:¬ 9223372036854775807<c.size+(part.size - 1):=by have:=HSZ.out;have:=HF.out.size c (List.mem_of_mem_take hmem);omega
    clear hcr hrow hrow4 hab3 hmem hroom;go_wp2_with (first
     | (go_at_call 110;refine (HT _).mono ?_;rintro e w' ⟨rfl,rfl⟩)
     | (go_at_call 101;refine (HCO _).mono ?_;rintro e w' ⟨rfl,rfl⟩))
    go_region_law (fail)
    have HOW:=hd_ (show wr.drew.ownsRow w2.heap.size 9 1 (zL A2 k c2) k (done.map .string) from HI.out.own);have HBI:=hd_ HI.low.drew;go_wp2_with (at_builtin;refine z0k rfl rfl zac (z0n HOW (zR)) rfl (z0i _ [zS (c++part.extract 1 part.size)] _ 1 1 rfl (by decide) _ (by simp)) rfl (HBI.alloc HBI.size _) (HBI.alloc HBI.size _).size (by simp [Value.oneCell']) (by omega) (by unfold maxLen;omega) ?_;intro A' c' w5 hown5 hbl5)
    have HN:=hd_ (HSS w5 (zL A' (k+1) c') r c _ HST HCR hbl5 (by rw[Zs];exact hown5) HR4)
    clear hown5 hbl5;go_wp2_with fail;go_roundw
    exact⟨k+1,done++[c++za5 part],_,_,_,_,_,by go_num,rfl,rfl,by omega,HN⟩
    simp [intOf];omega
  ·have hke:k=p.kp.length:=by omega
   subst hke;have HIS:=hd_ HI.is;have HFA:Hid (zcl p.kp caps=done):=hd_ (by
    have:=HIS.out;rw[Yd] at this;rw[<- this];unfold zcl;simp)
   have hge:¬((p.kp.length:Int)<(p.kp.length:Int)):=by omega
   have HOW:=hd_ HI.own;have HLW:=hd_ HI.low;have HFB:Hid (zcm p caps=done):=hd_ (by unfold zcm;rw[HBR.out,HFA.out];simp)
   have hpos:0<p.kp.length:=by have h1:=HF.out.some;rw[HFB.out,HI.out.len] at h1;exact h1
   obtain⟨gq,cq,eq⟩:=z0s HOW.out hpos;injection eq with eq1 eq2 eq3
   subst eq1 eq3;have hJ:=z9o (done.map (·.data.toList)) gq 0 c2 wr (fun j hj=>by
    rw[Zk] at hj;rw[ZV];have:=(zc0 HOW.out (j:=j) (u:=zS done[j]) (by simp [hj])).1
    rw[this];simp [baL]) (by rw[Zk,HI.out.len];exact hpos) (by rw[Zk,HI.out.len];exact (zcq HOW).1) (by rw[Zk,HI.out.len];omega) (by have:=HF.out.join;rw[HFB.out] at this;omega)
   rw[Zk,HI.out.len] at hJ;have HJ:=hd_ hJ;have HST:Hid (zcn p caps=baL (z9k (done.map (·.data.toList)))):=hd_ (by unfold zcn;rw[HFB.out])
   have hjl:(Lib.join (done.map (·.data.toList)) [47]).length<=30000000:=by have:=HF.out.join;rw[HFB.out] at this;exact this
   clear hJ;go_wp2_with fail;refine HJ.mono ?_;rintro e w6 ⟨rfl,hb6⟩;have HB6:=hd_ (z0r HA (z0r HLW hb6));have HFS:Hid (zcn p caps=⟨#[47,47]⟩++baL (Lib.join (done.map (·.data.toList)) [47])):=hd_ (by
    rw[HST.out];apply z1s
    simp [z9k,baL])
   have hz6:(baL (Lib.join (done.map (·.data.toList)) [47])).size<=30000000:=by rw[z9c];exact hjl
   generalize baL (Lib.join (done.map (·.data.toList)) [47])=tx at HFS hz6;have z2:¬ 9223372036854775807<2+tx.size:=by omega
   clear hb6 hjl;go_wp2_with fail;go_ret2;exact⟨by rw[HFS.out];rfl,HB6⟩
 | true =>
  have q3:=q1 rfl;clear q1 q2;go_upto_region 7 with fail;have d0:wm.cell? ⟨w.heap.size,0,none⟩=some (.slice A p.kp.length a):=(HB.kw HM HB.lt).cell 0;go_wp2_with fail;go_loopw [1,9,49] (fun cvr av i wr=>∃(k:Nat) (done:List zA) (A3:zP) (n3 c3:Nat) (A2:zP) (c2:Nat),i=zI k/\cvr=zL A3 n3 c3/\av=zL A2 k c2/\k<=p.kp.length/\Hid (FlSt w w2 wr p.kp caps k done cvr av)) (fun _ _ i _=>p.kp.length - (intOf i).toNat)
  exact⟨0,[],_,_,_,_,_,rfl,rfl,rfl,Zg _,hd_ ⟨HM,HO,rfl,by simp [zbp],by have:=HC.out;rw[show caps.length=zbq p+1 from by rw[HNC.out,hlen];rfl] at this;simpa [zbp] using this⟩⟩
  obtain⟨k,done,A3,n3,c3,A2,c2,rfl,rfl,rfl,hk,HI⟩:=hrel;clear d0;by_cases hlt:k<p.kp.length
  ·have HPX:=hd_ (HP.kw (z0r HA HI.low));obtain⟨ad,rfl,hab,s0⟩:=z20.at_ HPX.out.1 hlt;have HT:=hd_ (fun X=>z92 p.kp[k] X);have HSZ:=hd_ (HP.2 _ (Za hlt));have HLT:=hd_ hlt;have HSP:=hd_ (fun wy av'=>HI.plain (wy:=wy) (av':=av') hlt);have HSS:=hd_ (fun wy av' r c cv'=>HI.star (wy:=wy) (av':=av') (r:=r) (c:=c) (cv':=cv') hlt);have HRM:=hd_ (fun h=>zcu hlt h);have HS1:Hid (z8r p.kp[k]=true->1<=p.kp[k].size):=hd_ za8;generalize p.kp[k]=part at s0 HT HSP HSS HRM HS1 HSZ;obtain⟨st,hst⟩:∃ st,z8r part=st:=⟨_,rfl⟩;have HST:=hd_ hst;rw[hst] at HT;clear hst hab;have HOW:=hd_ HI.own;have HBI:=hd_ HI.low;cases st with
   | false =>
    go_wp2_with (first
     | (go_at_call 110;refine (HT _).mono ?_;rintro e w' ⟨rfl,rfl⟩)
     | (at_builtin;refine z0k rfl rfl zac (z0n HOW (zR)) rfl (z0i _ [zS part] _ 1 1 rfl (by decide) _ (by simp)) rfl (HBI.alloc HBI.size _) (HBI.alloc HBI.size _).size (by simp [Value.oneCell']) (by omega) (by unfold maxLen;omega) ?_;intro A' c' w5 hown5 hbl5))
    have HN:=hd_ (HSP w5 (zL A' (k+1) c') HST hbl5 (by rw[Zs];exact hown5))
    clear hown5 hbl5;go_wp2_with fail;go_roundw
    exact⟨k+1,done++[part],_,_,_,_,_,by go_num,rfl,rfl,by omega,HN⟩
    simp [intOf];omega
   | true =>
    have hroom:=HRM.out HST.out;obtain⟨c,r,hcr⟩:∃ c r,caps.drop (zbp p.kp k)=c :: r:=by
     cases h:caps.drop (zbp p.kp k) with
     | nil =>
      have:=List.drop_eq_nil_iff.1 h;have h3:=HF.out.len;omega
     | cons c r=>exact⟨c,r,rfl⟩
    have hrow:=HI.out.row;rw[hcr] at hrow;obtain⟨hn3,ad3,rfl,hab3,t0⟩:=z20.head (hrow.kw (z0r HA.out HI.out.low));have hrow4:=z20.tail2 hrow;have hmem:c∈caps.take (zbq p):=by
     have:c=caps[zbp p.kp k]'(by have h3:=HF.out.len;omega):=by
      have:=Zo (l:=caps) (i:=zbp p.kp k) (by have h3:=HF.out.len;omega)
      rw[hcr] at this;injection this
     rw[this];exact List.mem_take_iff_getElem.2 ⟨zbp p.kp k,by have h3:=HF.out.len;omega,rfl⟩
    have HCO:=hd_ (fun X=>z1d c X (by have:=HF.out.size c (List.mem_of_mem_take hmem);unfold maxLen;omega))
    rw[HF.out.comp c hmem] at HCO;have HR4:=hd_ hrow4;have HCR:=hd_ hcr;have s1:(1:Int)<=(part.size:Int):=by have:=HS1.out HST.out;omega
    have hr1:(1:Int)<=(r.length:Int)+1:=by omega
    have z1:¬ 9223372036854775807<c.size+(part.size - 1):=by have:=HSZ.out;have:=HF.out.size c (List.mem_of_mem_take hmem);omega
    clear hcr hrow hrow4 hab3 hmem hroom;go_wp2_with (first
     | (go_at_call 110;refine (HT _).mono ?_;rintro e w' ⟨rfl,rfl⟩)
     | (go_at_call 101;refine (HCO _).mono ?_;rintro e w' ⟨rfl,rfl⟩))
    go_region_law (fail)
    have HOW:=hd_ (show wr.drew.ownsRow w2.heap.size 9 1 (zL A2 k c2) k (done.map .string) from HI.out.own);have HBI:=hd_ HI.low.drew;go_wp2_with (at_builtin;refine z0k rfl rfl zac (z0n HOW (zR)) rfl (z0i _ [zS (c++part.extract 1 part.size)] _ 1 1 rfl (by decide) _ (by simp)) rfl (HBI.alloc HBI.size _) (HBI.alloc HBI.size _).size (by simp [Value.oneCell']) (by omega) (by unfold maxLen;omega) ?_;intro A' c' w5 hown5 hbl5)
    have HN:=hd_ (HSS w5 (zL A' (k+1) c') r c _ HST HCR hbl5 (by rw[Zs];exact hown5) HR4)
    clear hown5 hbl5;go_wp2_with fail;go_roundw
    exact⟨k+1,done++[c++za5 part],_,_,_,_,_,by go_num,rfl,rfl,by omega,HN⟩
    simp [intOf];omega
  ·have hke:k=p.kp.length:=by omega
   subst hke;have HIS:=hd_ HI.is;have HFA:Hid (zcl p.kp caps=done):=hd_ (by
    have:=HIS.out;rw[Yd] at this;rw[<- this];unfold zcl;simp)
   have hge:¬((p.kp.length:Int)<(p.kp.length:Int)):=by omega
   have HOW:=hd_ HI.own;have HLW:=hd_ HI.low;have hdl:(caps.drop (zbq p)).length=1:=by rw[Zu,HF.out.len,HBR.out];simp
   obtain⟨c,hcc⟩:=List.length_eq_one_iff.1 hdl;have hrow:=HI.out.row;rw[zbs,hcc] at hrow;obtain⟨hn3,ad3,rfl,hab3,t0⟩:=z20.head (hrow.kw (z0r HA.out HLW.out));have hcm:c∈caps:=ZW (by rw[hcc];exact Zj ..)
   have HCZ:=hd_ (HF.size c hcm);have HCL:=hd_ (HF.last HBR c (by rw[hcc];exact Zj ..))
   have HFB:Hid (zcm p caps=done++[c]):=hd_ (by unfold zcm;rw[HBR.out,HFA.out,if_pos rfl,hcc])
   have HSP:=hd_ (z9e c wr (HE.kw (z0r HA HLW)) (by have:=HCZ.out;omega))
   have HSN:=hd_ (fun q (hq:q∈z1e c.data.toList)=>(z1i hq).2);have HT0:=hd_ t0;have hn0:(0:Int)<(n3:Int):=by rw[hn3];simp
   clear hdl hcc hrow hab3 hcm;go_wp2_with fail;refine HSP.mono ?_;rintro e w5 ⟨rfl,hw5⟩;have hb5:zB wr w5:=hw5 ▸ zR;have hk5:Blk w5 wr.heap.size 9 (z9a (z1e c.data.toList)):=hw5 ▸ z0l wr _ _;have HB5:=hd_ (z0r HLW hb5);have HK5:=hd_ hk5;have HO5:=hd_ (z0n HOW hb5);have HT5:=hd_ (z04 HT0 hb5 (z03 HT0));have hsl:(z1e c.data.toList).length<=1000001:=by have:=z1k c.data.toList;have h2:=HCZ.out;have:c.data.toList.length=c.size:=rfl;omega
   clear hw5 hb5 hk5 t0;generalize z1e c.data.toList=ps at HCL HSN HK5 hsl |-;go_wp2_with fail;go_loop [79] (fun i=>∃ k:Nat,k<=ps.length/\i=zI k) (fun i=>ps.length - (intOf i).toNat)
   exact⟨0,Zg _,rfl⟩
   obtain⟨k,hk,rfl⟩:=hrel;by_cases hlt:k<ps.length
   ·have t1:=HK5.out.strs k hlt;have HCO:=hd_ (fun X=>z1d (baL ps[k]) X (by rw[z9c];have:=HSN.out _ (Za hlt);have:=HCZ.out;have:c.data.toList.length=c.size:=rfl;unfold maxLen;omega))
    have hcp:z0z (baL ps[k])=true:=ZB.1 HCL _ (Za hlt);rw[hcp] at HCO;generalize baL ps[k]=pk at t1 HCO;clear hcp;have hk2:(k:Int)<(ps.length:Int):=by omega
    go_wp2_with (go_at_call 101;refine (HCO _).mono ?_;rintro e w' ⟨rfl,rfl⟩)
    go_round
    exact⟨k+1,by omega,by go_num⟩
    simp [intOf];omega
   ·have hke2:k=ps.length:=by omega
    subst hke2;have hge2:¬((ps.length:Int)<(ps.length:Int)):=by omega
    have t5:=HT5.out;go_wp2_with (at_builtin;refine z0k rfl rfl zac (z0n HO5 (zR)) rfl (z0i _ [zS c] _ 1 1 rfl (by decide) _ (by simp)) rfl (HB5.alloc HB5.size _) (HB5.alloc HB5.size _).size (by simp [Value.oneCell']) (by omega) (by unfold maxLen;omega) ?_;intro A' c' w6 hown6 hbl6)
    have HO6:Hid (w6.ownsRow w2.heap.size 9 1 (zL A' (p.kp.length+1) c') (p.kp.length+1) ((done++[c]).map .string)):=hd_ (by rw[Zs];exact hown6)
    have HB6:=hd_ hbl6;clear hown6 hbl6;obtain⟨gq,cq,eq⟩:=z0s HO6.out (by omega)
    injection eq with eq1 eq2 eq3
    subst eq1 eq3;have hll:(done++[c]).length=p.kp.length+1:=by rw[Zc,HI.out.len];rfl
    have hJ:=z9o ((done++[c]).map (·.data.toList)) gq 0 c' w6 (fun j hj=>by
     rw[Zk] at hj;rw[ZV];have:=(zc0 HO6.out (j:=j) (u:=zS (done++[c])[j]) (by rw[ZA,Ze hj];rfl)).1
     exact this.trans (by rw[zcp])) (by rw[Zk,hll];omega) (by rw[Zk,hll];exact (zcq HO6).1) (by rw[Zk,hll];omega) (by have:=HF.out.join;rw[HFB.out] at this;omega)
    rw[Zk,hll] at hJ;have HJ:=hd_ hJ;have HST:Hid (zcn p caps=baL (z9k ((done++[c]).map (·.data.toList)))):=hd_ (by unfold zcn;rw[HFB.out])
    have hjl:(Lib.join ((done++[c]).map (·.data.toList)) [47]).length<=30000000:=by have:=HF.out.join;rw[HFB.out] at this;exact this
    clear hJ t5;refine HJ.mono ?_;rintro e w7 ⟨rfl,hb7⟩;have HB7:=hd_ (z0r HA (z0r HB6 hb7));have HFS:Hid (zcn p caps=⟨#[47,47]⟩++baL (Lib.join ((done++[c]).map (·.data.toList)) [47])):=hd_ (by
     rw[HST.out];apply z1s
     simp [z9k,baL])
    have hz6:(baL (Lib.join ((done++[c]).map (·.data.toList)) [47])).size<=30000000:=by rw[z9c];exact hjl
    generalize baL (Lib.join ((done++[c]).map (·.data.toList)) [47])=tx at HFS hz6 |-;have z2:¬ 9223372036854775807<2+tx.size:=by omega
    clear hb7 hjl;go_wp2_with fail;go_ret2;exact⟨by rw[HFS.out];rfl,HB7⟩
theorem fill_ok (p:Pat)(caps:List zA)(A:zP)(a:Nat)(cv:zV)(w:zW)(he:Env w)(hp:zbx w (zL A p.kp.length a) p)(hc:z20 w cv caps)(hf:zco p caps):
  Calls prog 162 #[.agg #[zL A p.kp.length a,.bool p.kr],cv] w fun e w'=>e=.returned (.tuple #[zS (zcn p caps),zI 0])/\zB w w':=fill_at p p.kr rfl caps A a cv w he hp hc hf
