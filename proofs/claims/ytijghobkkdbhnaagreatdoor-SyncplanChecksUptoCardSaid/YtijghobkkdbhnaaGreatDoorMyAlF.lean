/- A part. -/
import Derived.Test.YtijghobkkdbhnaaGreatDoorMcw11
set_option linter.unusedVariables false
set_option linter.unusedSimpArgs false
set_option maxHeartbeats 8000000
set_option maxRecDepth 100000
namespace Go.Proofs.YtijghobkkdbhnaaGreatDoor
open Go.Proofs.Tryz
open Go.RowKit
def zb7:List ByteArray→List ByteArray→List ByteArray
 | [],_=>[]
 | x :: xs,cs=>if z7b x then (cs.headD z2q++z82 x) :: zb7 xs cs.tail else x :: zb7 xs cs
def zb8 (p:Pat)(caps:List ByteArray):List ByteArray:=zb7 p.parts caps++(if p.rest then caps.drop (z9c p) else [])
def zb9 (p:Pat)(caps:List ByteArray):ByteArray:=baL (z8q ((zb8 p caps).map (·.data.toList)))
structure zba (p:Pat)(caps:List ByteArray):Prop where
 pat:z7g p=0
 len:caps.length=z9c p+(if p.rest then 1 else 0)
 comp:∀ c∈caps.take (z9c p),z12 c=true
 last:p.rest=true→∀ c∈caps.drop (z9c p),(z1f c.data.toList).all z0z=true
 size:∀ c∈caps,c.size≤1000000
 join:(Lib.join ((zb8 p caps).map (·.data.toList)) [47]).length≤1000000
 some:0<(zb8 p caps).length
theorem zbb {l:List ByteArray}{j:Nat}(h:j<(l.map (·.data.toList)).length):baL (l.map (·.data.toList))[j]=l[j]'(by simpa using h):=by rw[List.getElem_map];rfl
theorem zbc {w:World}{B:Nat}{e:TypeId}{k:Nat}{A:Option Addr}{n c:Nat}{xs:List Value}(h:w.ownsRow B e k (.slice A n c) n xs):n≤c∧c≤maxLen:=by
 obtain⟨A',c',e,h1,h2,-⟩:=Row.of_own h;injection e with e1 e2 e3
 subst e3;exact⟨h1,h2⟩
theorem zbd (w:World):(sizeOf 9).run prog w=.ok 1 w:=by kernel_rfl
theorem zbe {P:Program}{w:World}{t e:TypeId}{size n c:Nat}{A:Option Addr}{xs:List Value}(ht:P.underlying t=some (.slice e))(hs:∀ w,(sizeOf e).run P w=.ok size w)
  (h:Row w size (.slice A n c) n xs) (h1:1≤n):
  ∃ A' c',(∀ X,(Instr.sliceAt t (.slice A n c) (some (.int .i64 1)) none none).run P X=.ok (.slice A' (n - 1) c') X)∧Row w size (.slice A' (n - 1) c') (n - 1) (xs.drop (1 * size)):=by
 have he:P.elem t=e:=by simp [Program.elem,ht]
 have hr:=Row.slice h h1 (Nat.le_refl _);rw[List.take_of_length_le (by rw[List.length_drop,h.len,← Nat.sub_mul];exact Nat.le_refl _)] at hr
 refine⟨_,_,fun X=>?_,hr⟩;have ht':P.underlying t=some (.slice (P.elem t)):=by rw[he];exact ht
 rw[run_sliceAt_slice X t _ _ _ _ ht',run_slice_l X t A n c ht' _ _ (by omega) (by omega),he,hs]
 simp [Result.andThen,sliced]
theorem Strs.tail {w:World}{A:Option Addr}{c n:Nat}{x:ByteArray}{r:List ByteArray}(h:Strs w (.slice A n c) (x :: r)):
  ∃ A' c',(∀ X,(Instr.sliceAt 29 (.slice A n c) (some (.int .i64 1)) none none).run prog X=.ok (.slice A' r.length c') X)∧Strs w (.slice A' r.length c') r:=by
 have hn:n=(x :: r).length:=by obtain⟨A',c',e,-⟩:=id h;injection e
 subst hn;obtain⟨A',c',h1,h2⟩:=zbe (P:=prog) (w:=w) underlying29 zbd h (by simp)
 exact⟨A',c',h1,h2⟩
theorem Strs.tail2 {w:World}{ad:Addr}{c n:Nat}{x:ByteArray}{r:List ByteArray}(h:Strs w (.slice (some ad) n c) (x :: r)):
  Strs w (.slice (if c=1 then some ad else some ⟨ad.block,ad.off+1,none⟩) r.length (c - 1)) r:=by
 obtain⟨A,c',e,h1,h2,h3,h4,h5⟩:=id h;injection e with e1 e2 e3
 subst e1 e3;rw[List.length_cons] at h1 h5;refine⟨_,_,rfl,by omega,by omega,by simp,?_,fun hr=>?_⟩
 ·intro hn;split at hn <;> cases hn
 obtain⟨ad',e',hb,hc⟩:=h5 (by omega)
 injection e' with e'
 subst e';rw[if_neg (by omega)]
 refine⟨_,rfl,hb,fun j u hj=>?_⟩;have:=hc (j+1) u (by simpa using hj)
 unfold Addr.add at this ⊢
 by_cases h0:j=0
 ·subst h0;simpa using this
 ·simpa [Nat.add_assoc,Nat.add_comm 1 j,h0] using this
theorem Strs.head {w:World}{A:Option Addr}{c n:Nat}{x:ByteArray}{r:List ByteArray}(h:Strs w (.slice A n c) (x :: r)):
  n=r.length+1∧∃ ad,A=some ad∧ad.block<w.heap.size∧w.cell? ad=some (.string x):=by
 have hn:n=(x :: r).length:=by obtain⟨A',c',e,-⟩:=id h;injection e
 subst hn;obtain⟨ad,e,hb,hc⟩:=Strs.at_ (k:=0) h (by simp)
 refine⟨rfl,ad,e,hb,?_⟩;have:ad.add 0=ad:=by unfold Addr.add;simp
 rw[this] at hc;exact hc
theorem zbf {l:List ByteArray}{k:Nat}:z9b l k≤(l.filter z7b).length:=by
 unfold z9b;exact ((List.take_sublist k l).filter z7b).length_le
theorem zbg {p:Pat}{k:Nat}(hk:k<p.parts.length)(h:z7b p.parts[k]=true):z9b p.parts k<z9c p:=by
 have h1:=z9d hk;rw[h,if_pos rfl] at h1;have h2:=zbf (l:=p.parts) (k:=k+1);unfold z9c;omega
theorem run_mkS (n:Nat)(hn:n≤1000000)(w:World):∃ w',(Instr.makeSlice 29 (.int .i64 0) (.int .i64 (n+1))).run prog w=.ok (.slice (some ⟨w.heap.size,0,none⟩) 0 (n+1)) w'∧w'.ownsRow w.heap.size 9 1 (.slice (some ⟨w.heap.size,0,none⟩) 0 (n+1)) 0 []∧zB w w':=by
 obtain⟨i0,hi,hz0,hz1,hz2⟩:=info_parts (P:=prog) (e:=9) (z:=.string ⟨#[]⟩) (size:=1) (bytes:=16) (by kernel_rfl)
 obtain⟨w',h1,h2,h3⟩:=run_make_own (P:=prog) w w.heap.size 29 9 i0 (.string ⟨#[]⟩) 1 underlying29 hi hz0 hz1 .i64 .i64 (n+1) (by rw[hz2];omega) (by unfold maxLen;omega) (Nat.le_refl _)
 exact⟨w',h1,h2,⟨h3.os,h3.tape,h3.output,h3.size,fun k hk=>h3.block k hk (by intro e;cases e)⟩⟩
structure FlSt (w w2 wr:World)(parts caps:List ByteArray)(k:Nat)(done:List ByteArray)(cv av:Value):Prop where
 low:zB w2 wr
 own:wr.ownsRow w2.heap.size 9 1 av k (done.map .string)
 len:done.length=k
 is:done++zb7 (parts.drop k) (caps.drop (z9b parts k))=zb7 parts caps
 row:Strs w cv (caps.drop (z9b parts k))
theorem FlSt.plain {w w2 wr wy:World}{parts caps:List ByteArray}{k:Nat}{done:List ByteArray}{cv av av':Value}(h:FlSt w w2 wr parts caps k done cv av)(hk:k<parts.length)(hs:z7b parts[k]=false)(hl:zB w2 wy)(ho:wy.ownsRow w2.heap.size 9 1 av' (k+1) ((done++[parts[k]]).map .string)):
  FlSt w w2 wy parts caps (k+1) (done++[parts[k]]) cv av':=by
 have e:z9b parts (k+1)=z9b parts k:=by rw[z9d hk,hs];rfl
 refine⟨hl,ho,by rw[List.length_append,h.len];rfl,?_,by rw[e];exact h.row⟩
 rw[e,← h.is,List.drop_eq_getElem_cons hk];conv=>rhs;unfold zb7
 rw[hs];simp
theorem FlSt.star {w w2 wr wy:World}{parts caps:List ByteArray}{k:Nat}{done r:List ByteArray}{c:ByteArray}{cv cv' av av':Value}(h:FlSt w w2 wr parts caps k done cv av)(hk:k<parts.length)(hs:z7b parts[k]=true)(hr:caps.drop (z9b parts k)=c :: r)(hl:zB w2 wy)(ho:wy.ownsRow w2.heap.size 9 1 av' (k+1) ((done++[c++z82 parts[k]]).map .string))(hv:Strs w cv' r):
  FlSt w w2 wy parts caps (k+1) (done++[c++z82 parts[k]]) cv' av':=by
 have e:z9b parts (k+1)=z9b parts k+1:=by rw[z9d hk,hs];rfl
 have e2:caps.drop (z9b parts (k+1))=r:=by rw[e,← List.drop_drop,hr];rfl
 refine⟨hl,ho,by rw[List.length_append,h.len];rfl,?_,by rw[e2];exact hv⟩
 rw[e2,← h.is,List.drop_eq_getElem_cons hk,hr];conv=>rhs;unfold zb7
 rw[hs];simp
theorem fill_at (p:Pat)(b:Bool)(hbr:p.rest=b)(caps:List ByteArray)(A:Option Addr)(a:Nat)(cv:Value)(w:World)(he:Env w)(hp:z9j w (.slice A p.parts.length a) p)(hc:Strs w cv caps)(hf:zba p caps):
  Calls prog 188 #[.agg #[.slice A p.parts.length a,.bool b],cv] w fun e w'=>e=.returned (.tuple #[.string (zb9 p caps),.int .i64 0])∧zB w w':=by
 have hB:=z0l w [.slice A p.parts.length a,.bool b] 68;have hA:zB w (w.alloc (.cells #[.slice A p.parts.length a,.bool b] 68)):=(Below.refl _ _).alloc (Nat.le_refl _) _;have HK:Hid (∀ X,zB w X→Calls prog 169 #[.agg #[.slice A p.parts.length a,.bool b]] X (z9g X p)):=hd_ (fun X hX=>by have:=z9h p A a X (hp.below hX).1 hp.small;rw[hbr] at this;exact this)
 have HP:=hd_ hp;have HC:=hd_ hc;have HF:=hd_ hf;have HE:=hd_ he;have hl12:=za7 hf.pat;have hs12:z9c p≤12:=Nat.le_trans (List.length_filter_le ..) hl12;obtain⟨Ac,cc,rfl,-⟩:=id hc;obtain⟨nc,hnc⟩:∃ nc,caps.length=nc:=⟨_,rfl⟩;have hlen:nc=z9c p+(if b then 1 else 0):=hnc.symm.trans (by rw[hf.len,hbr])
 have HNC:=hd_ hnc;rw[hnc];have HBR:=hd_ hbr;clear hp hc hf he hnc hbr;go_enter func188,ntmps188;go_upto_region 1 with fail;generalize w.alloc (.cells #[.slice A p.parts.length a,.bool b] 68)=W1 at hB hA ⊢;have d0:W1.cell? ⟨w.heap.size,0,none⟩=some (.slice A p.parts.length a):=hB.cell 0;have d1:W1.cell? ⟨w.heap.size,1,none⟩=some (.bool b):=hB.cell 1;have HB:=hd_ hB;have HA:=hd_ hA;have HK1:=hd_ (HK.out W1 hA);clear hB hA HK;go_wp2_with fail;refine HK1.out.mono ?_;rintro e w2 ⟨n,b',rfl,hk,hb⟩;obtain⟨rfl,hb'⟩:=hk HF.out.pat;rw[HBR.out] at hb';subst hb';have HA:=hd_ (z0r HA.out hb);have HB:=hd_ (HB.out.below hb HB.out.lt);clear d0 d1 hb HK1 hk;have hpe:z7g p=0:=HF.out.pat;rw[hpe];clear hpe;obtain⟨wm,hmk,hown,hbm⟩:=run_mkS p.parts.length (by omega) w2
 have d0:w2.cell? ⟨w.heap.size,0,none⟩=some (.slice A p.parts.length a):=HB.out.cell 0;have HO:=hd_ hown;have HM:=hd_ hbm;clear hown hbm;have q1:b'=true→((nc:Int) != (z9c p:Int)+1)=false:=fun h=>by rw[hlen,h];simp
 have q2:b'=false→((nc:Int) != (z9c p:Int))=false:=fun h=>by rw[hlen,h];simp
 cases b' with
 | false =>
  have q3:=q2 rfl;clear q1 q2;go_upto_region 7 with fail;have d0:wm.cell? ⟨w.heap.size,0,none⟩=some (.slice A p.parts.length a):=(HB.out.below HM.out HB.out.lt).cell 0;go_wp2_with fail;go_loopw [1,9,49] (fun cvr av i wr=>∃(k:Nat) (done:List ByteArray) (A3:Option Addr) (n3 c3:Nat) (A2:Option Addr) (c2:Nat),i=.int .i64 k∧cvr=.slice A3 n3 c3∧av=.slice A2 k c2∧k≤p.parts.length∧Hid (FlSt w w2 wr p.parts caps k done cvr av)) (fun _ _ i _=>p.parts.length - (intOf i).toNat)
  case atStart=>exact⟨0,[],_,_,_,_,_,rfl,rfl,rfl,Nat.zero_le _,hd_ ⟨HM.out,HO.out,rfl,by simp [z9b],by have:=HC.out;rw[show caps.length=z9c p from by rw[HNC.out,hlen];rfl] at this;simpa [z9b] using this⟩⟩
  case round =>
   obtain⟨k,done,A3,n3,c3,A2,c2,rfl,rfl,rfl,hk,HI⟩:=hrel;clear d0;by_cases hlt:k<p.parts.length
   ·have HPX:=hd_ (HP.out.below (z0r HA.out HI.out.low));obtain⟨ad,rfl,hab,s0⟩:=Strs.at_ HPX.out.1 hlt;have HT:=hd_ (fun X=>z7m p.parts[k] X);have HSZ:=hd_ (HP.out.2 _ (List.getElem_mem hlt));have HLT:=hd_ hlt;have HSP:=hd_ (fun wy av'=>HI.out.plain (wy:=wy) (av':=av') hlt);have HSS:=hd_ (fun wy av' r c cv'=>HI.out.star (wy:=wy) (av':=av') (r:=r) (c:=c) (cv':=cv') hlt);have HRM:=hd_ (fun h=>zbg hlt h);have HS1:Hid (z7b p.parts[k]=true→1≤p.parts[k].size):=hd_ z85;generalize p.parts[k]=part at s0 HT HSP HSS HRM HS1 HSZ;obtain⟨st,hst⟩:∃ st,z7b part=st:=⟨_,rfl⟩;have HST:=hd_ hst;rw[hst] at HT;clear hst hab;have HOW:=hd_ HI.out.own;have HBI:=hd_ HI.out.low;cases st with
    | false =>
     go_wp2_with (first
      | (go_at_call 135;refine (HT.out _).mono ?_;rintro e w' ⟨rfl,rfl⟩)
      | (at_builtin;refine z0k rfl rfl z89 (z0n HOW.out ((Below.refl _ _).alloc (Nat.le_refl _) _)) rfl (z0i _ [.string part] _ 1 1 rfl (by decide) _ (by simp)) rfl (HBI.out.alloc HBI.out.size _) (HBI.out.alloc HBI.out.size _).size (by simp [Value.oneCell']) (by omega) (by unfold maxLen;omega) ?_;intro A' c' w5 hown5 hbl5))
     have HN:=hd_ (HSP.out w5 (.slice A' (k+1) c') HST.out hbl5 (by rw[List.map_append];exact hown5))
     clear hown5 hbl5;go_wp2_with fail;go_roundw
     case rel=>exact⟨k+1,done++[part],_,_,_,_,_,by go_num,rfl,rfl,by omega,HN⟩
     case measure=>simp [intOf];omega
    | true =>
     have hroom:=HRM.out HST.out;obtain⟨c,r,hcr⟩:∃ c r,caps.drop (z9b p.parts k)=c :: r:=by
      cases h:caps.drop (z9b p.parts k) with
      | nil =>
       have:=List.drop_eq_nil_iff.1 h;have h3:=HF.out.len;omega
      | cons c r=>exact⟨c,r,rfl⟩
     have hrow:=HI.out.row;rw[hcr] at hrow;obtain⟨hn3,ad3,rfl,hab3,t0⟩:=Strs.head (hrow.below (z0r HA.out HI.out.low));have hrow4:=Strs.tail2 hrow;have hmem:c∈caps.take (z9c p):=by
      have:c=caps[z9b p.parts k]'(by have h3:=HF.out.len;omega):=by
       have:=List.drop_eq_getElem_cons (l:=caps) (i:=z9b p.parts k) (by have h3:=HF.out.len;omega)
       rw[hcr] at this;injection this
      rw[this];exact List.mem_take_iff_getElem.2 ⟨z9b p.parts k,by have h3:=HF.out.len;omega,rfl⟩
     have HCO:=hd_ (fun X=>z1e c X (by have:=HF.out.size c (List.mem_of_mem_take hmem);unfold maxLen;omega))
     rw[HF.out.comp c hmem] at HCO;have HR4:=hd_ hrow4;have HCR:=hd_ hcr;have s1:(1:Int)≤(part.size:Int):=by have:=HS1.out HST.out;omega
     have hr1:(1:Int)≤(r.length:Int)+1:=by omega
     have z1:¬ 9223372036854775807<c.size+(part.size - 1):=by have:=HSZ.out;have:=HF.out.size c (List.mem_of_mem_take hmem);omega
     clear hcr hrow hrow4 hab3 hmem hroom;go_wp2_with (first
      | (go_at_call 135;refine (HT.out _).mono ?_;rintro e w' ⟨rfl,rfl⟩)
      | (go_at_call 127;refine (HCO.out _).mono ?_;rintro e w' ⟨rfl,rfl⟩))
     go_region_law (fail)
     have HOW:=hd_ (show wr.drew.ownsRow w2.heap.size 9 1 (.slice A2 k c2) k (done.map .string) from HI.out.own);have HBI:=hd_ HI.out.low.drew;go_wp2_with (at_builtin;refine z0k rfl rfl z89 (z0n HOW.out ((Below.refl _ _).alloc (Nat.le_refl _) _)) rfl (z0i _ [.string (c++part.extract 1 part.size)] _ 1 1 rfl (by decide) _ (by simp)) rfl (HBI.out.alloc HBI.out.size _) (HBI.out.alloc HBI.out.size _).size (by simp [Value.oneCell']) (by omega) (by unfold maxLen;omega) ?_;intro A' c' w5 hown5 hbl5)
     have HN:=hd_ (HSS.out w5 (.slice A' (k+1) c') r c _ HST.out HCR.out hbl5 (by rw[List.map_append];exact hown5) HR4.out)
     clear hown5 hbl5;go_wp2_with fail;go_roundw
     case rel=>exact⟨k+1,done++[c++z82 part],_,_,_,_,_,by go_num,rfl,rfl,by omega,HN⟩
     case measure=>simp [intOf];omega
   ·have hke:k=p.parts.length:=by omega
    subst hke;have HIS:=hd_ HI.out.is;have HFA:Hid (zb7 p.parts caps=done):=hd_ (by
     have:=HIS.out;rw[List.drop_length] at this;rw[← this];unfold zb7;simp)
    have hge:¬((p.parts.length:Int)<(p.parts.length:Int)):=by omega
    have HOW:=hd_ HI.out.own;have HLW:=hd_ HI.out.low;have HFB:Hid (zb8 p caps=done):=hd_ (by unfold zb8;rw[HBR.out,HFA.out];simp)
    have hpos:0<p.parts.length:=by have h1:=HF.out.some;rw[HFB.out,HI.out.len] at h1;exact h1
    obtain⟨gq,cq,eq⟩:=z0s HOW.out hpos;injection eq with eq1 eq2 eq3
    subst eq1 eq3;have hJ:=z8u (done.map (·.data.toList)) gq 0 c2 wr (fun j hj=>by
     rw[List.length_map] at hj;rw[Nat.zero_add];have:=(z9x HOW.out (j:=j) (u:=.string done[j]) (by simp [hj])).1
     rw[this];simp [baL]) (by rw[List.length_map,HI.out.len];exact hpos) (by rw[List.length_map,HI.out.len];exact (zbc HOW.out).1) (by rw[List.length_map,HI.out.len];omega) (by have:=HF.out.join;rw[HFB.out] at this;omega)
    rw[List.length_map,HI.out.len] at hJ;have HJ:=hd_ hJ;have HST:Hid (zb9 p caps=baL (z8q (done.map (·.data.toList)))):=hd_ (by unfold zb9;rw[HFB.out])
    have hjl:(Lib.join (done.map (·.data.toList)) [47]).length≤1000000:=by have:=HF.out.join;rw[HFB.out] at this;exact this
    clear hJ;go_wp2_with fail;refine HJ.out.mono ?_;rintro e w6 ⟨rfl,hb6⟩;have HB6:=hd_ (z0r HA.out (z0r HLW.out hb6));have HFS:Hid (zb9 p caps=⟨#[47,47]⟩++baL (Lib.join (done.map (·.data.toList)) [47])):=hd_ (by
     rw[HST.out];apply z1r
     simp [z8q,baL])
    have hz6:(baL (Lib.join (done.map (·.data.toList)) [47])).size≤1000000:=by rw[z6z];exact hjl
    generalize baL (Lib.join (done.map (·.data.toList)) [47])=tx at HFS hz6;have z2:¬ 9223372036854775807<2+tx.size:=by omega
    clear hb6 hjl;go_wp2_with fail;go_ret2;exact⟨by rw[HFS.out];rfl,HB6.out⟩
 | true =>
  have q3:=q1 rfl;clear q1 q2;go_upto_region 7 with fail;have d0:wm.cell? ⟨w.heap.size,0,none⟩=some (.slice A p.parts.length a):=(HB.out.below HM.out HB.out.lt).cell 0;go_wp2_with fail;go_loopw [1,9,49] (fun cvr av i wr=>∃(k:Nat) (done:List ByteArray) (A3:Option Addr) (n3 c3:Nat) (A2:Option Addr) (c2:Nat),i=.int .i64 k∧cvr=.slice A3 n3 c3∧av=.slice A2 k c2∧k≤p.parts.length∧Hid (FlSt w w2 wr p.parts caps k done cvr av)) (fun _ _ i _=>p.parts.length - (intOf i).toNat)
  case atStart=>exact⟨0,[],_,_,_,_,_,rfl,rfl,rfl,Nat.zero_le _,hd_ ⟨HM.out,HO.out,rfl,by simp [z9b],by have:=HC.out;rw[show caps.length=z9c p+1 from by rw[HNC.out,hlen];rfl] at this;simpa [z9b] using this⟩⟩
  case round =>
   obtain⟨k,done,A3,n3,c3,A2,c2,rfl,rfl,rfl,hk,HI⟩:=hrel;clear d0;by_cases hlt:k<p.parts.length
   ·have HPX:=hd_ (HP.out.below (z0r HA.out HI.out.low));obtain⟨ad,rfl,hab,s0⟩:=Strs.at_ HPX.out.1 hlt;have HT:=hd_ (fun X=>z7m p.parts[k] X);have HSZ:=hd_ (HP.out.2 _ (List.getElem_mem hlt));have HLT:=hd_ hlt;have HSP:=hd_ (fun wy av'=>HI.out.plain (wy:=wy) (av':=av') hlt);have HSS:=hd_ (fun wy av' r c cv'=>HI.out.star (wy:=wy) (av':=av') (r:=r) (c:=c) (cv':=cv') hlt);have HRM:=hd_ (fun h=>zbg hlt h);have HS1:Hid (z7b p.parts[k]=true→1≤p.parts[k].size):=hd_ z85;generalize p.parts[k]=part at s0 HT HSP HSS HRM HS1 HSZ;obtain⟨st,hst⟩:∃ st,z7b part=st:=⟨_,rfl⟩;have HST:=hd_ hst;rw[hst] at HT;clear hst hab;have HOW:=hd_ HI.out.own;have HBI:=hd_ HI.out.low;cases st with
    | false =>
     go_wp2_with (first
      | (go_at_call 135;refine (HT.out _).mono ?_;rintro e w' ⟨rfl,rfl⟩)
      | (at_builtin;refine z0k rfl rfl z89 (z0n HOW.out ((Below.refl _ _).alloc (Nat.le_refl _) _)) rfl (z0i _ [.string part] _ 1 1 rfl (by decide) _ (by simp)) rfl (HBI.out.alloc HBI.out.size _) (HBI.out.alloc HBI.out.size _).size (by simp [Value.oneCell']) (by omega) (by unfold maxLen;omega) ?_;intro A' c' w5 hown5 hbl5))
     have HN:=hd_ (HSP.out w5 (.slice A' (k+1) c') HST.out hbl5 (by rw[List.map_append];exact hown5))
     clear hown5 hbl5;go_wp2_with fail;go_roundw
     case rel=>exact⟨k+1,done++[part],_,_,_,_,_,by go_num,rfl,rfl,by omega,HN⟩
     case measure=>simp [intOf];omega
    | true =>
     have hroom:=HRM.out HST.out;obtain⟨c,r,hcr⟩:∃ c r,caps.drop (z9b p.parts k)=c :: r:=by
      cases h:caps.drop (z9b p.parts k) with
      | nil =>
       have:=List.drop_eq_nil_iff.1 h;have h3:=HF.out.len;omega
      | cons c r=>exact⟨c,r,rfl⟩
     have hrow:=HI.out.row;rw[hcr] at hrow;obtain⟨hn3,ad3,rfl,hab3,t0⟩:=Strs.head (hrow.below (z0r HA.out HI.out.low));have hrow4:=Strs.tail2 hrow;have hmem:c∈caps.take (z9c p):=by
      have:c=caps[z9b p.parts k]'(by have h3:=HF.out.len;omega):=by
       have:=List.drop_eq_getElem_cons (l:=caps) (i:=z9b p.parts k) (by have h3:=HF.out.len;omega)
       rw[hcr] at this;injection this
      rw[this];exact List.mem_take_iff_getElem.2 ⟨z9b p.parts k,by have h3:=HF.out.len;omega,rfl⟩
     have HCO:=hd_ (fun X=>z1e c X (by have:=HF.out.size c (List.mem_of_mem_take hmem);unfold maxLen;omega))
     rw[HF.out.comp c hmem] at HCO;have HR4:=hd_ hrow4;have HCR:=hd_ hcr;have s1:(1:Int)≤(part.size:Int):=by have:=HS1.out HST.out;omega
     have hr1:(1:Int)≤(r.length:Int)+1:=by omega
     have z1:¬ 9223372036854775807<c.size+(part.size - 1):=by have:=HSZ.out;have:=HF.out.size c (List.mem_of_mem_take hmem);omega
     clear hcr hrow hrow4 hab3 hmem hroom;go_wp2_with (first
      | (go_at_call 135;refine (HT.out _).mono ?_;rintro e w' ⟨rfl,rfl⟩)
      | (go_at_call 127;refine (HCO.out _).mono ?_;rintro e w' ⟨rfl,rfl⟩))
     go_region_law (fail)
     have HOW:=hd_ (show wr.drew.ownsRow w2.heap.size 9 1 (.slice A2 k c2) k (done.map .string) from HI.out.own);have HBI:=hd_ HI.out.low.drew;go_wp2_with (at_builtin;refine z0k rfl rfl z89 (z0n HOW.out ((Below.refl _ _).alloc (Nat.le_refl _) _)) rfl (z0i _ [.string (c++part.extract 1 part.size)] _ 1 1 rfl (by decide) _ (by simp)) rfl (HBI.out.alloc HBI.out.size _) (HBI.out.alloc HBI.out.size _).size (by simp [Value.oneCell']) (by omega) (by unfold maxLen;omega) ?_;intro A' c' w5 hown5 hbl5)
     have HN:=hd_ (HSS.out w5 (.slice A' (k+1) c') r c _ HST.out HCR.out hbl5 (by rw[List.map_append];exact hown5) HR4.out)
     clear hown5 hbl5;go_wp2_with fail;go_roundw
     case rel=>exact⟨k+1,done++[c++z82 part],_,_,_,_,_,by go_num,rfl,rfl,by omega,HN⟩
     case measure=>simp [intOf];omega
   ·have hke:k=p.parts.length:=by omega
    subst hke;have HIS:=hd_ HI.out.is;have HFA:Hid (zb7 p.parts caps=done):=hd_ (by
     have:=HIS.out;rw[List.drop_length] at this;rw[← this];unfold zb7;simp)
    have hge:¬((p.parts.length:Int)<(p.parts.length:Int)):=by omega
    have HOW:=hd_ HI.out.own;have HLW:=hd_ HI.out.low;have hdl:(caps.drop (z9c p)).length=1:=by rw[List.length_drop,HF.out.len,HBR.out];simp
    obtain⟨c,hcc⟩:=List.length_eq_one_iff.1 hdl;have hrow:=HI.out.row;rw[z9e,hcc] at hrow;obtain⟨hn3,ad3,rfl,hab3,t0⟩:=Strs.head (hrow.below (z0r HA.out HLW.out));have hcm:c∈caps:=List.mem_of_mem_drop (by rw[hcc];exact List.mem_cons_self ..)
    have HCZ:=hd_ (HF.out.size c hcm);have HCL:=hd_ (HF.out.last HBR.out c (by rw[hcc];exact List.mem_cons_self ..))
    have HFB:Hid (zb8 p caps=done++[c]):=hd_ (by unfold zb8;rw[HBR.out,HFA.out,if_pos rfl,hcc])
    have HSP:=hd_ (z73 c wr (HE.out.below (z0r HA.out HLW.out)) (by have:=HCZ.out;omega))
    have HSN:=hd_ (fun q (hq:q∈z1f c.data.toList)=>(z1j hq).2);have HT0:=hd_ t0;have hn0:(0:Int)<(n3:Int):=by rw[hn3];simp
    clear hdl hcc hrow hab3 hcm;go_wp2_with fail;refine HSP.out.mono ?_;rintro e w5 ⟨rfl,hw5⟩;have hb5:zB wr w5:=hw5 ▸ (Below.refl _ _).alloc (Nat.le_refl _) _;have hk5:Blk w5 wr.heap.size 9 (z6x (z1f c.data.toList)):=hw5 ▸ z0l wr _ _;have HB5:=hd_ (z0r HLW.out hb5);have HK5:=hd_ hk5;have HO5:=hd_ (z0n HOW.out hb5);have HT5:=hd_ (z04 HT0.out hb5 (z03 HT0.out));have hsl:(z1f c.data.toList).length≤1000001:=by have:=z1l c.data.toList;have h2:=HCZ.out;have:c.data.toList.length=c.size:=rfl;omega
    clear hw5 hb5 hk5 t0;generalize z1f c.data.toList=ps at HCL HSN HK5 hsl ⊢;go_wp2_with fail;go_loop [79] (fun i=>∃ k:Nat,k≤ps.length∧i=.int .i64 k) (fun i=>ps.length - (intOf i).toNat)
    case atStart=>exact⟨0,Nat.zero_le _,rfl⟩
    case round =>
     obtain⟨k,hk,rfl⟩:=hrel;by_cases hlt:k<ps.length
     ·have t1:=HK5.out.strs k hlt;have HCO:=hd_ (fun X=>z1e (baL ps[k]) X (by rw[z6z];have:=HSN.out _ (List.getElem_mem hlt);have:=HCZ.out;have:c.data.toList.length=c.size:=rfl;unfold maxLen;omega))
      have hcp:z12 (baL ps[k])=true:=List.all_eq_true.1 HCL.out _ (List.getElem_mem hlt);rw[hcp] at HCO;generalize baL ps[k]=pk at t1 HCO;clear hcp;have hk2:(k:Int)<(ps.length:Int):=by omega
      go_wp2_with (go_at_call 127;refine (HCO.out _).mono ?_;rintro e w' ⟨rfl,rfl⟩)
      go_round
      case rel=>exact⟨k+1,by omega,by go_num⟩
      case measure=>simp [intOf];omega
     ·have hke2:k=ps.length:=by omega
      subst hke2;have hge2:¬((ps.length:Int)<(ps.length:Int)):=by omega
      have t5:=HT5.out;go_wp2_with (at_builtin;refine z0k rfl rfl z89 (z0n HO5.out ((Below.refl _ _).alloc (Nat.le_refl _) _)) rfl (z0i _ [.string c] _ 1 1 rfl (by decide) _ (by simp)) rfl (HB5.out.alloc HB5.out.size _) (HB5.out.alloc HB5.out.size _).size (by simp [Value.oneCell']) (by omega) (by unfold maxLen;omega) ?_;intro A' c' w6 hown6 hbl6)
      have HO6:Hid (w6.ownsRow w2.heap.size 9 1 (.slice A' (p.parts.length+1) c') (p.parts.length+1) ((done++[c]).map .string)):=hd_ (by rw[List.map_append];exact hown6)
      have HB6:=hd_ hbl6;clear hown6 hbl6;obtain⟨gq,cq,eq⟩:=z0s HO6.out (by omega)
      injection eq with eq1 eq2 eq3
      subst eq1 eq3;have hll:(done++[c]).length=p.parts.length+1:=by rw[List.length_append,HI.out.len];rfl
      have hJ:=z8u ((done++[c]).map (·.data.toList)) gq 0 c' w6 (fun j hj=>by
       rw[List.length_map] at hj;rw[Nat.zero_add];have:=(z9x HO6.out (j:=j) (u:=.string (done++[c])[j]) (by rw[List.getElem?_map,List.getElem?_eq_getElem hj];rfl)).1
       exact this.trans (by rw[zbb])) (by rw[List.length_map,hll];omega) (by rw[List.length_map,hll];exact (zbc HO6.out).1) (by rw[List.length_map,hll];omega) (by have:=HF.out.join;rw[HFB.out] at this;omega)
      rw[List.length_map,hll] at hJ;have HJ:=hd_ hJ;have HST:Hid (zb9 p caps=baL (z8q ((done++[c]).map (·.data.toList)))):=hd_ (by unfold zb9;rw[HFB.out])
      have hjl:(Lib.join ((done++[c]).map (·.data.toList)) [47]).length≤1000000:=by have:=HF.out.join;rw[HFB.out] at this;exact this
      clear hJ t5;refine HJ.out.mono ?_;rintro e w7 ⟨rfl,hb7⟩;have HB7:=hd_ (z0r HA.out (z0r HB6.out hb7));have HFS:Hid (zb9 p caps=⟨#[47,47]⟩++baL (Lib.join ((done++[c]).map (·.data.toList)) [47])):=hd_ (by
       rw[HST.out];apply z1r
       simp [z8q,baL])
      have hz6:(baL (Lib.join ((done++[c]).map (·.data.toList)) [47])).size≤1000000:=by rw[z6z];exact hjl
      generalize baL (Lib.join ((done++[c]).map (·.data.toList)) [47])=tx at HFS hz6 ⊢;have z2:¬ 9223372036854775807<2+tx.size:=by omega
      clear hb7 hjl;go_wp2_with fail;go_ret2;exact⟨by rw[HFS.out];rfl,HB7.out⟩
theorem fill_ok (p:Pat)(caps:List ByteArray)(A:Option Addr)(a:Nat)(cv:Value)(w:World)(he:Env w)(hp:z9j w (.slice A p.parts.length a) p)(hc:Strs w cv caps)(hf:zba p caps):
  Calls prog 188 #[.agg #[.slice A p.parts.length a,.bool p.rest],cv] w fun e w'=>e=.returned (.tuple #[.string (zb9 p caps),.int .i64 0])∧zB w w':=fill_at p p.rest rfl caps A a cv w he hp hc hf
