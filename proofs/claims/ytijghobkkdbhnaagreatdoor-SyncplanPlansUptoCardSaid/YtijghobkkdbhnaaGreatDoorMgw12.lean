/- A part. -/
import Derived.Test.YtijghobkkdbhnaaGreatDoorMgw9
import Derived.Test.YtijghobkkdbhnaaGreatDoorMzAlE
import Derived.Test.YtijghobkkdbhnaaGreatDoorMgw11
set_option linter.unusedVariables false
set_option linter.unusedSimpArgs false
set_option maxHeartbeats 8000000
set_option maxRecDepth 100000
namespace Go.Proofs.YtijghobkkdbhnaaGreatDoor
open Go.Proofs.Tryz
open Go.RowKit
def zbx:List ByteArray→List ByteArray→List ByteArray
 | [],_=>[]
 | x :: xs,cs=>if z7e x then (cs.headD z2l++z85 x) :: zbx xs cs.tail else x :: zbx xs cs
def zby (p:Pat)(caps:List ByteArray):List ByteArray:=zbx p.parts caps++(if p.rest then caps.drop (za7 p) else [])
def zbz (p:Pat)(caps:List ByteArray):ByteArray:=baL (z8o ((zby p caps).map (·.data.toList)))
structure zc0 (p:Pat)(caps:List ByteArray):Prop where
 pat:z7j p=0
 len:caps.length=za7 p+(if p.rest then 1 else 0)
 comp:∀ c∈caps.take (za7 p),z0v c=true
 last:p.rest=true→∀ c∈caps.drop (za7 p),(z1a c.data.toList).all z0u=true
 size:∀ c∈caps,c.size≤1000000
 join:(Lib.join ((zby p caps).map (·.data.toList)) [47]).length≤1000000
 some:0<(zby p caps).length
theorem zc1 {l:List ByteArray}{j:Nat}(h:j<(l.map (·.data.toList)).length):baL (l.map (·.data.toList))[j]=l[j]'(by simpa using h):=by rw[List.getElem_map];rfl
theorem zc2 {w:World}{B:Nat}{e:TypeId}{k:Nat}{A:Option Addr}{n c:Nat}{xs:List Value}(h:w.ownsRow B e k (.slice A n c) n xs):n≤c∧c≤maxLen:=by
 obtain⟨A',c',e,h1,h2,-⟩:=Row.of_own h;injection e with e1 e2 e3
 subst e3;exact⟨h1,h2⟩
theorem zc3 (w:World):(sizeOf 9).run prog w=.ok 1 w:=by kernel_rfl
theorem zc4 {P:Program}{w:World}{t e:TypeId}{size n c:Nat}{A:Option Addr}{xs:List Value}(ht:P.underlying t=some (.slice e))(hs:∀ w,(sizeOf e).run P w=.ok size w)
  (h:Row w size (.slice A n c) n xs) (h1:1≤n):
  ∃ A' c',(∀ X,(Instr.sliceAt t (.slice A n c) (some (.int .i64 1)) none none).run P X=.ok (.slice A' (n - 1) c') X)∧Row w size (.slice A' (n - 1) c') (n - 1) (xs.drop (1 * size)):=by
 have he:P.elem t=e:=by simp [Program.elem,ht]
 have hr:=Row.slice h h1 (Nat.le_refl _);rw[List.take_of_length_le (by rw[List.length_drop,h.len,← Nat.sub_mul];exact Nat.le_refl _)] at hr
 refine⟨_,_,fun X=>?_,hr⟩;have ht':P.underlying t=some (.slice (P.elem t)):=by rw[he];exact ht
 rw[run_sliceAt_slice X t _ _ _ _ ht',run_slice_l X t A n c ht' _ _ (by omega) (by omega),he,hs]
 simp [Result.andThen,sliced]
theorem Strs.tail {w:World}{A:Option Addr}{c n:Nat}{x:ByteArray}{r:List ByteArray}(h:Strs w (.slice A n c) (x :: r)):
  ∃ A' c',(∀ X,(Instr.sliceAt 29 (.slice A n c) (some (.int .i64 1)) none none).run prog X=.ok (.slice A' r.length c') X)∧Strs w (.slice A' r.length c') r:=by
 have hn:n=(x :: r).length:=by obtain⟨A',c',e,-⟩:=id h;injection e
 subst hn;obtain⟨A',c',h1,h2⟩:=zc4 (P:=prog) (w:=w) underlying29 zc3 h (by simp)
 exact⟨A',c',h1,h2⟩
theorem Strs.tail2 {w:World}{ad:Addr}{c n:Nat}{x:ByteArray}{r:List ByteArray}(h:Strs w (.slice (some ad) n c) (x :: r)):
  Strs w (.slice (if c=1 then some ad else some ⟨ad.block,ad.off+1,none⟩) r.length (c - 1)) r:=by
 obtain⟨A,c',e,h1,h2,h3,h4,h5⟩:=id h;injection e with e1 e2 e3
 subst e1 e3;rw[List.length_cons] at h1 h5;refine⟨_,_,rfl,by omega,by omega,by simp,?_,fun hr=>?_⟩
 ·intro hn;split at hn <;> cases hn
 obtain⟨ad',e',hb,hc⟩:=h5 (by omega)
 injection e' with e'
 subst e';rw[if_neg (by omega)]
 refine⟨_,rfl,hb,fun j u hj=>?_⟩;have:=hc (j+1) u (by simpa using hj)
 unfold Addr.add at this ⊢
 by_cases h0:j=0
 ·subst h0;simpa using this
 ·simpa [Nat.add_assoc,Nat.add_comm 1 j,h0] using this
theorem Strs.head {w:World}{A:Option Addr}{c n:Nat}{x:ByteArray}{r:List ByteArray}(h:Strs w (.slice A n c) (x :: r)):
  n=r.length+1∧∃ ad,A=some ad∧ad.block<w.heap.size∧w.cell? ad=some (.string x):=by
 have hn:n=(x :: r).length:=by obtain⟨A',c',e,-⟩:=id h;injection e
 subst hn;obtain⟨ad,e,hb,hc⟩:=Strs.at_ (k:=0) h (by simp)
 refine⟨rfl,ad,e,hb,?_⟩;have:ad.add 0=ad:=by unfold Addr.add;simp
 rw[this] at hc;exact hc
theorem zc5 {l:List ByteArray}{k:Nat}:za6 l k≤(l.filter z7e).length:=by
 unfold za6;exact ((List.take_sublist k l).filter z7e).length_le
theorem zc6 {p:Pat}{k:Nat}(hk:k<p.parts.length)(h:z7e p.parts[k]=true):za6 p.parts k<za7 p:=by
 have h1:=za8 hk;rw[h,if_pos rfl] at h1;have h2:=zc5 (l:=p.parts) (k:=k+1);unfold za7;omega
theorem run_mkS (n:Nat)(hn:n≤1000000)(w:World):∃ w',(Instr.makeSlice 29 (.int .i64 0) (.int .i64 (n+1))).run prog w=.ok (.slice (some ⟨w.heap.size,0,none⟩) 0 (n+1)) w'∧w'.ownsRow w.heap.size 9 1 (.slice (some ⟨w.heap.size,0,none⟩) 0 (n+1)) 0 []∧Below w.heap.size w w':=by
 obtain⟨i0,hi,hz0,hz1,hz2⟩:=info_parts (P:=prog) (e:=9) (z:=.string ⟨#[]⟩) (size:=1) (bytes:=16) (by kernel_rfl)
 obtain⟨w',h1,h2,h3⟩:=run_make_own (P:=prog) w w.heap.size 29 9 i0 (.string ⟨#[]⟩) 1 underlying29 hi hz0 hz1 .i64 .i64 (n+1) (by rw[hz2];omega) (by unfold maxLen;omega) (Nat.le_refl _)
 exact⟨w',h1,h2,⟨h3.os,h3.tape,h3.output,h3.size,fun k hk=>h3.block k hk (by intro e;cases e)⟩⟩
structure FlSt (w w2 wr:World)(parts caps:List ByteArray)(k:Nat)(done:List ByteArray)(cv av:Value):Prop where
 low:Below w2.heap.size w2 wr
 own:wr.ownsRow w2.heap.size 9 1 av k (done.map .string)
 len:done.length=k
 is:done++zbx (parts.drop k) (caps.drop (za6 parts k))=zbx parts caps
 row:Strs w cv (caps.drop (za6 parts k))
theorem FlSt.plain {w w2 wr wy:World}{parts caps:List ByteArray}{k:Nat}{done:List ByteArray}{cv av av':Value}(h:FlSt w w2 wr parts caps k done cv av)(hk:k<parts.length)(hs:z7e parts[k]=false)(hl:Below w2.heap.size w2 wy)(ho:wy.ownsRow w2.heap.size 9 1 av' (k+1) ((done++[parts[k]]).map .string)):
  FlSt w w2 wy parts caps (k+1) (done++[parts[k]]) cv av':=by
 have e:za6 parts (k+1)=za6 parts k:=by rw[za8 hk,hs];rfl
 refine⟨hl,ho,by rw[List.length_append,h.len];rfl,?_,by rw[e];exact h.row⟩
 rw[e,← h.is,List.drop_eq_getElem_cons hk];conv=>rhs;unfold zbx
 rw[hs];simp
theorem FlSt.star {w w2 wr wy:World}{parts caps:List ByteArray}{k:Nat}{done r:List ByteArray}{c:ByteArray}{cv cv' av av':Value}(h:FlSt w w2 wr parts caps k done cv av)(hk:k<parts.length)(hs:z7e parts[k]=true)(hr:caps.drop (za6 parts k)=c :: r)(hl:Below w2.heap.size w2 wy)(ho:wy.ownsRow w2.heap.size 9 1 av' (k+1) ((done++[c++z85 parts[k]]).map .string))(hv:Strs w cv' r):
  FlSt w w2 wy parts caps (k+1) (done++[c++z85 parts[k]]) cv' av':=by
 have e:za6 parts (k+1)=za6 parts k+1:=by rw[za8 hk,hs];rfl
 have e2:caps.drop (za6 parts (k+1))=r:=by rw[e,← List.drop_drop,hr];rfl
 refine⟨hl,ho,by rw[List.length_append,h.len];rfl,?_,by rw[e2];exact hv⟩
 rw[e2,← h.is,List.drop_eq_getElem_cons hk,hr];conv=>rhs;unfold zbx
 rw[hs];simp
theorem fill_at (p:Pat)(b:Bool)(hbr:p.rest=b)(caps:List ByteArray)(A:Option Addr)(a:Nat)(cv:Value)(w:World)(he:Env w)(hp:zae w (.slice A p.parts.length a) p)(hc:Strs w cv caps)(hf:zc0 p caps):
  Calls prog 188 #[.agg #[.slice A p.parts.length a,.bool b],cv] w fun e w'=>e=.returned (.tuple #[.string (zbz p caps),.int .i64 0])∧Below w.heap.size w w':=by
 have hB:=z0l w [.slice A p.parts.length a,.bool b] 68;have hA:Below w.heap.size w (w.alloc (.cells #[.slice A p.parts.length a,.bool b] 68)):=(Below.refl _ _).alloc (Nat.le_refl _) _;have HK:Hid (∀ X,Below w.heap.size w X→Calls prog 169 #[.agg #[.slice A p.parts.length a,.bool b]] X (zab X p)):=hd_ (fun X hX=>by have:=zac p A a X (hp.below hX).1 hp.small;rw[hbr] at this;exact this)
 have HP:=hd_ hp;have HC:=hd_ hc;have HF:=hd_ hf;have HE:=hd_ he;have hl12:=zat hf.pat;have hs12:za7 p≤12:=Nat.le_trans (List.length_filter_le ..) hl12;obtain⟨Ac,cc,rfl,-⟩:=id hc;obtain⟨nc,hnc⟩:∃ nc,caps.length=nc:=⟨_,rfl⟩;have hlen:nc=za7 p+(if b then 1 else 0):=hnc.symm.trans (by rw[hf.len,hbr])
 have HNC:=hd_ hnc;rw[hnc];have HBR:=hd_ hbr;clear hp hc hf he hnc hbr;go_enter func188,ntmps188;go_upto_region 1 with fail;generalize w.alloc (.cells #[.slice A p.parts.length a,.bool b] 68)=W1 at hB hA ⊢;have d0:W1.cell? ⟨w.heap.size,0,none⟩=some (.slice A p.parts.length a):=hB.cell 0;have d1:W1.cell? ⟨w.heap.size,1,none⟩=some (.bool b):=hB.cell 1;have HB:=hd_ hB;have HA:=hd_ hA;have HK1:=hd_ (HK.out W1 hA);clear hB hA HK;go_wp2_with fail;refine HK1.out.mono ?_;rintro e w2 ⟨n,b',rfl,hk,hb⟩;obtain⟨rfl,hb'⟩:=hk HF.out.pat;rw[HBR.out] at hb';subst hb';have HA:=hd_ (z0r HA.out hb);have HB:=hd_ (HB.out.below hb HB.out.lt);clear d0 d1 hb HK1 hk;have hpe:z7j p=0:=HF.out.pat;rw[hpe];clear hpe;obtain⟨wm,hmk,hown,hbm⟩:=run_mkS p.parts.length (by omega) w2
 have d0:w2.cell? ⟨w.heap.size,0,none⟩=some (.slice A p.parts.length a):=HB.out.cell 0;have HO:=hd_ hown;have HM:=hd_ hbm;clear hown hbm;have q1:b'=true→((nc:Int) != (za7 p:Int)+1)=false:=fun h=>by rw[hlen,h];simp
 have q2:b'=false→((nc:Int) != (za7 p:Int))=false:=fun h=>by rw[hlen,h];simp
 cases b' with
 | false =>
  have q3:=q2 rfl;clear q1 q2;go_upto_region 7 with fail;have d0:wm.cell? ⟨w.heap.size,0,none⟩=some (.slice A p.parts.length a):=(HB.out.below HM.out HB.out.lt).cell 0;go_wp2_with fail;go_loopw [1,9,49] (fun cvr av i wr=>∃(k:Nat) (done:List ByteArray) (A3:Option Addr) (n3 c3:Nat) (A2:Option Addr) (c2:Nat),i=.int .i64 k∧cvr=.slice A3 n3 c3∧av=.slice A2 k c2∧k≤p.parts.length∧Hid (FlSt w w2 wr p.parts caps k done cvr av)) (fun _ _ i _=>p.parts.length - (intOf i).toNat)
  case atStart=>exact⟨0,[],_,_,_,_,_,rfl,rfl,rfl,Nat.zero_le _,hd_ ⟨HM.out,HO.out,rfl,by simp [za6],by have:=HC.out;rw[show caps.length=za7 p from by rw[HNC.out,hlen];rfl] at this;simpa [za6] using this⟩⟩
  case round =>
   obtain⟨k,done,A3,n3,c3,A2,c2,rfl,rfl,rfl,hk,HI⟩:=hrel;clear d0;by_cases hlt:k<p.parts.length
   ·have HPX:=hd_ (HP.out.below (z0r HA.out HI.out.low));obtain⟨ad,rfl,hab,s0⟩:=Strs.at_ HPX.out.1 hlt;have HT:=hd_ (fun X=>z7p p.parts[k] X);have HSZ:=hd_ (HP.out.2 _ (List.getElem_mem hlt));have HLT:=hd_ hlt;have HSP:=hd_ (fun wy av'=>HI.out.plain (wy:=wy) (av':=av') hlt);have HSS:=hd_ (fun wy av' r c cv'=>HI.out.star (wy:=wy) (av':=av') (r:=r) (c:=c) (cv':=cv') hlt);have HRM:=hd_ (fun h=>zc6 hlt h);have HS1:Hid (z7e p.parts[k]=true→1≤p.parts[k].size):=hd_ z88;generalize p.parts[k]=part at s0 HT HSP HSS HRM HS1 HSZ;obtain⟨st,hst⟩:∃ st,z7e part=st:=⟨_,rfl⟩;have HST:=hd_ hst;rw[hst] at HT;clear hst hab;have HOW:=hd_ HI.out.own;have HBI:=hd_ HI.out.low;cases st with
    | false =>
     go_wp2_with (first
      | (go_at_call 135;refine (HT.out _).mono ?_;rintro e w' ⟨rfl,rfl⟩)
      | (at_builtin;refine z0k rfl rfl z8c (z0n HOW.out ((Below.refl _ _).alloc (Nat.le_refl _) _)) rfl (z0i _ [.string part] _ 1 1 rfl (by decide) _ (by simp)) rfl (HBI.out.alloc HBI.out.size _) (HBI.out.alloc HBI.out.size _).size (by simp [Value.oneCell']) (by omega) (by unfold maxLen;omega) ?_;intro A' c' w5 hown5 hbl5))
     have HN:=hd_ (HSP.out w5 (.slice A' (k+1) c') HST.out hbl5 (by rw[List.map_append];exact hown5))
     clear hown5 hbl5;go_wp2_with fail;go_roundw
     case rel=>exact⟨k+1,done++[part],_,_,_,_,_,by go_num,rfl,rfl,by omega,HN⟩
     case measure=>simp [intOf];omega
    | true =>
     have hroom:=HRM.out HST.out;obtain⟨c,r,hcr⟩:∃ c r,caps.drop (za6 p.parts k)=c :: r:=by
      cases h:caps.drop (za6 p.parts k) with
      | nil =>
       have:=List.drop_eq_nil_iff.1 h;have h3:=HF.out.len;omega
      | cons c r=>exact⟨c,r,rfl⟩
     have hrow:=HI.out.row;rw[hcr] at hrow;obtain⟨hn3,ad3,rfl,hab3,t0⟩:=Strs.head (hrow.below (z0r HA.out HI.out.low));have hrow4:=Strs.tail2 hrow;have hmem:c∈caps.take (za7 p):=by
      have:c=caps[za6 p.parts k]'(by have h3:=HF.out.len;omega):=by
       have:=List.drop_eq_getElem_cons (l:=caps) (i:=za6 p.parts k) (by have h3:=HF.out.len;omega)
       rw[hcr] at this;injection this
      rw[this];exact List.mem_take_iff_getElem.2 ⟨za6 p.parts k,by have h3:=HF.out.len;omega,rfl⟩
     have HCO:=hd_ (fun X=>z19 c X (by have:=HF.out.size c (List.mem_of_mem_take hmem);unfold maxLen;omega))
     rw[HF.out.comp c hmem] at HCO;have HR4:=hd_ hrow4;have HCR:=hd_ hcr;have s1:(1:Int)≤(part.size:Int):=by have:=HS1.out HST.out;omega
     have hr1:(1:Int)≤(r.length:Int)+1:=by omega
     have z1:¬ 9223372036854775807<c.size+(part.size - 1):=by have:=HSZ.out;have:=HF.out.size c (List.mem_of_mem_take hmem);omega
     clear hcr hrow hrow4 hab3 hmem hroom;go_wp2_with (first
      | (go_at_call 135;refine (HT.out _).mono ?_;rintro e w' ⟨rfl,rfl⟩)
      | (go_at_call 127;refine (HCO.out _).mono ?_;rintro e w' ⟨rfl,rfl⟩))
     go_region_law (fail)
     have HOW:=hd_ (show wr.drew.ownsRow w2.heap.size 9 1 (.slice A2 k c2) k (done.map .string) from HI.out.own);have HBI:=hd_ HI.out.low.drew;go_wp2_with (at_builtin;refine z0k rfl rfl z8c (z0n HOW.out ((Below.refl _ _).alloc (Nat.le_refl _) _)) rfl (z0i _ [.string (c++part.extract 1 part.size)] _ 1 1 rfl (by decide) _ (by simp)) rfl (HBI.out.alloc HBI.out.size _) (HBI.out.alloc HBI.out.size _).size (by simp [Value.oneCell']) (by omega) (by unfold maxLen;omega) ?_;intro A' c' w5 hown5 hbl5)
     have HN:=hd_ (HSS.out w5 (.slice A' (k+1) c') r c _ HST.out HCR.out hbl5 (by rw[List.map_append];exact hown5) HR4.out)
     clear hown5 hbl5;go_wp2_with fail;go_roundw
     case rel=>exact⟨k+1,done++[c++z85 part],_,_,_,_,_,by go_num,rfl,rfl,by omega,HN⟩
     case measure=>simp [intOf];omega
   ·have hke:k=p.parts.length:=by omega
    subst hke;have HIS:=hd_ HI.out.is;have HFA:Hid (zbx p.parts caps=done):=hd_ (by
     have:=HIS.out;rw[List.drop_length] at this;rw[← this];unfold zbx;simp)
    have hge:¬((p.parts.length:Int)<(p.parts.length:Int)):=by omega
    have HOW:=hd_ HI.out.own;have HLW:=hd_ HI.out.low;have HFB:Hid (zby p caps=done):=hd_ (by unfold zby;rw[HBR.out,HFA.out];simp)
    have hpos:0<p.parts.length:=by have h1:=HF.out.some;rw[HFB.out,HI.out.len] at h1;exact h1
    obtain⟨gq,cq,eq⟩:=z0s HOW.out hpos;injection eq with eq1 eq2 eq3
    subst eq1 eq3;have hJ:=z8s (done.map (·.data.toList)) gq 0 c2 wr (fun j hj=>by
     rw[List.length_map] at hj;rw[Nat.zero_add];have:=(zah HOW.out (j:=j) (u:=.string done[j]) (by simp [hj])).1
     rw[this];simp [baL]) (by rw[List.length_map,HI.out.len];exact hpos) (by rw[List.length_map,HI.out.len];exact (zc2 HOW.out).1) (by rw[List.length_map,HI.out.len];omega) (by have:=HF.out.join;rw[HFB.out] at this;omega)
    rw[List.length_map,HI.out.len] at hJ;have HJ:=hd_ hJ;have HST:Hid (zbz p caps=baL (z8o (done.map (·.data.toList)))):=hd_ (by unfold zbz;rw[HFB.out])
    have hjl:(Lib.join (done.map (·.data.toList)) [47]).length≤1000000:=by have:=HF.out.join;rw[HFB.out] at this;exact this
    clear hJ;go_wp2_with fail;refine HJ.out.mono ?_;rintro e w6 ⟨rfl,hb6⟩;have HB6:=hd_ (z0r HA.out (z0r HLW.out hb6));have HFS:Hid (zbz p caps=⟨#[47,47]⟩++baL (Lib.join (done.map (·.data.toList)) [47])):=hd_ (by
     rw[HST.out];apply z1m
     simp [z8o,baL])
    have hz6:(baL (Lib.join (done.map (·.data.toList)) [47])).size≤1000000:=by rw[z74];exact hjl
    generalize baL (Lib.join (done.map (·.data.toList)) [47])=tx at HFS hz6;have z2:¬ 9223372036854775807<2+tx.size:=by omega
    clear hb6 hjl;go_wp2_with fail;go_ret2;exact⟨by rw[HFS.out];rfl,HB6.out⟩
 | true =>
  have q3:=q1 rfl;clear q1 q2;go_upto_region 7 with fail;have d0:wm.cell? ⟨w.heap.size,0,none⟩=some (.slice A p.parts.length a):=(HB.out.below HM.out HB.out.lt).cell 0;go_wp2_with fail;go_loopw [1,9,49] (fun cvr av i wr=>∃(k:Nat) (done:List ByteArray) (A3:Option Addr) (n3 c3:Nat) (A2:Option Addr) (c2:Nat),i=.int .i64 k∧cvr=.slice A3 n3 c3∧av=.slice A2 k c2∧k≤p.parts.length∧Hid (FlSt w w2 wr p.parts caps k done cvr av)) (fun _ _ i _=>p.parts.length - (intOf i).toNat)
  case atStart=>exact⟨0,[],_,_,_,_,_,rfl,rfl,rfl,Nat.zero_le _,hd_ ⟨HM.out,HO.out,rfl,by simp [za6],by have:=HC.out;rw[show caps.length=za7 p+1 from by rw[HNC.out,hlen];rfl] at this;simpa [za6] using this⟩⟩
  case round =>
   obtain⟨k,done,A3,n3,c3,A2,c2,rfl,rfl,rfl,hk,HI⟩:=hrel;clear d0;by_cases hlt:k<p.parts.length
   ·have HPX:=hd_ (HP.out.below (z0r HA.out HI.out.low));obtain⟨ad,rfl,hab,s0⟩:=Strs.at_ HPX.out.1 hlt;have HT:=hd_ (fun X=>z7p p.parts[k] X);have HSZ:=hd_ (HP.out.2 _ (List.getElem_mem hlt));have HLT:=hd_ hlt;have HSP:=hd_ (fun wy av'=>HI.out.plain (wy:=wy) (av':=av') hlt);have HSS:=hd_ (fun wy av' r c cv'=>HI.out.star (wy:=wy) (av':=av') (r:=r) (c:=c) (cv':=cv') hlt);have HRM:=hd_ (fun h=>zc6 hlt h);have HS1:Hid (z7e p.parts[k]=true→1≤p.parts[k].size):=hd_ z88;generalize p.parts[k]=part at s0 HT HSP HSS HRM HS1 HSZ;obtain⟨st,hst⟩:∃ st,z7e part=st:=⟨_,rfl⟩;have HST:=hd_ hst;rw[hst] at HT;clear hst hab;have HOW:=hd_ HI.out.own;have HBI:=hd_ HI.out.low;cases st with
    | false =>
     go_wp2_with (first
      | (go_at_call 135;refine (HT.out _).mono ?_;rintro e w' ⟨rfl,rfl⟩)
      | (at_builtin;refine z0k rfl rfl z8c (z0n HOW.out ((Below.refl _ _).alloc (Nat.le_refl _) _)) rfl (z0i _ [.string part] _ 1 1 rfl (by decide) _ (by simp)) rfl (HBI.out.alloc HBI.out.size _) (HBI.out.alloc HBI.out.size _).size (by simp [Value.oneCell']) (by omega) (by unfold maxLen;omega) ?_;intro A' c' w5 hown5 hbl5))
     have HN:=hd_ (HSP.out w5 (.slice A' (k+1) c') HST.out hbl5 (by rw[List.map_append];exact hown5))
     clear hown5 hbl5;go_wp2_with fail;go_roundw
     case rel=>exact⟨k+1,done++[part],_,_,_,_,_,by go_num,rfl,rfl,by omega,HN⟩
     case measure=>simp [intOf];omega
    | true =>
     have hroom:=HRM.out HST.out;obtain⟨c,r,hcr⟩:∃ c r,caps.drop (za6 p.parts k)=c :: r:=by
      cases h:caps.drop (za6 p.parts k) with
      | nil =>
       have:=List.drop_eq_nil_iff.1 h;have h3:=HF.out.len;omega
      | cons c r=>exact⟨c,r,rfl⟩
     have hrow:=HI.out.row;rw[hcr] at hrow;obtain⟨hn3,ad3,rfl,hab3,t0⟩:=Strs.head (hrow.below (z0r HA.out HI.out.low));have hrow4:=Strs.tail2 hrow;have hmem:c∈caps.take (za7 p):=by
      have:c=caps[za6 p.parts k]'(by have h3:=HF.out.len;omega):=by
       have:=List.drop_eq_getElem_cons (l:=caps) (i:=za6 p.parts k) (by have h3:=HF.out.len;omega)
       rw[hcr] at this;injection this
      rw[this];exact List.mem_take_iff_getElem.2 ⟨za6 p.parts k,by have h3:=HF.out.len;omega,rfl⟩
     have HCO:=hd_ (fun X=>z19 c X (by have:=HF.out.size c (List.mem_of_mem_take hmem);unfold maxLen;omega))
     rw[HF.out.comp c hmem] at HCO;have HR4:=hd_ hrow4;have HCR:=hd_ hcr;have s1:(1:Int)≤(part.size:Int):=by have:=HS1.out HST.out;omega
     have hr1:(1:Int)≤(r.length:Int)+1:=by omega
     have z1:¬ 9223372036854775807<c.size+(part.size - 1):=by have:=HSZ.out;have:=HF.out.size c (List.mem_of_mem_take hmem);omega
     clear hcr hrow hrow4 hab3 hmem hroom;go_wp2_with (first
      | (go_at_call 135;refine (HT.out _).mono ?_;rintro e w' ⟨rfl,rfl⟩)
      | (go_at_call 127;refine (HCO.out _).mono ?_;rintro e w' ⟨rfl,rfl⟩))
     go_region_law (fail)
     have HOW:=hd_ (show wr.drew.ownsRow w2.heap.size 9 1 (.slice A2 k c2) k (done.map .string) from HI.out.own);have HBI:=hd_ HI.out.low.drew;go_wp2_with (at_builtin;refine z0k rfl rfl z8c (z0n HOW.out ((Below.refl _ _).alloc (Nat.le_refl _) _)) rfl (z0i _ [.string (c++part.extract 1 part.size)] _ 1 1 rfl (by decide) _ (by simp)) rfl (HBI.out.alloc HBI.out.size _) (HBI.out.alloc HBI.out.size _).size (by simp [Value.oneCell']) (by omega) (by unfold maxLen;omega) ?_;intro A' c' w5 hown5 hbl5)
     have HN:=hd_ (HSS.out w5 (.slice A' (k+1) c') r c _ HST.out HCR.out hbl5 (by rw[List.map_append];exact hown5) HR4.out)
     clear hown5 hbl5;go_wp2_with fail;go_roundw
     case rel=>exact⟨k+1,done++[c++z85 part],_,_,_,_,_,by go_num,rfl,rfl,by omega,HN⟩
     case measure=>simp [intOf];omega
   ·have hke:k=p.parts.length:=by omega
    subst hke;have HIS:=hd_ HI.out.is;have HFA:Hid (zbx p.parts caps=done):=hd_ (by
     have:=HIS.out;rw[List.drop_length] at this;rw[← this];unfold zbx;simp)
    have hge:¬((p.parts.length:Int)<(p.parts.length:Int)):=by omega
    have HOW:=hd_ HI.out.own;have HLW:=hd_ HI.out.low;have hdl:(caps.drop (za7 p)).length=1:=by rw[List.length_drop,HF.out.len,HBR.out];simp
    obtain⟨c,hcc⟩:=List.length_eq_one_iff.1 hdl;have hrow:=HI.out.row;rw[za9,hcc] at hrow;obtain⟨hn3,ad3,rfl,hab3,t0⟩:=Strs.head (hrow.below (z0r HA.out HLW.out));have hcm:c∈caps:=List.mem_of_mem_drop (by rw[hcc];exact List.mem_cons_self ..)
    have HCZ:=hd_ (HF.out.size c hcm);have HCL:=hd_ (HF.out.last HBR.out c (by rw[hcc];exact List.mem_cons_self ..))
    have HFB:Hid (zby p caps=done++[c]):=hd_ (by unfold zby;rw[HBR.out,HFA.out,if_pos rfl,hcc])
    have HSP:=hd_ (z78 c wr (HE.out.below (z0r HA.out HLW.out)) (by have:=HCZ.out;omega))
    have HSN:=hd_ (fun q (hq:q∈z1a c.data.toList)=>(z1e hq).2);have HT0:=hd_ t0;have hn0:(0:Int)<(n3:Int):=by rw[hn3];simp
    clear hdl hcc hrow hab3 hcm;go_wp2_with fail;refine HSP.out.mono ?_;rintro e w5 ⟨rfl,hw5⟩;have hb5:Below wr.heap.size wr w5:=hw5 ▸ (Below.refl _ _).alloc (Nat.le_refl _) _;have hk5:Blk w5 wr.heap.size 9 (z71 (z1a c.data.toList)):=hw5 ▸ z0l wr _ _;have HB5:=hd_ (z0r HLW.out hb5);have HK5:=hd_ hk5;have HO5:=hd_ (z0n HOW.out hb5);have HT5:=hd_ (z04 HT0.out hb5 (z03 HT0.out));have hsl:(z1a c.data.toList).length≤1000001:=by have:=z1g c.data.toList;have h2:=HCZ.out;have:c.data.toList.length=c.size:=rfl;omega
    clear hw5 hb5 hk5 t0;generalize z1a c.data.toList=ps at HCL HSN HK5 hsl ⊢;go_wp2_with fail;go_loop [79] (fun i=>∃ k:Nat,k≤ps.length∧i=.int .i64 k) (fun i=>ps.length - (intOf i).toNat)
    case atStart=>exact⟨0,Nat.zero_le _,rfl⟩
    case round =>
     obtain⟨k,hk,rfl⟩:=hrel;by_cases hlt:k<ps.length
     ·have t1:=HK5.out.strs k hlt;have HCO:=hd_ (fun X=>z19 (baL ps[k]) X (by rw[z74];have:=HSN.out _ (List.getElem_mem hlt);have:=HCZ.out;have:c.data.toList.length=c.size:=rfl;unfold maxLen;omega))
      have hcp:z0v (baL ps[k])=true:=List.all_eq_true.1 HCL.out _ (List.getElem_mem hlt);rw[hcp] at HCO;generalize baL ps[k]=pk at t1 HCO;clear hcp;have hk2:(k:Int)<(ps.length:Int):=by omega
      go_wp2_with (go_at_call 127;refine (HCO.out _).mono ?_;rintro e w' ⟨rfl,rfl⟩)
      go_round
      case rel=>exact⟨k+1,by omega,by go_num⟩
      case measure=>simp [intOf];omega
     ·have hke2:k=ps.length:=by omega
      subst hke2;have hge2:¬((ps.length:Int)<(ps.length:Int)):=by omega
      have t5:=HT5.out;go_wp2_with (at_builtin;refine z0k rfl rfl z8c (z0n HO5.out ((Below.refl _ _).alloc (Nat.le_refl _) _)) rfl (z0i _ [.string c] _ 1 1 rfl (by decide) _ (by simp)) rfl (HB5.out.alloc HB5.out.size _) (HB5.out.alloc HB5.out.size _).size (by simp [Value.oneCell']) (by omega) (by unfold maxLen;omega) ?_;intro A' c' w6 hown6 hbl6)
      have HO6:Hid (w6.ownsRow w2.heap.size 9 1 (.slice A' (p.parts.length+1) c') (p.parts.length+1) ((done++[c]).map .string)):=hd_ (by rw[List.map_append];exact hown6)
      have HB6:=hd_ hbl6;clear hown6 hbl6;obtain⟨gq,cq,eq⟩:=z0s HO6.out (by omega)
      injection eq with eq1 eq2 eq3
      subst eq1 eq3;have hll:(done++[c]).length=p.parts.length+1:=by rw[List.length_append,HI.out.len];rfl
      have hJ:=z8s ((done++[c]).map (·.data.toList)) gq 0 c' w6 (fun j hj=>by
       rw[List.length_map] at hj;rw[Nat.zero_add];have:=(zah HO6.out (j:=j) (u:=.string (done++[c])[j]) (by rw[List.getElem?_map,List.getElem?_eq_getElem hj];rfl)).1
       exact this.trans (by rw[zc1])) (by rw[List.length_map,hll];omega) (by rw[List.length_map,hll];exact (zc2 HO6.out).1) (by rw[List.length_map,hll];omega) (by have:=HF.out.join;rw[HFB.out] at this;omega)
      rw[List.length_map,hll] at hJ;have HJ:=hd_ hJ;have HST:Hid (zbz p caps=baL (z8o ((done++[c]).map (·.data.toList)))):=hd_ (by unfold zbz;rw[HFB.out])
      have hjl:(Lib.join ((done++[c]).map (·.data.toList)) [47]).length≤1000000:=by have:=HF.out.join;rw[HFB.out] at this;exact this
      clear hJ t5;refine HJ.out.mono ?_;rintro e w7 ⟨rfl,hb7⟩;have HB7:=hd_ (z0r HA.out (z0r HB6.out hb7));have HFS:Hid (zbz p caps=⟨#[47,47]⟩++baL (Lib.join ((done++[c]).map (·.data.toList)) [47])):=hd_ (by
       rw[HST.out];apply z1m
       simp [z8o,baL])
      have hz6:(baL (Lib.join ((done++[c]).map (·.data.toList)) [47])).size≤1000000:=by rw[z74];exact hjl
      generalize baL (Lib.join ((done++[c]).map (·.data.toList)) [47])=tx at HFS hz6 ⊢;have z2:¬ 9223372036854775807<2+tx.size:=by omega
      clear hb7 hjl;go_wp2_with fail;go_ret2;exact⟨by rw[HFS.out];rfl,HB7.out⟩
theorem fill_ok (p:Pat)(caps:List ByteArray)(A:Option Addr)(a:Nat)(cv:Value)(w:World)(he:Env w)(hp:zae w (.slice A p.parts.length a) p)(hc:Strs w cv caps)(hf:zc0 p caps):
  Calls prog 188 #[.agg #[.slice A p.parts.length a,.bool p.rest],cv] w fun e w'=>e=.returned (.tuple #[.string (zbz p caps),.int .i64 0])∧Below w.heap.size w w':=fill_at p p.rest rfl caps A a cv w he hp hc hf
abbrev zd6:=Pat×Option Addr×Nat
def zd6.v (q:zd6):Value:=.slice q.2.1 q.1.parts.length q.2.2
def zd6.cells (q:zd6):List Value:=[q.v,.bool q.1.rest]
def zd7 (w:World)(v:Value)(hs:List zd6):Prop:=Row w 2 v hs.length (hs.flatMap zd6.cells)∧∀ q∈hs,zae w q.v q.1
theorem zd7.below {w w':World}{v:Value}{hs:List zd6}(h:zd7 w v hs)(hb:Below w.heap.size w w'):zd7 w' v hs:=⟨Row.below h.1 hb,fun q hq=>(h.2 q hq).below hb⟩
theorem zd7.at_ {w:World}{A:Option Addr}{c:Nat}{hs:List zd6}(h:zd7 w (.slice A hs.length c) hs){k:Nat}(hk:k<hs.length):
  ∃ ad,A=some ad∧ad.block<w.heap.size∧w.cell? (ad.add (k * 2))=some hs[k].v∧w.cell? ⟨(ad.add (k * 2)).block,(ad.add (k * 2)).off+1,none⟩=some (.bool hs[k].1.rest):=by
 obtain⟨ad,e,hb,hc⟩:=z49 (f:=zd6.cells) (n:=2) (fun _=>rfl) h.1 hk;exact⟨ad,e,hb,hc 0 _ (by rfl),hc 1 _ (by rfl)⟩
def zd8 (b:Pat)(hs:List zd6):Int:=if z7j b≠0 then 50 else if (hs.all fun q=>decide (z7j q.1=0))=false then 51 else if 64<hs.length then 52 else 0
theorem zd9 {b:Pat}{hs:List zd6}(h:z7j b≠0):zd8 b hs=50:=if_pos h
theorem zda {b:Pat}{hs:List zd6}{k:Nat}(hb:z7j b=0)(hk:k<hs.length)(h:z7j hs[k].1≠0):zd8 b hs=51:=by
 unfold zd8;rw[if_neg (by rw[hb];simp),if_pos]
 rw[Bool.eq_false_iff];intro ha;exact h (by simpa using List.all_eq_true.1 ha _ (List.getElem_mem hk))
theorem zdb {b:Pat}{hs:List zd6}(hb:z7j b=0)(h:∀ j (hj:j<hs.length),z7j hs[j].1=0):zd8 b hs=if 64<hs.length then 52 else 0:=by
 unfold zd8;rw[if_neg (by rw[hb];simp),if_neg]
 rw[Bool.not_eq_false];refine List.all_eq_true.2 fun q hq=>?_;obtain⟨j,hj,rfl⟩:=List.getElem_of_mem hq;simpa using h j hj
theorem zdc (b:Pat)(hs:List zd6)(A H:Option Addr)(a c:Nat)(w:World)(hb:zae w (.slice A b.parts.length a) b)(hh:zd7 w (.slice H hs.length c) hs)(hl:hs.length≤1000000):
  Calls prog 121 #[.agg #[.slice A b.parts.length a,.bool b.rest,.slice H hs.length c]] w fun e w'=>e=.returned (.int .i64 (zd8 b hs))∧Below w.heap.size w w':=by
 have hB:=z0l w [.slice A b.parts.length a,.bool b.rest,.slice H hs.length c] 78;have hA:Below w.heap.size w (w.alloc (.cells #[.slice A b.parts.length a,.bool b.rest,.slice H hs.length c] 78)):=(Below.refl _ _).alloc (Nat.le_refl _) _;have HC:=hd_ (fun X (hX:Below w.heap.size w X)=>za5 b A a X (hb.below hX).1 hb.small);have HH:=hd_ hh;have HN1:=hd_ (@zd9 b hs);have HN2:=hd_ (fun k=>@zda b hs k);have HN3:=hd_ (@zdb b hs);clear hb hh;go_enter func121,ntmps121;go_upto_region 1 with fail;generalize w.alloc (.cells #[.slice A b.parts.length a,.bool b.rest,.slice H hs.length c] 78)=W1 at hA hB ⊢;obtain⟨d0,d1⟩:=(⟨hB.cell 0,hB.cell 1⟩:W1.cell? ⟨w.heap.size,0,none⟩=some (.slice A b.parts.length a)∧W1.cell? ⟨w.heap.size,1,none⟩=some (.bool b.rest));have HB:=hd_ hB;have HA:=hd_ hA;have HC1:=hd_ (HC.out W1 hA);clear hA hB HC;obtain⟨pe,hpe⟩:∃ pe,z7j b=pe:=⟨_,rfl⟩;have HPE:=hd_ hpe;rw[hpe] at HC1;clear hpe;by_cases h0:pe=0
 case neg =>
  have q:(pe != 0)=true:=by simpa using h0
  have HR:=hd_ (HN1.out (by rw[HPE.out];exact h0))
  clear h0;go_wp2_with fail;refine HC1.out.mono ?_;rintro e w2 ⟨rfl,hb⟩;have HB2:=hd_ (z0r HA.out hb);clear hb d0 d1;go_wp2_with fail;go_ret;exact⟨z7o HR.out.symm,HB2.out⟩
 subst h0;go_wp2_with fail;refine HC1.out.mono ?_;rintro e w2 ⟨rfl,hb⟩;have HA:=hd_ (z0r HA.out hb);have HB:=hd_ (HB.out.below hb HB.out.lt);clear hb d0 d1 HC1;have d2:w2.cell? ⟨w.heap.size,2,none⟩=some (.slice H hs.length c):=HB.out.cell 2;go_wp2_with fail;go_loopw [12] (fun i wr=>∃ k:Nat,i=.int .i64 k∧k≤hs.length∧Hid ((∀ j (hj:j<hs.length),j<k→z7j hs[j].1=0)∧Below w2.heap.size w2 wr)) (fun i _=>hs.length - (intOf i).toNat)
 case atStart=>exact⟨0,rfl,Nat.zero_le _,hd_ ⟨fun j _ h=>by omega,Below.refl _ _⟩⟩
 case round =>
  obtain⟨k,rfl,hk,HI⟩:=hrel;clear d2;by_cases hlt:k<hs.length
  ·have HHX:=hd_ (HH.out.below (z0r HA.out HI.out.2));obtain⟨ad,rfl,hab,s0,s1⟩:=HHX.out.at_ hlt;have HPK:=hd_ (HHX.out.2 hs[k] (List.getElem_mem hlt));have HNO:=hd_ (HN2.out k HPE.out hlt);have HYE:Hid (z7j hs[k].1=0→∀ j (hj:j<hs.length),j<k+1→z7j hs[j].1=0):=hd_ (fun h j hj hjk=>by
    by_cases e:j=k
    ·subst e;exact h
    ·exact HI.out.1 j hj (by omega))
   generalize hs[k]=q at s0 s1 HPK HNO HYE;obtain⟨q,Aq,cq⟩:=q;change wr.cell? _=some (.slice Aq q.parts.length cq) at s0;change wr.cell? _=some (.bool q.rest) at s1;have hX:Below w2.heap.size w2 (wr.alloc (.cells #[.slice Aq q.parts.length cq,.bool q.rest] 68)):=HI.out.2.alloc HI.out.2.size _;have hbq:Below wr.heap.size wr (wr.alloc (.cells #[.slice Aq q.parts.length cq,.bool q.rest] 68)):=(Below.refl _ _).alloc (Nat.le_refl _) _;have HCQ:=hd_ (za5 q Aq cq (wr.alloc (.cells #[.slice Aq q.parts.length cq,.bool q.rest] 68)) (HPK.out.below hbq).1 HPK.out.small);have HX:=hd_ hX;clear hab hX hbq;obtain⟨qe,hqe⟩:∃ qe,z7j q=qe:=⟨_,rfl⟩;have HQE:=hd_ hqe;rw[hqe] at HCQ;clear hqe;have HLT:=hd_ hlt;by_cases h1:qe=0
   ·subst h1;have HN:=hd_ (HYE.out HQE.out);go_wp2_with fail;refine HCQ.out.mono ?_;rintro e w4 ⟨rfl,hb⟩;have HB4:=hd_ (z0r HX.out hb);clear hb s0 s1;go_wp2_with fail;go_roundw
    case rel=>exact⟨k+1,by go_num,by omega,hd_ ⟨HN.out,HB4.out⟩⟩
    case measure=>simp [intOf];omega
   ·have hq:(qe != 0)=true:=by simpa using h1
    have HR:=hd_ (HNO.out (by show z7j q≠0;rw[HQE.out];exact h1))
    clear h1;go_wp2_with fail;refine HCQ.out.mono ?_;rintro e w4 ⟨rfl,hb⟩;have HB4:=hd_ (z0r HA.out (z0r HX.out hb));clear hb s0 s1;go_wp2_with fail;go_ret;exact⟨z7o HR.out.symm,HB4.out⟩
  ·have hke:k=hs.length:=by omega
   subst hke;have HE:=hd_ (HN3.out HPE.out (fun j hj=>HI.out.1 j hj hj));have HBE:=hd_ (z0r HA.out HI.out.2);have d2:wr.cell? ⟨w.heap.size,2,none⟩=some (.slice H hs.length c):=(HB.out.below HI.out.2 HB.out.lt).cell 2;have hge:¬((hs.length:Int)<(hs.length:Int)):=by omega
   by_cases h6:64<hs.length
   ·have q6:decide ((64:Int)<(hs.length:Int))=true:=by simp;omega
    have q7:(64:Int)<(hs.length:Int):=by omega
    have HR:=hd_ (HE.out.trans (if_pos h6));clear h6;go_wp2_with fail;go_ret;exact⟨z7o HR.out.symm,HBE.out⟩
   ·have q6:decide ((64:Int)<(hs.length:Int))=false:=by simp;omega
    have q7:¬(64:Int)<(hs.length:Int):=by omega
    have HR:=hd_ (HE.out.trans (if_neg h6));clear h6;go_wp2_with fail;go_ret;exact⟨z7o HR.out.symm,HBE.out⟩
open Go.Sort (grow)
section
variable {u0 u1 u2 u3 u4 u5 u6 u7 u8 u9 gz gA gC gD gE gF gG gH gI gJ gK gL gM gN gO gP gQ gR gT gV gW gX gY gZ i6 i7 i8 ia ib ic ie ig ii ij ik il im io ip iq ir iu iv iw ix iy iz iA iB iC iD iE iF iG iH iI iJ iK iL iM iN iO iP iQ iR iS iT iU iV iW iX iY iZ j0 j1 : Value}
theorem zis (w:World):(sizeOf 96).run prog w=.ok 3 w:=by kernel_rfl
theorem z4b.head {w:World}{A:Option Addr}{c n:Nat}{x:Hav}{r:List Hav}(h:z4b w (.slice A n c) (x :: r)):
  n=r.length+1∧∃ ad,A=some ad∧ad.block<w.heap.size∧z4c w ad x:=by
 have hn:n=(x :: r).length:=by obtain⟨A',c',e,-⟩:=id h;injection e
 subst hn;obtain⟨ad,e,hb,hc⟩:=z4b.at_ (k:=0) h (by simp)
 refine⟨rfl,ad,e,hb,?_⟩;have:ad.add (0 * 3)=ad:=by unfold Addr.add;simp
 rw[this] at hc;exact hc
theorem z4b.tail {w:World}{A:Option Addr}{c n:Nat}{x:Hav}{r:List Hav}(h:z4b w (.slice A n c) (x :: r)):
  ∃ A' c',(∀ X,(Instr.sliceAt 28 (.slice A n c) (some (.int .i64 1)) none none).run prog X=.ok (.slice A' r.length c') X)∧z4b w (.slice A' r.length c') r:=by
 have hn:n=(x :: r).length:=by obtain⟨A',c',e,-⟩:=id h;injection e
 subst hn;obtain⟨A',c',h1,h2⟩:=zc4 (P:=prog) (w:=w) underlying28 zis h (by simp)
 exact⟨A',c',h1,h2⟩
theorem zit (x y:Hav)(W:World):(binOp .eql 96 (.agg #[.string x.path,.int .i64 x.num,.string x.loc]) (.agg #[.string y.path,.int .i64 y.num,.string y.loc])).run prog W=.ok (.bool (decide (x=y))) W:=by
 obtain⟨a,b,c⟩:=x;obtain⟨d,e,f⟩:=y;rw[run_eql_struct,run_equalIn_agg W 9999 96 _ _ (by kernel_rfl) (by kernel_rfl)]
 simp [go_sem,Op.eqFields,zec]
 by_cases h1:a=d <;> by_cases h2:b=e <;> by_cases h3:c=f <;> simp [h1,h2,h3]
theorem z6y.set (w:World)(g i:Nat)(u:Value):z6y [g] w (w.setCell ⟨g,i,none⟩ u):=z6y.grown (z6z w g i u) (by simp)
theorem z6y.drew {S:List Nat}{w w':World}(h:z6y S w w'):z6y S w w'.drew:=h.trans (z6y.below (Below.refl _ _).drew)
theorem ziu (ops:Array Oper)(hops:Tryz.f43.body.bind (zcn 12)=some ops)(Q:Exit→Act→World→Prop)(V1:World)(ad:Addr)(n c g7:Nat)(h:Hav)(v0 v1 v2 v3 v4:Value)(hh:z4c V1 ad h)(hB:Blk V1 g7 50 [v0,v1,v2,v3,v4])(hn:0<n)
  (hQ:∀(ff fg fh fj fk fm fp fq ft fu:Value) (w':World),z6y [g7] V1 w'→Blk w' g7 50 [v0,.string h.path,v2,.string h.loc,v4]→Q .normal ⟨#[.slice (some ad) n c,u1,u2,u3,u4,u5,u6,.pointer (some ⟨g7,0,none⟩),u8,u9,gz,gA,gC,gD,gE,gF,gG,gH,gI,gJ,gK,gL,gM,gN,gO,gP,gQ,gR,gT,gV,gW,gX,gY,gZ,i6,i7,i8,ia,ib,ic,ie,ig,ii,ij,ik,il,im,ff,fg,fh,fj,fk,fm,fp,fq,ft,fu,iA,iB,iC,iD,iE,iF,iG,iH,iI,iJ,iK,iL,iM,iN,iO,iP,iQ,iR,iS,iT,iU,iV,iW,iX,iY,iZ,j0,j1],[]⟩ w'):
  (Code.region 12 ops true).wp prog Q ⟨#[.slice (some ad) n c,u1,u2,u3,u4,u5,u6,.pointer (some ⟨g7,0,none⟩),u8,u9,gz,gA,gC,gD,gE,gF,gG,gH,gI,gJ,gK,gL,gM,gN,gO,gP,gQ,gR,gT,gV,gW,gX,gY,gZ,i6,i7,i8,ia,ib,ic,ie,ig,ii,ij,ik,il,im,io,ip,iq,ir,iu,iv,iw,ix,iy,iz,iA,iB,iC,iD,iE,iF,iG,iH,iI,iJ,iK,iL,iM,iN,iO,iP,iQ,iR,iS,iT,iU,iV,iW,iX,iY,iZ,j0,j1],[]⟩ V1:=by
 simp only[Tryz.f43,Option.bind_some,zcn] at hops
 simp at hops
 subst hops;obtain⟨x0,x1,x2⟩:=hh;have y1:V1.cell? ⟨g7,1,none⟩=some v1:=hB.cell 1;have y3:V1.cell? ⟨g7,3,none⟩=some v3:=hB.cell 3;have f1:V1.frozen? ⟨g7,1,none⟩=false:=hB.frozen 1;have f3:V1.frozen? ⟨g7,3,none⟩=false:=hB.frozen 3;have hz:(0:Int)<(n:Int):=by omega
 have HQ:=hd_ hQ;have HB:=hd_ hB;clear hQ hB;refine wp_region_noPanic ?_;go_region_law (fail)
 all_goals exact NoPanic.normal (HQ.out _ _ _ _ _ _ _ _ _ _ _ (((z6y.set V1 g7 1 (.string h.path)).trans (z6y.set _ g7 3 (.string h.loc))).drew) ((HB.out.set_ 1 (.string h.path)).set_ 3 (.string h.loc)))
theorem ziv (ops:Array Oper)(hops:Tryz.f43.body.bind (zcn 15)=some ops)(Q:Exit→Act→World→Prop)(V1:World)(ad:Addr)(n c g7:Nat)(h:Hav)(v0 v1 v2 v3 v4:Value)(hh:z4c V1 ad h)(hB:Blk V1 g7 50 [v0,v1,v2,v3,v4])(hn:0<n)(hne:ad.block≠g7)
  (hQ:∀(fA fB fC fD fE fF fG fH fI fJ fK fL fM fN fO:Value) (w':World),z6y [g7] V1 w'→Blk w' g7 50 [v0,.string h.path,.int .i64 h.num,v3,.string h.loc]→Q .normal ⟨#[u0,.slice (some ad) n c,u2,u3,u4,u5,u6,.pointer (some ⟨g7,0,none⟩),u8,u9,gz,gA,gC,gD,gE,gF,gG,gH,gI,gJ,gK,gL,gM,gN,gO,gP,gQ,gR,gT,gV,gW,gX,gY,gZ,i6,i7,i8,ia,ib,ic,ie,ig,ii,ij,ik,il,im,io,ip,iq,ir,iu,iv,iw,ix,iy,iz,iA,iB,iC,iD,fA,fB,fC,fD,fE,fF,fG,fH,fI,fJ,fK,fL,fM,fN,fO,iT,iU,iV,iW,iX,iY,iZ,j0,j1],[]⟩ w'):
  (Code.region 15 ops true).wp prog Q ⟨#[u0,.slice (some ad) n c,u2,u3,u4,u5,u6,.pointer (some ⟨g7,0,none⟩),u8,u9,gz,gA,gC,gD,gE,gF,gG,gH,gI,gJ,gK,gL,gM,gN,gO,gP,gQ,gR,gT,gV,gW,gX,gY,gZ,i6,i7,i8,ia,ib,ic,ie,ig,ii,ij,ik,il,im,io,ip,iq,ir,iu,iv,iw,ix,iy,iz,iA,iB,iC,iD,iE,iF,iG,iH,iI,iJ,iK,iL,iM,iN,iO,iP,iQ,iR,iS,iT,iU,iV,iW,iX,iY,iZ,j0,j1],[]⟩ V1:=by
 simp only[Tryz.f43,Option.bind_some,zcn] at hops
 simp at hops
 subst hops;obtain⟨x0,x1,x2⟩:=hh;have y1:V1.cell? ⟨g7,1,none⟩=some v1:=hB.cell 1;have y2:V1.cell? ⟨g7,2,none⟩=some v2:=hB.cell 2;have y4:V1.cell? ⟨g7,4,none⟩=some v4:=hB.cell 4;have f1:V1.frozen? ⟨g7,1,none⟩=false:=hB.frozen 1;have f2:V1.frozen? ⟨g7,2,none⟩=false:=hB.frozen 2;have f4:V1.frozen? ⟨g7,4,none⟩=false:=hB.frozen 4;have hz:(0:Int)<(n:Int):=by omega
 have n1:¬(ad.block=g7):=hne;have n2:¬(g7=ad.block):=fun e=>hne e.symm;have HQ:=hd_ hQ;have HB:=hd_ hB;clear hQ hB;refine wp_region_noPanic ?_;go_region_law (fail)
 all_goals exact NoPanic.normal (HQ.out _ _ _ _ _ _ _ _ _ _ _ _ _ _ _ _ ((((z6y.set V1 g7 1 (.string h.path)).trans (z6y.set _ g7 2 (.int .i64 h.num))).trans (z6y.set _ g7 4 (.string h.loc))).drew) (((HB.out.set_ 1 (.string h.path)).set_ 2 (.int .i64 h.num)).set_ 4 (.string h.loc)))
end
