/- A part of the proof. -/
import Derived.Test.YtegeboijhifmcaaGreatDoorMgs18
import Derived.Test.YtegeboijhifmcaaGreatDoorMsDfB
import Derived.Test.YtegeboijhifmcaaGreatDoorMgs15
set_option linter.unusedVariables false
set_option linter.unusedSimpArgs false
set_option maxHeartbeats 4000000
set_option maxRecDepth 100000
namespace Go.Proofs.YtegeboijhifmcaaGreatDoor
open Go.RowKit
def zlq:List Hav→ByteArray→Nat×Bool
 | [],_=>(0,false)
 | x :: l,p=>if x.path=p then (0,true) else if 0<z2u x.path p then (0,false) else ((zlq l p).1+1,(zlq l p).2)
def zlr (l:List Hav)(h:Hav):List Hav:=l.take (zlq l h.path).1++h :: l.drop ((zlq l h.path).1+if (zlq l h.path).2 then 1 else 0)
theorem zls:∀(l:List Hav) (p:ByteArray),(zlq l p).1≤l.length∧((zlq l p).2=true→(zlq l p).1<l.length)
 | [],_=>⟨Nat.le_refl _,fun h=>by cases h⟩
 | x :: l,p=>by
  obtain⟨h1,h2⟩:=zls l p;unfold zlq;split
  ·exact⟨Nat.zero_le _,fun _=>Nat.succ_pos _⟩
  ·split
   ·exact⟨Nat.zero_le _,fun h=>by cases h⟩
   ·exact⟨Nat.succ_le_succ h1,fun h=>Nat.succ_lt_succ (h2 h)⟩
theorem zlt {p:ByteArray}:∀ {l:List Hav} {k:Nat} (hk:k<l.length),(∀ j (hj:j<l.length),j<k→l[j].path≠p∧¬ 0<z2u l[j].path p) →
  (l[k].path=p→zlq l p=(k,true))∧(l[k].path≠p→0<z2u l[k].path p→zlq l p=(k,false))
 | [],k,hk,_=>absurd hk (by simp)
 | x :: l,0,_,_=>by
  refine⟨fun e=>?_,fun e h=>?_⟩
  ·unfold zlq;rw[if_pos (show x.path=p from e)]
  ·unfold zlq;rw[if_neg (show ¬ x.path=p from e),if_pos (show 0<z2u x.path p from h)]
 | x :: l,k+1,hk,h=>by
  obtain⟨h1,h2⟩:=h 0 (Nat.succ_pos _) (Nat.succ_pos _);have h1':¬ x.path=p:=h1;have h2':¬ 0<z2u x.path p:=h2;obtain⟨i1,i2⟩:=zlt (l:=l) (k:=k) (by simpa using hk) fun j hj hjk=>h (j+1) (by simpa using hj) (by omega)
  rw[List.getElem_cons_succ];refine⟨fun e=>?_,fun e h=>?_⟩
  ·unfold zlq;rw[if_neg h1',if_neg h2',i1 e]
  ·unfold zlq;rw[if_neg h1',if_neg h2',i2 e h]
theorem zlu {p:ByteArray}:∀ {l:List Hav},(∀ j (hj:j<l.length),l[j].path≠p∧¬ 0<z2u l[j].path p)→zlq l p=(l.length,false)
 | [],_=>rfl
 | x :: l,h=>by
  obtain⟨h1,h2⟩:=h 0 (Nat.succ_pos _);have h1':¬ x.path=p:=h1;have h2':¬ 0<z2u x.path p:=h2;have i:=zlu (l:=l) (p:=p) fun j hj=>h (j+1) (by simpa using hj)
  unfold zlq;rw[if_neg h1',if_neg h2',i];rfl
theorem zlv (x:Hav)(l:List Hav)(h:Hav):zlr (x :: l) h=if x.path=h.path then h :: l else if 0<z2u x.path h.path then h :: x :: l else x :: zlr l h:=by
 unfold zlr;rw[zlq];by_cases h1:x.path=h.path
 ·rw[if_pos h1,if_pos h1];rfl
 ·rw[if_neg h1,if_neg h1];by_cases h2:0<z2u x.path h.path
  ·rw[if_pos h2,if_pos h2];rfl
  ·rw[if_neg h2,if_neg h2];show x :: (l.take _++h :: (x :: l).drop _)=_
   rw[show (zlq l h.path).1+1+(if (zlq l h.path).2=true then 1 else 0)=(zlq l h.path).1+(if (zlq l h.path).2=true then 1 else 0)+1 by omega,List.drop_succ_cons]
theorem zlw:∀(l:List Hav) (h x:Hav),x∈zlr l h→x=h∨x∈l
 | [],h,x,hx=>by
  have hx':x∈[h]:=hx;exact .inl (List.mem_singleton.1 hx')
 | y :: l,h,x,hx=>by
  rw[zlv] at hx;split at hx
  ·rcases List.mem_cons.1 hx with e | e
   ·exact .inl e
   ·exact .inr (List.mem_cons_of_mem _ e)
  ·split at hx
   ·rcases List.mem_cons.1 hx with e | e
    ·exact .inl e
    ·exact .inr e
   ·rcases List.mem_cons.1 hx with e | e
    ·exact .inr (by rw[e];exact List.mem_cons_self ..)
    ·rcases zlw l h x e with e | e
     ·exact .inl e
     ·exact .inr (List.mem_cons_of_mem _ e)
theorem zlx:∀(l:List Hav) (h:Hav),z6b l→(∀ x∈l,z2s x.path=true)→z2s h.path=true→z6b (zlr l h)∧∀ p,z6d (zlr l h) p=if p=h.path then some h else z6d l p
 | [],h,_,_,_=>by
  refine⟨List.pairwise_singleton _ _,fun p=>?_⟩;show z5y Hav.path [h] p=_
  rw[z63];by_cases e:p=h.path
  ·rw[if_pos e.symm,if_pos e]
  ·rw[if_neg (fun e2=>e e2.symm),if_neg e]
 | x :: l,h,hs,hv,hh=>by
  have hvx:=hv x (List.mem_cons_self ..);rw[zlv];by_cases h1:x.path=h.path
  ·rw[if_pos h1];refine⟨List.pairwise_cons.2 ⟨fun b hb=>?_,hs.tail⟩,fun p=>?_⟩
   ·rw[← h1];exact hs.head b hb
   ·show z5y Hav.path (h :: l) p=if p=h.path then some h else z5y Hav.path (x :: l) p
    rw[z63,z63,h1];by_cases e:p=h.path
    ·rw[if_pos e.symm,if_pos e]
    ·rw[if_neg (fun e2=>e e2.symm),if_neg e,if_neg (fun e2=>e e2.symm)]
  ·rw[if_neg h1];by_cases h2:0<z2u x.path h.path
   ·rw[if_pos h2];have h3:z2u h.path x.path<0:=by rw[z5q];omega
    refine⟨List.pairwise_cons.2 ⟨fun b hb=>?_,hs⟩,fun p=>?_⟩
    ·rcases List.mem_cons.1 hb with e | e
     ·rw[e];exact h3
     ·exact z5f hh hvx (hv b (List.mem_cons_of_mem _ e)) h3 (hs.head b e)
    ·show z5y Hav.path (h :: x :: l) p=_
     rw[z63];by_cases e:p=h.path
     ·rw[if_pos e.symm,if_pos e]
     ·rw[if_neg (fun e2=>e e2.symm),if_neg e]
   ·rw[if_neg h2];have h3:z2u x.path h.path<0:=by
     rcases Int.lt_or_le (z2u x.path h.path) 0 with h | h
     ·exact h
     ·exact absurd (z6k hvx hh (by omega) h2) h1
    obtain⟨i1,i2⟩:=zlx l h hs.tail (fun y hy=>hv y (List.mem_cons_of_mem _ hy)) hh;refine⟨List.pairwise_cons.2 ⟨fun b hb=>?_,i1⟩,fun p=>?_⟩
    ·rcases zlw l h b hb with e | e
     ·rw[e];exact h3
     ·exact hs.head b e
    ·show z5y Hav.path (x :: zlr l h) p=if p=h.path then some h else z5y Hav.path (x :: l) p
     rw[z63,z63];have i2':=i2 p;by_cases e:x.path=p
     ·rw[if_pos e,if_pos e,if_neg (fun e2=>h1 (e.trans e2))]
     ·rw[if_neg e,if_neg e];exact i2'
def zly (D:List Rev)(f:ByteArray→Option ByteArray)(m:Int)(k:Nat)(out:List Hav):Prop:=
 z6b out∧(∀ x∈out,x.path∈zff)∧(∀ x∈out,zfj D f m x.path=some x)∧∀(j:Nat) (hj:j<D.length),j<k→∀ h,zfj D f m D[j].path=some h→h∈out
theorem refW_0 (D:List Rev)(f:ByteArray→Option ByteArray)(m:Int):zly D f m 0 []:=⟨List.Pairwise.nil,(fun x h=>by cases h),(fun x h=>by cases h),fun j _ h=>by omega⟩
theorem refW_no {D:List Rev}{f:ByteArray→Option ByteArray}{m:Int}{k:Nat}{out:List Hav}(h:zly D f m k out)(hk:k<D.length)(e:zfj D f m D[k].path=none):zly D f m (k+1) out:=
 ⟨h.1,h.2.1,h.2.2.1,fun j hj hjk x hx=>by
  by_cases ej:j=k
  ·subst ej;rw[e] at hx;cases hx
  ·exact h.2.2.2 j hj (by omega) x hx⟩
theorem zlz {p:ByteArray}(h:p∈zff):z2s p=true:=(zf2 (zfh p h)).1
theorem zm0 {D:List Rev}{f:ByteArray→Option ByteArray}{m:Int}{k:Nat}{out:List Hav}{x:Hav}(h:zly D f m k out)(hk:k<D.length)(h6:∀ r∈D,r.path∈zff)(e:zfj D f m D[k].path=some x):zly D f m (k+1) (zlr out x):=by
 obtain⟨h1,h2,h3,h4⟩:=h;have hxp:x.path=D[k].path:=(zfm e).1;have hx6:x.path∈zff:=by rw[hxp];exact h6 _ (List.getElem_mem hk)
 obtain⟨i1,i2⟩:=zlx out x h1 (fun y hy=>zlz (h2 y hy)) (zlz hx6);have hmem:∀ y,y∈zlr out x↔y=x∨(y∈out∧y.path≠x.path):=by
  intro y;constructor
  ·intro hy;have hg:=z65 i1 hy;have hg':z6d (zlr out x) y.path=some y:=hg;rw[i2] at hg';by_cases ey:y.path=x.path
   ·rw[if_pos ey] at hg';exact .inl (Option.some.inj hg').symm
   ·rw[if_neg ey] at hg';exact .inr ⟨(z61 hg').1,ey⟩
  ·rintro (rfl | ⟨hy,ey⟩)
   ·have:=i2 y.path;rw[if_pos rfl] at this;exact (z61 this).1
   ·have:=i2 y.path;rw[if_neg ey] at this;have hg:z6d out y.path=some y:=z65 h1 hy;rw[hg] at this;exact (z61 this).1
 refine⟨i1,fun y hy=>?_,fun y hy=>?_,fun j hj hjk y hy=>?_⟩
 ·rcases (hmem y).1 hy with rfl | ⟨a,_⟩
  ·exact hx6
  ·exact h2 y a
 ·rcases (hmem y).1 hy with rfl | ⟨a,_⟩
  ·rw[hxp];exact e
  ·exact h3 y a
 ·by_cases ep:D[j].path=D[k].path
  ·rw[ep,e] at hy;exact (hmem y).2 (.inl (Option.some.inj hy).symm)
  ·have hjk2:j≠k:=fun ee=>ep (by subst ee;rfl)
   have hy2:=h4 j hj (by omega) y hy
   refine (hmem y).2 (.inr ⟨hy2,?_⟩);rw[(zfm hy).1,hxp];exact ep
theorem zm1 {D:List Rev}{f:ByteArray→Option ByteArray}{m:Int}{out:List Hav}(h:zly D f m D.length out)(hn:∀ r∈D,1≤r.num)(hf:zfi f):out=zfk D f m:=by
 refine z66 h.1 (zfn hn hf).srt fun x=>⟨fun hx=>?_,fun hx=>?_⟩
 ·exact List.mem_filterMap.2 ⟨x.path,h.2.1 x hx,h.2.2.1 x hx⟩
 ·obtain⟨p,hp,e⟩:=List.mem_filterMap.1 hx;obtain⟨e1,-,r,hr,e3,-⟩:=zfm e;obtain⟨j,hj,rfl⟩:=List.getElem_of_mem hr;exact h.2.2.2 j hj hj x (by rw[e3];exact e)
theorem zm2 {D:List Rev}{f:ByteArray→Option ByteArray}{m:Int}{k:Nat}{out:List Hav}(h:zly D f m k out):out.length≤6:=by
 have e:out.map Hav.path=zff.filter (fun p=>decide (p∈out.map Hav.path)):=z66 (z68 (kb:=fun q:ByteArray=>q) h.1 fun _=>rfl) (z6a zfg _) fun a=>by
  rw[List.mem_filter,decide_eq_true_eq];refine⟨fun ha=>⟨?_,ha⟩,fun ha=>ha.2⟩;obtain⟨x,hx,rfl⟩:=List.mem_map.1 ha;exact h.2.1 x hx
 have h1:=congrArg List.length e;rw[List.length_map] at h1;rw[h1];exact Nat.le_trans (List.length_filter_le _ _) (by decide)
open Go.Sort (grow)
theorem z4b.under {w w':World}{v:Value}{l:List Hav}(h:z4b w v l)(hb:Below w.heap.size w w'):z4b w' v l:=Row.below h hb
theorem zm3 (l:List Hav)(v:Value)(p:ByteArray)(w:World)(he:Env w)(hH:z4b w v l)(hv:∀ x∈l,z2s x.path=true∧x.path.size≤1000000)(hp:z2s p=true)(hz:p.size≤1000000)(hl:l.length≤1000000):
  Calls Tryz.prog 141 #[v,.string p] w fun e w'=>e=.returned (.tuple #[.int .i64 (zlq l p).1,.bool (zlq l p).2])∧Below w.heap.size w w':=by
 obtain⟨A,c,rfl,-⟩:=id hH;have HE:=hd_ he;have HH:=hd_ hH;have HV:=hd_ hv;have HP:=hd_ hp;have HZ:=hd_ hz;clear he hH hv hp hz;go_enter Tryz.func141,Tryz.ntmps141;go_wp2_with fail;go_loopw [6] (fun i wr=>∃ k:Nat,i=.int .i64 k∧k≤l.length∧Hid ((∀ j (hj:j<l.length),j<k→l[j].path≠p∧¬ 0<z2u l[j].path p)∧Below w.heap.size w wr)) (fun i _=>l.length - (intOf i).toNat)
 case atStart=>exact⟨0,rfl,Nat.zero_le _,hd_ ⟨fun j _ h=>by omega,Below.refl _ _⟩⟩
 case round =>
  obtain⟨k,rfl,hk,HI⟩:=hrel;by_cases hlt:k<l.length
  ·obtain⟨ad,rfl,hab,s0,-,-⟩:=z4b.at_ (HH.out.under HI.out.2) hlt;have HVK:=hd_ (HV.out l[k] (List.getElem_mem hlt));have HAT:=hd_ (zlt (p:=p) hlt HI.out.1);have HNX:Hid (l[k].path≠p→¬ 0<z2u l[k].path p→∀ j (hj:j<l.length),j<k+1→l[j].path≠p∧¬ 0<z2u l[j].path p):=hd_ fun h1 h2 j hj hjk=>by
    by_cases e:j=k
    ·subst e;exact⟨h1,h2⟩
    ·exact HI.out.1 j hj (by omega)
   generalize l[k].path=q at s0 HVK HAT HNX;have HOR:=hd_ (zhp q p wr (HE.out.below HI.out.2) (by have:=HVK.out.2;omega) (by have:=HZ.out;omega))
   rw[zho HVK.out.1 HP.out] at HOR;have HB:=hd_ HI.out.2;have HLT:=hd_ hlt;by_cases h1:q=p
   ·have q1:(q.toList == p.toList)=true:=by rw[z3x,decide_eq_true h1]
    have HR:=hd_ (HAT.out.1 h1);clear h1;go_wp2_with fail;go_ret2;rw[HR.out];exact⟨rfl,HB.out⟩
   ·have q1:(q.toList == p.toList)=false:=by rw[z3x,decide_eq_false h1]
    have HN1:=hd_ h1;clear h1;obtain⟨n,hn⟩:∃ n,z2u q p=n:=⟨_,rfl⟩;have HN:=hd_ hn;rw[hn] at HOR;clear hn;by_cases h2:0<n
    ·have q2:decide (0<n)=true:=decide_eq_true h2;have HR:=hd_ (HAT.out.2 HN1.out (by rw[HN.out];exact h2))
     clear h2;go_wp2_with fail;refine HOR.out.mono ?_;rintro e w2 ⟨rfl,hb⟩;have HB2:=hd_ (z0r HB.out hb);clear hb s0;go_wp2_with fail;go_ret2;rw[HR.out];exact⟨rfl,HB2.out⟩
    ·have q2:decide (0<n)=false:=decide_eq_false h2;have HR:=hd_ (HNX.out HN1.out (by rw[HN.out];exact h2))
     clear h2;go_wp2_with fail;refine HOR.out.mono ?_;rintro e w2 ⟨rfl,hb⟩;have HB2:=hd_ (z0r HB.out hb);clear hb s0;go_wp2_with fail;go_roundw
     case rel=>exact⟨k+1,by go_num,by have:=HLT.out;omega,hd_ ⟨fun j hj h=>⟨(HR.out j hj h).1,Int.not_lt.2 (HR.out j hj h).2⟩,HB2.out⟩⟩
     case measure=>have:=HLT.out;simp [intOf];omega
  ·have hke:k=l.length:=by omega
   have HR:=hd_ (zlu (l:=l) (p:=p) fun j hj=>HI.out.1 j hj (by omega))
   have HB:=hd_ HI.out.2;subst hke;clear HI;go_wp2_with fail;go_ret2;rw[HR.out];exact⟨rfl,HB.out⟩
section
variable {u0 u1 u2 u3 u4 u5 u6 u7 u8 u9 gn gt gu gx gy gz gA gC gD gE gF gG gH gI gJ gK gL gM gN gO : Value}
theorem zm4 {P:Program}{w:World}{t e:TypeId}{size n c hi:Nat}{A:Option Addr}{xs:List Value}(ht:P.underlying t=some (.slice e))(hs:∀ w,(sizeOf e).run P w=.ok size w)
  (h:Row w size (.slice A n c) n xs) (h2:hi≤n):
  ∃ A' c',(∀ X,(Instr.sliceAt t (.slice A n c) none (some (.int .i64 hi)) none).run P X=.ok (.slice A' hi c') X)∧∀ W:World,Row W size (.slice A n c) n xs→Row W size (.slice A' hi c') hi (xs.take (hi * size)):=by
 have hc:n≤c:=by obtain⟨A',c',e,hc,_⟩:=id h;injection e with e1 e2 e3;omega
 have he:P.elem t=e:=by simp [Program.elem,ht]
 have ht':P.underlying t=some (.slice (P.elem t)):=by rw[he];exact ht
 have hr:∀ W:World,Row W size (.slice A n c) n xs→Row W size (.slice (if c=0 then A else A.map (·.add 0)) hi c) hi (xs.take (hi * size)):=fun W hW=>by
  have hr:=Row.slice hW (Nat.zero_le hi) h2;simp only[Nat.zero_mul,List.drop_zero,Nat.sub_zero] at hr
  exact hr
 refine⟨_,_,fun X=>?_,hr⟩
 ·rw[run_sliceAt_slice X t _ _ _ _ ht',run_slice_h X t A n c ht' _ _ (by omega) (by omega),he,hs]
  simp [Result.andThen,sliced]
theorem zm5 {P:Program}{w:World}{t e:TypeId}{size n c lo:Nat}{A:Option Addr}{xs:List Value}(ht:P.underlying t=some (.slice e))(hs:∀ w,(sizeOf e).run P w=.ok size w)
  (h:Row w size (.slice A n c) n xs) (h1:lo≤n):
  ∃ A' c',(∀ X,(Instr.sliceAt t (.slice A n c) (some (.int .i64 lo)) none none).run P X=.ok (.slice A' (n - lo) c') X)∧∀ W:World,Row W size (.slice A n c) n xs→Row W size (.slice A' (n - lo) c') (n - lo) (xs.drop (lo * size)):=by
 have he:P.elem t=e:=by simp [Program.elem,ht]
 have ht':P.underlying t=some (.slice (P.elem t)):=by rw[he];exact ht
 have hr:∀ W:World,Row W size (.slice A n c) n xs→Row W size (.slice (if c=lo then A else A.map (·.add (lo * size))) (n - lo) (c - lo)) (n - lo) (xs.drop (lo * size)):=fun W hW=>by
  have hr:=Row.slice hW h1 (Nat.le_refl _);rw[List.take_of_length_le (by rw[List.length_drop,h.len,← Nat.sub_mul];exact Nat.le_refl _)] at hr
  exact hr
 refine⟨_,_,fun X=>?_,hr⟩
 ·rw[run_sliceAt_slice X t _ _ _ _ ht',run_slice_l X t A n c ht' _ _ (by omega) (by omega),he,hs]
  simp [Result.andThen,sliced]
theorem zm6 (l:List Hav):∀ v∈l.flatMap Hav.cells,v.oneCell'=true:=by
 intro v hv;obtain⟨x,-,hx⟩:=List.mem_flatMap.1 hv;exact z55 x v hx
theorem zm7 (l:List Hav)(i:Nat):(l.flatMap Hav.cells).take (i * 3)=(l.take i).flatMap Hav.cells:=by
 induction l generalizing i with
 | nil=>simp
 | cons x l ih =>
  cases i with
  | zero=>simp
  | succ i =>
   have e:(i+1) * 3=3+i * 3:=by omega
   rw[List.take_succ_cons,List.flatMap_cons,List.flatMap_cons,← ih,e];exact List.take_length_add_append (l₁:=x.cells) (i * 3)
theorem zm8 (l:List Hav)(i:Nat):(l.flatMap Hav.cells).drop (i * 3)=(l.drop i).flatMap Hav.cells:=by
 induction l generalizing i with
 | nil=>simp
 | cons x l ih =>
  cases i with
  | zero=>simp
  | succ i =>
   have e:(i+1) * 3=3+i * 3:=by omega
   rw[List.drop_succ_cons,List.flatMap_cons,← ih,e];exact List.drop_length_add_append (l₁:=x.cells) (i * 3)
theorem zm9 {w w':World}{v:Value}(hG:w.grownBy w' v.ownBlock)(hv:v.ownBlock=none):Below w.heap.size w w':=⟨hG.os,hG.tape,hG.output,hG.size,fun k hk=>hG.block k hk (by rw[hv];simp)⟩
theorem puR2 (ops:Array Oper)(hops:Tryz.f97.body.bind (zci 2)=some ops)(Q:Exit→Act→World→Prop)(V:World)(A:Option Addr)(c g3 i:Nat)(l:List Hav)(h:Hav)
  (hH:z4b V (.slice A l.length c) l) (hB:Blk V g3 44 [.string h.path,.int .i64 h.num,.string h.loc]) (hi:i≤l.length) (hl:l.length≤1000000)
  (hQ:∀(el em en eo er et eu:Value) (A':Option Addr) (c':Nat) (w':World),Hid (Below V.heap.size V w'∧w'.ownsRow V.heap.size 44 3 (.slice A' (i+1) c') (i+1) ((l.take i++[h]).flatMap Hav.cells))→Q .normal ⟨#[.slice A l.length c,u1,u2,.pointer (some ⟨g3,0,none⟩),u4,.int .i64 i,u6,.slice A' (i+1) c',u8,u9,gn,gt,gu,gx,gy,el,em,en,eo,er,et,eu,gH,gI,gJ,gK,gL,gM,gN,gO],[]⟩ w'):
  (Code.region 2 ops true).wp Tryz.prog Q ⟨#[.slice A l.length c,u1,u2,.pointer (some ⟨g3,0,none⟩),u4,.int .i64 i,u6,u7,u8,u9,gn,gt,gu,gx,gy,gz,gA,gC,gD,gE,gF,gG,gH,gI,gJ,gK,gL,gM,gN,gO],[]⟩ V:=by
 simp only[Tryz.f97,Option.bind_some,zci] at hops
 simp at hops
 subst hops;obtain⟨Ai,ci,hsl,hrw⟩:=zm4 (P:=Tryz.prog) (w:=V) Tryz.underlying28 zio hH hi;have HQ:=hd_ hQ;have HROW:Hid (∀ W,Below V.heap.size V W→Row W 3 (.slice Ai i ci) i ((l.take i).flatMap Hav.cells)):=hd_ fun W hW=>by rw[← zm7];exact hrw W (z4b.under hH hW)
 have HONE:Hid (∀ v∈(l.take i).flatMap Hav.cells,v.oneCell'=true):=hd_ (zm6 _);have HF:Hid (∀ w',Below V.heap.size V w'→w'.cell? ⟨g3,0,none⟩=some (.string h.path)∧w'.cell? ⟨g3,1,none⟩=some (.int .i64 h.num)∧w'.cell? ⟨g3,2,none⟩=some (.string h.loc)):=hd_ fun w' hb=>z3s (hB.below hb hB.lt);have HCAT:Hid ((l.take i).flatMap Hav.cells++[.string h.path,.int .i64 h.num,.string h.loc]=(l.take i++[h]).flatMap Hav.cells):=hd_ (by rw[List.flatMap_append];rfl)
 clear hQ hH hB hrw;obtain⟨f0,f1,f2⟩:=HF.out V (Below.refl _ _);refine wp_region_noPanic ?_;go_region_law (first
   | (refine zce (base:=V.heap.size) (n:=0) (xs:=[]) rfl rfl z54 (World.ownsRow_nil _ _ _ _) (by simp [Act.eval,Act.put];done) (HROW.out _ (Below.refl _ _).drew) (by simp [Act.eval,Act.put];done) HONE.out (by omega) (by unfold maxLen;omega) (by simp) ?_;intro A5 c5 w5 hO5 hG5 hw5;have hX5:=zm9 hG5 rfl;have hS5:Below V.heap.size V w5:=(Below.refl _ _).drew.trans hX5;obtain⟨f5,f6,f7⟩:=HF.out w5 hS5;rw[Nat.zero_add,List.nil_append] at hO5)
   | (refine zce (base:=V.heap.size) (n:=0) (xs:=[]) rfl rfl z54 (World.ownsRow_nil _ _ _ _) (by simp [Act.eval,Act.put];done) (HROW.out _ (by first | exact zcf (Below.refl _ _).drew _ | exact (zcf (Below.refl _ _) _).drew)) (by simp [Act.eval,Act.put];done) HONE.out (by omega) (by unfold maxLen;omega) (Below.size (by first | exact zcf (Below.refl _ _).drew _ | exact (zcf (Below.refl _ _) _).drew)) ?_;intro A5 c5 w5 hO5 hG5 hw5;have hX5:=zm9 hG5 rfl;have hS5:Below V.heap.size V w5:=z0r (by first | exact zcf (Below.refl _ _).drew _ | exact (zcf (Below.refl _ _) _).drew) hX5;have hQ5:Blk w5 V.heap.size 44 [.string h.path,.int .i64 h.num,.string h.loc]:=Blk.below' (by first | exact z0l V.drew _ _ | exact Blk.drew' (z0l V _ _)) hX5;rw[Nat.zero_add,List.nil_append] at hO5)
   | (refine zce rfl rfl z54 (z0n hO5 ((Below.refl _ _).alloc (Nat.le_refl _) _)) (by simp [Act.eval,Act.put];done) (z0i w5 [.string h.path,.int .i64 h.num,.string h.loc] _ 3 1 rfl (by decide) _ rfl) (by simp [Act.eval,Act.put];done) (by simp [Value.oneCell']) (by omega) (by unfold maxLen;omega) (by have:=hS5.size;simp;omega) ?_;intro A6 c6 w6 hO6 hG6 hw6;have hS6:Below V.heap.size V w6:=(hS5.alloc hS5.size _).grown hG6 (hS5.alloc hS5.size _).size (fun k e=>(hO5.lt k e).1))
   | (refine zce rfl rfl z54 hO5 (by simp [Act.eval,Act.put];done) (hQ5.row (size:=3) (n:=1) rfl (by decide)) (by simp [Act.eval,Act.put];done) (by simp [Value.oneCell']) (by omega) (by unfold maxLen;omega) hS5.size ?_;intro A6 c6 w6 hO6 hG6 hw6;have hS6:Below V.heap.size V w6:=hS5.grown hG6 hS5.size (fun k e=>(hO5.lt k e).1)))
 all_goals exact NoPanic.normal (HQ.out _ _ _ _ _ _ _ _ _ _ (hd_ ⟨hS6,by rw[← HCAT.out];exact hO6⟩))
end
theorem znl {p:Pat}(h:z7e p=0):p.parts.length≤12:=by
 unfold z7e at h;split at h
 ·cases h
 ·split at h
  ·cases h
  ·split at h
   ·cases h
   ·omega
theorem znm (p q:Pat)(A B:Option Addr)(a b:Nat)(w:World)(hp:za9 w (.slice A p.parts.length a) p)(hq:za9 w (.slice B q.parts.length b) q)(hpr:p.rest=true)(hqr:q.rest=true)(hpe:z7e p=0)(hqe:z7e q=0)(hw:WiOk p q):
  Calls Tryz.prog 221 #[.agg #[.slice A p.parts.length a,.bool true],.agg #[.slice B q.parts.length b,.bool true]] w fun e w'=>e=.returned (.bool true)∧Below w.heap.size w w':=by
 have hA:Below w.heap.size w ((w.alloc (.cells #[.slice A p.parts.length a,.bool true] 97)).alloc (.cells #[.slice B q.parts.length b,.bool true] 97)):=((Below.refl _ _).alloc (Nat.le_refl _) _).alloc (by simp) _
 have h2:zbo ((w.alloc (.cells #[.slice A p.parts.length a,.bool true] 97)).alloc (.cells #[.slice B q.parts.length b,.bool true] 97)) w.heap.size (.slice A p.parts.length a) true:=(z0l w [.slice A p.parts.length a,.bool true] 97).alloc _;have h3:zbo ((w.alloc (.cells #[.slice A p.parts.length a,.bool true] 97)).alloc (.cells #[.slice B q.parts.length b,.bool true] 97)) (w.heap.size+1) (.slice B q.parts.length b) true:=by
  have:=z0l (w.alloc (.cells #[.slice A p.parts.length a,.bool true] 97)) [.slice B q.parts.length b,.bool true] 97;rw[World.size_alloc] at this;exact this
 have HCP:=hd_ (fun X (hX:Below w.heap.size w X)=>zca p A a X (hp.below hX).1 hp.small);have HCQ:=hd_ (fun X (hX:Below w.heap.size w X)=>zca q B b X (hq.below hX).1 hq.small);rw[hpe,hpr] at HCP;rw[hqe,hqr] at HCQ;have HIN:Hid (∀(k:Nat) (h:k<q.parts.length) (h2:k<p.parts.length) X,Calls Tryz.prog 223 #[.string p.parts[k],.string q.parts[k]] X fun e w'=>e=.returned (.bool true)∧Below X.heap.size X w'):=hd_ fun k h h2 X=>by
  have:=zme p.parts[k] q.parts[k] X (zcc hpe _) (zcc hqe h) (hp.2 _ (List.getElem_mem _)) (hq.2 _ (List.getElem_mem h));rw[hw.all k h] at this;exact this
 have HP:=hd_ hp;have HQ:=hd_ hq;have hle:=hw.le;have hq12:=znl hqe;have q1:decide ((p.parts.length:Int)<(q.parts.length:Int))=false:=by simp;omega
 clear hp hq hpe hqe hpr hqr hw;go_enter Tryz.func221,Tryz.ntmps221;go_upto_region 1 with fail;generalize (w.alloc (.cells #[.slice A p.parts.length a,.bool true] 97)).alloc (.cells #[.slice B q.parts.length b,.bool true] 97)=W1 at hA h2 h3 ⊢;have x0:=h2.c0;have x1:=h2.c1;have y0:=h3.c0;have y1:=h3.c1;have H:=hd_ (And.intro hA (And.intro h2 h3));have HC1:=hd_ (HCP.out W1 hA);clear hA h2 h3;go_wp2_with fail;refine HC1.out.mono ?_;rintro e w2 ⟨rfl,hb⟩;dsimp only;have HB:=hd_ (z0r H.out.1 hb);have HG:=hd_ (And.intro (H.out.2.1.low hb) (H.out.2.2.low hb));have HC2:=hd_ (HCQ.out w2 HB.out);clear hb x0 x1 y0 y1;have x0:=HG.out.1.c0;have x1:=HG.out.1.c1;have y0:=HG.out.2.c0;have y1:=HG.out.2.c1;go_wp2_with fail;refine HC2.out.mono ?_;rintro e w3 ⟨rfl,hb⟩;dsimp only;have HB3:=hd_ (z0r HB.out hb);have HG3:=hd_ (And.intro (HG.out.1.low hb) (HG.out.2.low hb));clear hb x0 x1 y0 y1;have x0:=HG3.out.1.c0;have x1:=HG3.out.1.c1;have y0:=HG3.out.2.c0;have y1:=HG3.out.2.c1;obtain⟨cc,hcc⟩:∃ cc,((p.parts.length:Int) == (q.parts.length:Int))=cc:=⟨_,rfl⟩;cases cc
 all_goals
  go_wp2_with fail;clear x0 x1 y0 y1 hcc;go_loopw [59] (fun i wr=>∃ k:Nat,i=.int .i64 k∧k≤q.parts.length∧Hid (Below w3.heap.size w3 wr)) (fun i _=>q.parts.length - (intOf i).toNat)
  case atStart=>exact⟨0,rfl,Nat.zero_le _,hd_ (Below.refl _ _)⟩
  case round =>
   obtain⟨k,rfl,hk,HI⟩:=hrel;by_cases hlt:k<q.parts.length
   ·obtain⟨ad,rfl,hab,s0⟩:=Strs.at_ (HQ.out.below (z0r HB3.out HI.out)).1 hlt;obtain⟨ad2,rfl,hab2,s1⟩:=Strs.at_ (HP.out.below (z0r HB3.out HI.out)).1 (Nat.lt_of_lt_of_le hlt hle);have HCI:=hd_ (HIN.out k hlt (Nat.lt_of_lt_of_le hlt hle) wr);have hlt2:=Nat.lt_of_lt_of_le hlt hle;have x0:=(HG3.out.1.low HI.out).c0;have HLT:=hd_ hlt;generalize q.parts[k]=u at s0 HCI;generalize p.parts[k]=v at s1 HCI;go_wp2_with fail;refine HCI.out.mono ?_;rintro e w4 ⟨rfl,hb⟩;dsimp only;have HB4:=hd_ (z0r HI.out hb);clear hb s0 s1 x0;go_wp2_with fail;go_roundw
    case rel=>exact⟨k+1,by go_num,by have:=HLT.out;omega,HB4⟩
    case measure=>have:=HLT.out;simp [intOf];omega
   ·have hke:k=q.parts.length:=by omega
    have HB5:=hd_ (z0r HB3.out HI.out);subst hke;go_wp2_with fail;go_ret;exact⟨rfl,HB5.out⟩
end Go.Proofs.YtegeboijhifmcaaGreatDoor
