/- A part of the proof. -/
import Derived.Test.YtegeboijhifmcaaGreatDoorMgw11
import Derived.Test.YtegeboijhifmcaaGreatDoorMzAlE
set_option linter.unusedVariables false
set_option linter.unusedSimpArgs false
set_option maxHeartbeats 8000000
set_option maxRecDepth 100000
namespace Go.Proofs.YtegeboijhifmcaaGreatDoor
open Go.RowKit
theorem zbc {p:Pat}{s:ByteArray}(h:z2q s.data.toList 2=none):z8e p s=none:=by unfold z8e;rw[h]
theorem zbd {p:Pat}{s:ByteArray}{cs:List (List UInt8)}(h:z2q s.data.toList 2=some cs)(hn:¬(z7e p=0∧z8c p cs=true∧z8a p.parts cs p.parts.length=true)):z8e p s=none:=by unfold z8e;rw[h];exact if_neg hn
theorem zbe {p:Pat}{s:ByteArray}{cs:List (List UInt8)}(h:z2q s.data.toList 2=some cs)(h1:z7e p=0)(h2:z8c p cs=true)(h3:z8a p.parts cs p.parts.length=true):z8e p s=some (z8d p cs):=by unfold z8e;rw[h];exact if_pos ⟨h1,h2,h3⟩
theorem zbf {w w':World}{p:Pat}{s:ByteArray}(h:z8e p s=none)(hb:Below w.heap.size w w'):z8h w p s (.returned (.tuple #[.slice none 0 0,.bool false])) w':=
 ⟨none,0,0,by rw[h];rfl,hb,fun l hl=>by rw[h] at hl;cases hl⟩
theorem zbg {l:List ByteArray}{k:Nat}(h:k<l.length):z88 l k=l[k]:=by unfold z88;rw[List.getElem?_eq_getElem h];rfl
theorem zbh {cs:List (List UInt8)}{k:Nat}(h:k<cs.length):z89 cs k=baL cs[k]:=by unfold z89;rw[List.getElem?_eq_getElem h];rfl
theorem zbi {s:ByteArray}{cs:List (List UInt8)}(h:z2q s.data.toList 2=some cs):(∀ p∈cs,p.length≤s.size)∧cs.length≤s.size+1∧(Lib.join cs [47]).length≤s.size:=by
 unfold z2q at h;split at h
 ·injection h with h
  subst h;have hl:(s.data.toList.drop 2).length≤s.size:=by rw[List.length_drop];have:s.data.toList.length=s.size:=rfl;omega
  refine⟨fun p hp=>by have:=(z1e hp).2;omega,by have:=z1g (s.data.toList.drop 2);omega,by rw[z1i];exact hl⟩
 ·cases h
theorem zbj:∀(cs:List (List UInt8)) (n:Nat),(Lib.join (cs.drop n) [47]).length≤(Lib.join cs [47]).length
 | [],n=>by rw[List.drop_nil];exact Nat.le_refl _
 | c :: cs,0=>Nat.le_refl _
 | c :: cs,n+1=>by
  rw[List.drop_succ_cons];refine Nat.le_trans (zbj cs n) ?_;by_cases h:cs=[]
  ·subst h;rw[Lib.join_nil];exact Nat.zero_le _
  ·rw[z1h c cs h,List.length_append,List.length_append];omega
theorem zbk (p:Pat)(s:ByteArray)(A:Option Addr)(c:Nat)(w:World)(he:Env w)(hs:s.size≤1000000)(hS:Strs w (.slice A p.parts.length c) p.parts)(hz:∀ x∈p.parts,x.size≤maxLen):
  Calls Tryz.prog 71 #[.agg #[.slice A p.parts.length c,.bool p.rest],.string s] w (z8h w p s):=by
 obtain⟨A',c',e',hcc,hmm,-⟩:=id hS;injection e' with e1 e2 e3
 subst e1 e3;unfold maxLen at hmm;have HS:=hd_ hS;have HZ:=hd_ hz;have HND:=hd_ (@zbc p s);have HNO:=hd_ (fun cs=>@zbd p s cs);have HYE:=hd_ (fun cs=>@zbe p s cs);have HPN:=hd_ (fun X (h:z8e p s=none) (hb:Below w.heap.size w X)=>zbf h hb);have hB:=z0l w [.slice A p.parts.length c,.bool p.rest] 97;have hA:Below w.heap.size w (w.alloc (.cells #[.slice A p.parts.length c,.bool p.rest] 97)):=(Below.refl _ _).alloc (Nat.le_refl _) _;have HSP:=hd_ (fun X (hX:Below w.heap.size w X)=>z8i s X (he.below hX) (by omega))
 have HCK:=hd_ (fun X (hX:Below w.heap.size w X)=>za0 p A c X (hS.below hX) hz);have HSZ:=hd_ hs;clear hS hz he e2 hs;go_enter Tryz.func71,Tryz.ntmps71;go_upto_region 1 with fail;generalize w.alloc (.cells #[.slice A p.parts.length c,.bool p.rest] 97)=W1 at hB hA ⊢;have HB:=hd_ hB;have HA:=hd_ hA;clear hB hA;go_wp2_with fail;refine (HSP.out W1 HA.out).mono ?_;rintro e w2 (⟨hd,rfl,hb2⟩ | ⟨cs,hd,rfl,hw2⟩)
 ·have HB2:=hd_ (z0r HA.out hb2);have HR:=hd_ (HND.out hd);clear hd hb2;go_wp2_with fail;go_ret2;exact HPN.out _ HR.out HB2.out
 have hK2:=z0l W1 (z6v cs) 9;have hb2:Below W1.heap.size W1 (W1.alloc (.cells (z6v cs).toArray 9)):=(Below.refl _ _).alloc (Nat.le_refl _) _;rw[hw2] at hK2 hb2;have HD:=hd_ hd;have HDP:=hd_ (zbi hd);have HK2:=hd_ hK2;have HB2:=hd_ (z0r HA.out hb2);have d0:w2.cell? ⟨w.heap.size,0,none⟩=some (.slice A p.parts.length c):=(HB.out.below hb2 HB.out.lt).cell 0;have d1:w2.cell? ⟨w.heap.size,1,none⟩=some (.bool p.rest):=(HB.out.below hb2 HB.out.lt).cell 1;have HBW:=hd_ (HB.out.below hb2 HB.out.lt);clear hd hw2 hK2 hb2 HSP HND;have hcl:cs.length≤1000001:=by have:=HDP.out.2.1;have:=HSZ.out;omega
 generalize hg2:W1.heap.size=g2 at HK2 ⊢;clear hg2;have HC2:=hd_ (HCK.out w2 HB2.out);generalize hpe:z7e p=pe at HC2;have HPE:=hd_ hpe;clear hpe HCK;by_cases h0:pe=0
 case neg =>
  have q:(pe != 0)=true:=by simpa using h0
  have HR:=hd_ (HNO.out _ HD.out (fun h=>h0 (HPE.out ▸ h.1)));clear h0;go_wp2_with fail;refine HC2.out.mono ?_;rintro e w3 ⟨rfl,hb3⟩;have HB3:=hd_ (z0r HB2.out hb3);clear hb3 d0 d1;go_wp2_with fail;go_ret2;exact HPN.out _ HR.out HB3.out
 have q:(pe != 0)=false:=by simpa using h0
 have HP0:Hid (z7e p=0):=hd_ (HPE.out.trans h0);clear h0;go_wp2_with fail;refine HC2.out.mono ?_;rintro e w3 ⟨rfl,hb3⟩;have HB3:=hd_ (z0r HB2.out hb3);have HK3:=hd_ (HK2.out.below hb3 HK2.out.lt);have HBW3:=hd_ (HBW.out.below hb3 HBW.out.lt);clear hb3 d0 d1 HC2 HK2 HBW;have d0:w3.cell? ⟨w.heap.size,0,none⟩=some (.slice A p.parts.length c):=HBW3.out.cell 0;have d1:w3.cell? ⟨w.heap.size,1,none⟩=some (.bool p.rest):=HBW3.out.cell 1;obtain⟨b,hb⟩:∃ b,z8c p cs=b:=⟨_,rfl⟩;have HFB:=hd_ hb;have HFD:Hid (b=(decide (p.parts.length≤cs.length) && (decide (p.parts.length<cs.length) == p.rest))):=hd_ (by rw[← hb];rfl)
 clear hb;go_upto_region 5 with fail;go_cut [41] (fun v wx=>v=.bool (!b)∧wx=w3)
 case first =>
  by_cases h1:cs.length<p.parts.length
  ·have hbf:b=false:=by rw[HFD.out,decide_eq_false (by omega)];rfl
   have q1:decide ((cs.length:Int)<(p.parts.length:Int))=true:=by simp;omega
   have q1':decide (cs.length<p.parts.length)=true:=by simp;omega
   subst hbf;clear h1 HFD;go_wp2_with fail;go_meet
   exact⟨by first | rfl | (rw[q1'];rfl),rfl⟩
  ·have q1:decide ((cs.length:Int)<(p.parts.length:Int))=false:=by simp;omega
   have q1':decide (cs.length<p.parts.length)=false:=by simp;omega
   by_cases h2:p.parts.length<cs.length
   ·have q2:decide ((p.parts.length:Int)<(cs.length:Int))=true:=by simp;omega
    have q2':decide (p.parts.length<cs.length)=true:=by simp;omega
    have HBB:Hid ((!b)=(!(true == p.rest))):=hd_ (by rw[HFD.out,decide_eq_true (show p.parts.length≤cs.length by omega),decide_eq_true h2];cases p.rest <;> rfl)
    clear h1 h2 HFD;go_wp2_with fail;go_meet
    exact⟨by rw[HBB.out];first | rfl | (rw[q1',q2'];rfl) | simp [q1',q2'],rfl⟩
   ·have q2:decide ((p.parts.length:Int)<(cs.length:Int))=false:=by simp;omega
    have q2':decide (p.parts.length<cs.length)=false:=by simp;omega
    have HBB:Hid ((!b)=(!(false == p.rest))):=hd_ (by rw[HFD.out,decide_eq_true (show p.parts.length≤cs.length by omega),decide_eq_false h2];cases p.rest <;> rfl)
    clear h1 h2 HFD;go_wp2_with fail;go_meet
    exact⟨by rw[HBB.out];first | rfl | (rw[q1',q2'];rfl) | simp [q1',q2'],rfl⟩
 case rest =>
  obtain⟨rfl,rfl⟩:=hcut;cases b with
  | false =>
   have HR:=hd_ (HNO.out _ HD.out (fun h=>by have:=h.2.1;rw[HFB.out] at this;cases this))
   go_wp2_with fail;go_ret2;exact HPN.out _ HR.out HB3.out
  | true =>
   rw[show (!true)=false from rfl];have hle:p.parts.length≤cs.length:=by
    have:=HFD.out;simp only[Bool.true_eq,Bool.and_eq_true,decide_eq_true_eq] at this
    exact this.1
   clear HFD;have HNZ:=hd_ (fun k (hk:k<p.parts.length) (h:z82 (z88 p.parts k) (z89 cs k)=false)=>HNO.out _ HD.out (fun hh=>by have:=hh.2.2;rw[z8g hk h] at this;cases this))
   have HYY:=hd_ (fun(h:z8a p.parts cs p.parts.length=true)=>HYE.out _ HD.out HP0.out HFB.out h);have HCL:=hd_ hcl;have HLE:=hd_ hle;go_wp2_with fail;clear d0 d1;go_loopw [9,45] (fun u s wr=>∃(k m:Nat) (A2:Option Addr) (c2:Nat),s=.int .i64 k∧u=.slice A2 m c2∧k≤p.parts.length∧m≤k∧Hid (m=(z8b p.parts cs k).length∧z8a p.parts cs k=true∧Below wc.heap.size wc wr∧wr.ownsRow wc.heap.size 9 1 (.slice A2 m c2) m ((z8b p.parts cs k).map .string))) (fun _ s _=>p.parts.length - (intOf s).toNat)
   case atStart=>exact⟨0,0,none,0,rfl,rfl,Nat.zero_le _,Nat.le_refl _,rfl,rfl,Below.refl _ _,World.ownsRow_nil _ _ _ _⟩
   case round =>
    obtain⟨k,m,A2,c2,rfl,rfl,hk,hmk,HI⟩:=hrel;by_cases hlt:k<p.parts.length
    ·have hkc:k<cs.length:=by omega
     have hz1:(k:Int)<(cs.length:Int):=by omega
     have hbw:=z0r HB3.out HI.out.2.2.1;obtain⟨ad,rfl,hab,x0⟩:=Strs.at_ (HS.out.below hbw) hlt;have x1:=(HK3.out.below HI.out.2.2.1 HK3.out.lt).strs k hkc;have HX:=hd_ (zbg hlt);have HY:=hd_ (zbh hkc);have hps:(p.parts[k]).size≤9223372036854775807:=by have:=HZ.out _ (List.getElem_mem hlt);unfold maxLen at this;omega
     have hcz:(baL cs[k]).size≤9223372036854775807:=by rw[z6x];have:=HDP.out.1 _ (List.getElem_mem hkc);have:=HSZ.out;omega
     generalize p.parts[k]=part at x0 HX hps;generalize baL cs[k]=comp at x1 HY hcz;have HM:=hd_ (fun X=>z86 part comp X hps hcz);have HT:=hd_ (fun X=>z7k part X);have HNK:Hid (z82 part comp=false→z8e p s=none):=hd_ (fun h=>HNZ.out k hlt (by rw[HX.out,HY.out];exact h))
     have HZB:Hid (z82 part comp=true→z8a p.parts cs (k+1)=true):=hd_ (fun h=>by rw[z8f,HI.out.2.1,HX.out,HY.out,h];rfl)
     have HZC:Hid (z8b p.parts cs (k+1)=z8b p.parts cs k++(if z79 part then [z81 part comp] else [])):=hd_ (by rw[← HX.out,← HY.out];rfl)
     generalize z81 part comp=x at HM HZC;generalize z82 part comp=b at HM HNK HZB;generalize z79 part=st at HT HZC;clear hbw hps hcz hab;cases b with
     | false =>
      have HR:=hd_ (HNK.out rfl);have HBI:=hd_ (z0r HB3.out HI.out.2.2.1);go_wp2_with (first
       | (go_at_call 109;refine (HM.out _).mono ?_;rintro e w' ⟨rfl,rfl⟩))
      go_ret2;exact HPN.out _ HR.out HBI.out
     | true =>
      have HB:=hd_ (HZB.out rfl);cases st with
      | false =>
       have HN:Hid (m=(z8b p.parts cs (k+1)).length∧z8a p.parts cs (k+1)=true∧Below wc.heap.size wc wr∧wr.ownsRow wc.heap.size 9 1 (.slice A2 m c2) m ((z8b p.parts cs (k+1)).map .string)):=hd_ (by
        have e:z8b p.parts cs (k+1)=z8b p.parts cs k:=by rw[HZC.out];simp
        rw[e];exact⟨HI.out.1,HB.out,HI.out.2.2.1,HI.out.2.2.2⟩)
       go_wp2_with (first
        | (go_at_call 109;refine (HM.out _).mono ?_;rintro e w' ⟨rfl,rfl⟩)
        | (go_at_call 110;refine (HT.out _).mono ?_;rintro e w' ⟨rfl,rfl⟩))
       go_roundw
       case rel=>exact⟨k+1,m,A2,c2,by go_num,rfl,by omega,by omega,HN.out⟩
       case measure=>simp [intOf];omega
      | true =>
       have HOW:=hd_ HI.out.2.2.2;have HBI:=hd_ HI.out.2.2.1;go_wp2_with (first
        | (go_at_call 109;refine (HM.out _).mono ?_;rintro e w' ⟨rfl,rfl⟩)
        | (go_at_call 110;refine (HT.out _).mono ?_;rintro e w' ⟨rfl,rfl⟩)
        | (at_builtin;refine z0k rfl rfl z87 (z0n HOW.out ((Below.refl _ _).alloc (Nat.le_refl _) _)) rfl (z0i _ [.string x] _ 1 1 rfl (by decide) _ (by simp)) rfl (HBI.out.alloc HBI.out.size _) (HBI.out.alloc HBI.out.size _).size (by simp [Value.oneCell']) (by omega) (by unfold maxLen;omega) ?_;intro A' c' w5 hown5 hbl5))
       have HN:Hid (m+1=(z8b p.parts cs (k+1)).length∧z8a p.parts cs (k+1)=true∧Below wc.heap.size wc w5∧w5.ownsRow wc.heap.size 9 1 (.slice A' (m+1) c') (m+1) ((z8b p.parts cs (k+1)).map .string)):=hd_ (by
        have e:z8b p.parts cs (k+1)=z8b p.parts cs k++[x]:=by rw[HZC.out];rfl
        rw[e];refine⟨by rw[List.length_append,List.length_singleton,HI.out.1],HB.out,hbl5,?_⟩
        rw[List.map_append];exact hown5)
       clear hown5 hbl5;go_wp2_with fail;go_roundw
       case rel=>exact⟨k+1,m+1,A',c',by go_num,rfl,by omega,by omega,HN.out⟩
       case measure=>simp [intOf];omega
    ·have hke:k=p.parts.length:=by omega
     have HF:Hid (m=(z8b p.parts cs p.parts.length).length∧z8e p s=some (z8d p cs)∧Below wc.heap.size wc wr∧wr.ownsRow wc.heap.size 9 1 (.slice A2 m c2) m ((z8b p.parts cs p.parts.length).map .string)):=hd_ (by
      have h:=HI.out;rw[hke] at h;exact⟨h.1,HYY.out h.2.1,h.2.2.1,h.2.2.2⟩)
     have d1:wr.cell? ⟨w.heap.size,1,none⟩=some (.bool p.rest):=(HBW3.out.below HI.out.2.2.1 HBW3.out.lt).cell 1;have hge:¬((k:Int)<(p.parts.length:Int)):=by omega
     clear HI hke;cases hr:p.rest with
     | false =>
      rw[hr] at d1;have HRS:=hd_ hr;clear hr;go_wp2_with fail;go_ret2;refine⟨A2,m,c2,by rw[HF.out.2.1];rfl,z0r HB3.out HF.out.2.2.1,fun l hl=>?_⟩
      rw[HF.out.2.1] at hl;injection hl with hl
      have e:z8d p cs=z8b p.parts cs p.parts.length:=by unfold z8d;rw[HRS.out];simp
      rw[e] at hl;subst hl;refine⟨HF.out.1,?_⟩;have:=Row.of_own HF.out.2.2.2;rw[HF.out.1] at this ⊢;exact this
     | true =>
      rw[hr] at d1;have HRS:=hd_ hr;clear hr;have hnc:p.parts.length<cs.length:=by
       have h:=HFB.out;unfold z8c at h;rw[HRS.out] at h;simp only[Bool.and_eq_true,beq_iff_eq,decide_eq_true_eq] at h
       exact h.2
      have hK:=HK3.out.below HF.out.2.2.1 HK3.out.lt;have hat:z8k wr g2 p.parts.length (cs.drop p.parts.length):=fun j hj=>by
       rw[List.length_drop] at hj;rw[List.getElem_drop];exact hK.strs _ (by omega)
      have hJ:=z8n (cs.drop p.parts.length) g2 p.parts.length (cs.length - p.parts.length) wr hat (by rw[List.length_drop];omega) (by rw[List.length_drop];omega) (by rw[List.length_drop];omega) (by have:=zbj cs p.parts.length;have:=HDP.out.2.2;have:=HSZ.out;omega)
      rw[List.length_drop] at hJ;have HJ:=hd_ hJ;have HCP:Hid (z8d p cs=z8b p.parts cs p.parts.length++[baL (Lib.join (cs.drop p.parts.length) [47])]):=hd_ (by unfold z8d;rw[HRS.out];rfl)
      generalize baL (Lib.join (cs.drop p.parts.length) [47])=x at HJ HCP;clear hJ hat hK;go_wp2_with fail;refine HJ.out.mono ?_;rintro e w6 ⟨rfl,hb6⟩;have HOW:=hd_ (z0n HF.out.2.2.2 hb6);have HBI:=hd_ (z0r HF.out.2.2.1 hb6);clear hb6;go_wp2_with (first
       | (at_builtin;refine z0k rfl rfl z87 (z0n HOW.out ((Below.refl _ _).alloc (Nat.le_refl _) _)) rfl (z0i _ [.string x] _ 1 1 rfl (by decide) _ (by simp)) rfl (HBI.out.alloc HBI.out.size _) (HBI.out.alloc HBI.out.size _).size (by simp [Value.oneCell']) (by omega) (by unfold maxLen;omega) ?_;intro A' c' w7 hown7 hbl7))
      have HO7:=hd_ hown7;have HB7:=hd_ hbl7;clear hown7 hbl7;go_wp2_with fail;go_ret2;refine⟨A',m+1,c',by rw[HF.out.2.1];rfl,z0r HB3.out HB7.out,fun l hl=>?_⟩
      rw[HF.out.2.1] at hl;injection hl with hl
      rw[HCP.out] at hl;subst hl;have hm:=HF.out.1;refine⟨by rw[List.length_append,List.length_singleton,hm],?_⟩
      have h7:=Row.of_own HO7.out;show Row w7 1 _ (z8b p.parts cs p.parts.length++[x]).length _
      rw[List.length_append,List.length_singleton,← hm,List.map_append];exact h7
theorem zc6 {j:Nat}{x:ByteArray}(hj:0<j):z7c j x=z95 x:=by
 unfold z7c;rw[z9c,decide_eq_false (by omega:¬ j=0)]
 simp
theorem zc7 {p:Pat}(h:0<p.parts.length)(hc:z0v p.parts[0]=false):z7e p=30:=by
 by_cases h1:p.parts.length=1∧p.rest=false
 ·exact z9w h1.1 h1.2
 ·exact z9x (z7f h (by rw[z9d,hc]))
theorem zc8 {p:Pat}{j:Nat}(hj:j+1<p.parts.length)(hc:z95 p.parts[j+1]=false):z7e p=30:=z9x (z7f hj (by rw[zc6 (by omega),hc]))
theorem zc9 {p:Pat}(h1:¬(p.parts.length=0∨(p.parts.length=1∧p.rest=false)))(h0:∀ h:0<p.parts.length,z0v p.parts[0]=true)(h:∀ j (hj:j+1<p.parts.length),z95 p.parts[j+1]=true):z7e p=if 12<p.parts.length then 31 else 0:=by
 refine z9y h1 (z7g fun j hj=>?_);cases j with
 | zero=>rw[z9d];exact h0 hj
 | succ j=>rw[zc6 (by omega)];exact h j hj
theorem zca (p:Pat)(A:Option Addr)(c:Nat)(w:World)(hS:Strs w (.slice A p.parts.length c) p.parts)(hz:∀ x∈p.parts,x.size≤maxLen):
  Calls Tryz.prog 181 #[.agg #[.slice A p.parts.length c,.bool p.rest]] w fun e w'=>e=.returned (.int .i64 (z7e p))∧Below w.heap.size w w':=by
 obtain⟨A',c',e',hcc,hmm,-⟩:=id hS;injection e' with e1 e2 e3
 subst e1 e3;unfold maxLen at hmm;have HS:=hd_ hS;have HZ:=hd_ hz;have HCO:=hd_ (fun x (hx:x.size≤maxLen) X=>z8s x X hx);have HPA:=hd_ (fun x (hx:x.size≤maxLen) X=>z9o x X hx);obtain⟨parts,rest⟩:=p;dsimp only at hcc hmm HS HZ ⊢
 have HE0:=hd_ (@patE_0 ⟨parts,rest⟩);have HE1:=hd_ (@z9w ⟨parts,rest⟩);have HEC:=hd_ (@zc7 ⟨parts,rest⟩);have HEP:=hd_ (fun j hj hc=>@zc8 ⟨parts,rest⟩ j hj hc);have HEE:=hd_ (@zc9 ⟨parts,rest⟩);have hB:=z0l w [.slice A parts.length c,.bool rest] 97;have hA:Below w.heap.size w (w.alloc (.cells #[.slice A parts.length c,.bool rest] 97)):=(Below.refl _ _).alloc (Nat.le_refl _) _;clear hS hz e2;go_enter Tryz.func181,Tryz.ntmps181;go_upto_region 1 with fail;generalize w.alloc (.cells #[.slice A parts.length c,.bool rest] 97)=W1 at hB hA ⊢;have d0:W1.cell? ⟨w.heap.size,0,none⟩=some (.slice A parts.length c):=hB.cell 0;have d1:W1.cell? ⟨w.heap.size,1,none⟩=some (.bool rest):=hB.cell 1;have HB:=hd_ hB;have HA:=hd_ hA;clear hB hA;by_cases h0:parts.length=0
 ·have q0:((parts.length:Int) == 0)=true:=by rw[beq_iff_eq];omega
  have HR:=hd_ (HE0.out h0);clear h0;go_wp2_with fail;go_ret;exact⟨z7j HR.out.symm,HA.out⟩
 ·have q0:((parts.length:Int) == 0)=false:=by rw[beq_eq_false_iff_ne];omega
  by_cases h1:parts.length=1∧rest=false
  ·have q1:((parts.length:Int) == 1)=true:=by rw[beq_iff_eq];omega
   have HR:=hd_ (HE1.out h1.1 h1.2);obtain⟨h1,rfl⟩:=h1;clear h0 h1;go_wp2_with fail;go_ret;exact⟨z7j HR.out.symm,HA.out⟩
  ·have hpos:0<parts.length:=by omega
   have HN1:=hd_ (show ¬(parts.length=0∨(parts.length=1∧rest=false)) from fun h=>h.elim h0 h1);obtain⟨ad,rfl,hab,x0⟩:=Strs.at_ (HS.out.below HA.out) hpos;have hadd:(ad.add 0)=ad:=by unfold Addr.add;cases ad;simp
   have HX0:=hd_ (HCO.out _ (HZ.out _ (List.getElem_mem hpos)));have HNC:=hd_ (fun h=>HEC.out hpos h);obtain⟨fst,hfst⟩:∃ x,parts[0]=x:=⟨_,rfl⟩;rw[hfst] at x0;have HF:Hid (∀ X,Calls Tryz.prog 215 #[.string fst] X fun e w'=>e=.returned (.bool (z0v fst))∧X=w'):=hd_ (fun X=>by rw[← hfst];exact HX0.out X)
   have HNC2:Hid (z0v fst=false→z7e ⟨parts,rest⟩=30):=hd_ (fun h=>HNC.out (by dsimp only;rw[hfst];exact h))
   have HYC2:Hid (z0v fst=true→∀ h:0<parts.length,z0v parts[0]=true):=hd_ (fun h _=>by rw[hfst];exact h)
   clear hfst HX0 HNC;clear h0 hab;have hone:((parts.length:Int) == 1)=true→rest=true:=fun h=>by
    cases rest with
    | true=>rfl
    | false=>exact absurd ⟨by rw[beq_iff_eq] at h;omega,rfl⟩ h1
   clear h1;rw[hadd] at x0;clear hadd;have hp0:(0:Int)<(parts.length:Int):=by omega
   go_cut [27] (fun v wx=>v=.bool (!z0v fst)∧wx=W1)
   case first =>
    have HON:=hd_ hone;clear hone;cases q1:((parts.length:Int) == 1) with
    | true =>
     obtain rfl:=HON.out q1
     go_wp2_with fail;refine (HF.out _).mono ?_;rintro e w' ⟨rfl,rfl⟩;go_wp2_with fail;go_meet
     exact⟨rfl,rfl⟩
    | false =>
     go_wp2_with fail;refine (HF.out _).mono ?_;rintro e w' ⟨rfl,rfl⟩;go_wp2_with fail;go_meet
     exact⟨rfl,rfl⟩
   case rest =>
    obtain⟨rfl,rfl⟩:=hcut;have HNO:=hd_ hone;clear hone x0 hp0 q0;cases hc:z0v fst with
    | false =>
     have HR:=hd_ (HNC2.out hc);clear hc;go_wp2_with fail;go_ret;exact⟨z7j HR.out.symm,HA.out⟩
    | true =>
     have HYC:=hd_ (HYC2.out hc);obtain⟨A2,c2,hrun,hrow⟩:=z0b (P:=Tryz.prog) (t:=29) (lo:=1) (x:=1) (kx:=.i64) Tryz.underlying29 Tryz.sizeOf9 (HS.out.below HA.out) (by omega) rfl
     rw[Nat.one_mul,← List.map_drop] at hrow;obtain⟨l2,hl2⟩:∃ l2,parts.drop 1=l2:=⟨_,rfl⟩;have hlen:parts.length - 1=l2.length:=by rw[← hl2,List.length_drop]
     rw[hl2] at hrow;rw[hlen] at hrow hrun;have HS2:Hid (Strs wc (.slice A2 l2.length c2) l2):=hd_ hrow;have HGT:Hid (∀ j (hj:j<l2.length),∃ h:j+1<parts.length,parts[j+1]=l2[j]):=hd_ (fun j hj=>⟨by omega,by subst hl2;rw[List.getElem_drop];congr 1;omega⟩)
     have HLN:=hd_ hlen;have hl2b:l2.length≤9223372036854775806:=by omega
     clear hrow hl2 hlen hc;go_wp2_with fail;clear hrun;go_loop [32] (fun i=>∃ k:Nat,k≤l2.length∧i=.int .i64 k∧Hid (∀ j (hj:j<l2.length),j<k→z95 l2[j]=true)) (fun i=>l2.length - (intOf i).toNat)
     case atStart=>exact⟨0,Nat.zero_le _,rfl,fun j _ h=>by omega⟩
     case round =>
      obtain⟨k,hk,rfl,HI⟩:=hrel;by_cases hlt:k<l2.length
      ·obtain⟨ad2,rfl,hab2,x1⟩:=Strs.at_ HS2.out hlt;have HPX:=hd_ (fun X=>HPA.out l2[k] (by obtain⟨h,e⟩:=HGT.out k hlt;rw[← e];exact HZ.out _ (List.getElem_mem h)) X)
       have HBD:Hid (z95 l2[k]=false→z7e ⟨parts,rest⟩=30):=hd_ (fun h=>by obtain⟨h1,e⟩:=HGT.out k hlt;exact HEP.out k h1 (by rw[e];exact h))
       have HGD:Hid (z95 l2[k]=true→∀ j (hj:j<l2.length),j<k+1→z95 l2[j]=true):=hd_ (fun h j hj a=>by
        by_cases e:j=k
        ·subst e;exact h
        ·exact HI.out j hj (by omega))
       generalize hx:l2[k]=x at x1 HPX HBD HGD;clear hx HI;cases hb:z95 x with
       | false =>
        have HR:=hd_ (HBD.out hb);rw[hb] at HPX;clear hb;go_wp2_with fail;refine (HPX.out _).mono ?_;rintro e w' ⟨rfl,rfl⟩;go_wp2_with fail;go_ret;exact⟨z7j HR.out.symm,HA.out⟩
       | true =>
        have HJ:=hd_ (HGD.out hb);rw[hb] at HPX;clear hb;go_wp2_with fail;refine (HPX.out _).mono ?_;rintro e w' ⟨rfl,rfl⟩;go_wp2_with fail;go_round
        case rel=>exact⟨k+1,by omega,by go_num,HJ.out⟩
        case measure=>simp [intOf];omega
      ·have HR:=hd_ (HEE.out HN1.out (fun h=>HYC.out h) (fun j hj=>by
        obtain⟨h,e⟩:=HGT.out j (by have:=HLN.out;omega)
        rw[e];exact HI.out j _ (by have:=HLN.out;omega)))
       clear HI;by_cases h12:12<parts.length
       ·have q12:decide ((12:Int)<(parts.length:Int))=true:=by simp;omega
        have HR2:Hid (z7e ⟨parts,rest⟩=31):=hd_ (by rw[HR.out];exact if_pos h12)
        clear h12;go_wp2_with fail;go_ret;exact⟨z7j HR2.out.symm,HA.out⟩
       ·have q12:decide ((12:Int)<(parts.length:Int))=false:=by simp;omega
        have HR2:Hid (z7e ⟨parts,rest⟩=0):=hd_ (by rw[HR.out];exact if_neg h12)
        clear h12;go_wp2_with fail;go_ret;exact⟨z7j HR2.out.symm,HA.out⟩
abbrev zd1:=Pat×Option Addr×Nat
def zd1.v (q:zd1):Value:=.slice q.2.1 q.1.parts.length q.2.2
def zd1.cells (q:zd1):List Value:=[q.v,.bool q.1.rest]
def zd2 (w:World)(v:Value)(hs:List zd1):Prop:=Row w 2 v hs.length (hs.flatMap zd1.cells)∧∀ q∈hs,za9 w q.v q.1
theorem zd2.below {w w':World}{v:Value}{hs:List zd1}(h:zd2 w v hs)(hb:Below w.heap.size w w'):zd2 w' v hs:=⟨Row.below h.1 hb,fun q hq=>(h.2 q hq).below hb⟩
theorem zd2.at_ {w:World}{A:Option Addr}{c:Nat}{hs:List zd1}(h:zd2 w (.slice A hs.length c) hs){k:Nat}(hk:k<hs.length):
  ∃ ad,A=some ad∧ad.block<w.heap.size∧w.cell? (ad.add (k * 2))=some hs[k].v∧w.cell? ⟨(ad.add (k * 2)).block,(ad.add (k * 2)).off+1,none⟩=some (.bool hs[k].1.rest):=by
 obtain⟨ad,e,hb,hc⟩:=z49 (f:=zd1.cells) (n:=2) (fun _=>rfl) h.1 hk;exact⟨ad,e,hb,hc 0 _ (by rfl),hc 1 _ (by rfl)⟩
def zd3 (b:Pat)(hs:List zd1):Int:=if z7e b≠0 then 50 else if (hs.all fun q=>decide (z7e q.1=0))=false then 51 else if 64<hs.length then 52 else 0
theorem zd4 {b:Pat}{hs:List zd1}(h:z7e b≠0):zd3 b hs=50:=if_pos h
theorem zd5 {b:Pat}{hs:List zd1}{k:Nat}(hb:z7e b=0)(hk:k<hs.length)(h:z7e hs[k].1≠0):zd3 b hs=51:=by
 unfold zd3;rw[if_neg (by rw[hb];simp),if_pos]
 rw[Bool.eq_false_iff];intro ha;exact h (by simpa using List.all_eq_true.1 ha _ (List.getElem_mem hk))
theorem zd6 {b:Pat}{hs:List zd1}(hb:z7e b=0)(h:∀ j (hj:j<hs.length),z7e hs[j].1=0):zd3 b hs=if 64<hs.length then 52 else 0:=by
 unfold zd3;rw[if_neg (by rw[hb];simp),if_neg]
 rw[Bool.not_eq_false];refine List.all_eq_true.2 fun q hq=>?_;obtain⟨j,hj,rfl⟩:=List.getElem_of_mem hq;simpa using h j hj
theorem zd7 (b:Pat)(hs:List zd1)(A H:Option Addr)(a c:Nat)(w:World)(hb:za9 w (.slice A b.parts.length a) b)(hh:zd2 w (.slice H hs.length c) hs)(hl:hs.length≤1000000):
  Calls Tryz.prog 82 #[.agg #[.slice A b.parts.length a,.bool b.rest,.slice H hs.length c]] w fun e w'=>e=.returned (.int .i64 (zd3 b hs))∧Below w.heap.size w w':=by
 have hB:=z0l w [.slice A b.parts.length a,.bool b.rest,.slice H hs.length c] 115;have hA:Below w.heap.size w (w.alloc (.cells #[.slice A b.parts.length a,.bool b.rest,.slice H hs.length c] 115)):=(Below.refl _ _).alloc (Nat.le_refl _) _;have HC:=hd_ (fun X (hX:Below w.heap.size w X)=>za0 b A a X (hb.below hX).1 hb.small);have HH:=hd_ hh;have HN1:=hd_ (@zd4 b hs);have HN2:=hd_ (fun k=>@zd5 b hs k);have HN3:=hd_ (@zd6 b hs);clear hb hh;go_enter Tryz.func82,Tryz.ntmps82;go_upto_region 1 with fail;generalize w.alloc (.cells #[.slice A b.parts.length a,.bool b.rest,.slice H hs.length c] 115)=W1 at hA hB ⊢;obtain⟨d0,d1⟩:=(⟨hB.cell 0,hB.cell 1⟩:W1.cell? ⟨w.heap.size,0,none⟩=some (.slice A b.parts.length a)∧W1.cell? ⟨w.heap.size,1,none⟩=some (.bool b.rest));have HB:=hd_ hB;have HA:=hd_ hA;have HC1:=hd_ (HC.out W1 hA);clear hA hB HC;obtain⟨pe,hpe⟩:∃ pe,z7e b=pe:=⟨_,rfl⟩;have HPE:=hd_ hpe;rw[hpe] at HC1;clear hpe;by_cases h0:pe=0
 case neg =>
  have q:(pe != 0)=true:=by simpa using h0
  have HR:=hd_ (HN1.out (by rw[HPE.out];exact h0))
  clear h0;go_wp2_with fail;refine HC1.out.mono ?_;rintro e w2 ⟨rfl,hb⟩;have HB2:=hd_ (z0r HA.out hb);clear hb d0 d1;go_wp2_with fail;go_ret;exact⟨z7j HR.out.symm,HB2.out⟩
 subst h0;go_wp2_with fail;refine HC1.out.mono ?_;rintro e w2 ⟨rfl,hb⟩;have HA:=hd_ (z0r HA.out hb);have HB:=hd_ (HB.out.below hb HB.out.lt);clear hb d0 d1 HC1;have d2:w2.cell? ⟨w.heap.size,2,none⟩=some (.slice H hs.length c):=HB.out.cell 2;go_wp2_with fail;go_loopw [12] (fun i wr=>∃ k:Nat,i=.int .i64 k∧k≤hs.length∧Hid ((∀ j (hj:j<hs.length),j<k→z7e hs[j].1=0)∧Below w2.heap.size w2 wr)) (fun i _=>hs.length - (intOf i).toNat)
 case atStart=>exact⟨0,rfl,Nat.zero_le _,hd_ ⟨fun j _ h=>by omega,Below.refl _ _⟩⟩
 case round =>
  obtain⟨k,rfl,hk,HI⟩:=hrel;clear d2;by_cases hlt:k<hs.length
  ·have HHX:=hd_ (HH.out.below (z0r HA.out HI.out.2));obtain⟨ad,rfl,hab,s0,s1⟩:=HHX.out.at_ hlt;have HPK:=hd_ (HHX.out.2 hs[k] (List.getElem_mem hlt));have HNO:=hd_ (HN2.out k HPE.out hlt);have HYE:Hid (z7e hs[k].1=0→∀ j (hj:j<hs.length),j<k+1→z7e hs[j].1=0):=hd_ (fun h j hj hjk=>by
    by_cases e:j=k
    ·subst e;exact h
    ·exact HI.out.1 j hj (by omega))
   generalize hs[k]=q at s0 s1 HPK HNO HYE;obtain⟨q,Aq,cq⟩:=q;change wr.cell? _=some (.slice Aq q.parts.length cq) at s0;change wr.cell? _=some (.bool q.rest) at s1;have hX:Below w2.heap.size w2 (wr.alloc (.cells #[.slice Aq q.parts.length cq,.bool q.rest] 97)):=HI.out.2.alloc HI.out.2.size _;have hbq:Below wr.heap.size wr (wr.alloc (.cells #[.slice Aq q.parts.length cq,.bool q.rest] 97)):=(Below.refl _ _).alloc (Nat.le_refl _) _;have HCQ:=hd_ (za0 q Aq cq (wr.alloc (.cells #[.slice Aq q.parts.length cq,.bool q.rest] 97)) (HPK.out.below hbq).1 HPK.out.small);have HX:=hd_ hX;clear hab hX hbq;obtain⟨qe,hqe⟩:∃ qe,z7e q=qe:=⟨_,rfl⟩;have HQE:=hd_ hqe;rw[hqe] at HCQ;clear hqe;have HLT:=hd_ hlt;by_cases h1:qe=0
   ·subst h1;have HN:=hd_ (HYE.out HQE.out);go_wp2_with fail;refine HCQ.out.mono ?_;rintro e w4 ⟨rfl,hb⟩;have HB4:=hd_ (z0r HX.out hb);clear hb s0 s1;go_wp2_with fail;go_roundw
    case rel=>exact⟨k+1,by go_num,by omega,hd_ ⟨HN.out,HB4.out⟩⟩
    case measure=>simp [intOf];omega
   ·have hq:(qe != 0)=true:=by simpa using h1
    have HR:=hd_ (HNO.out (by show z7e q≠0;rw[HQE.out];exact h1))
    clear h1;go_wp2_with fail;refine HCQ.out.mono ?_;rintro e w4 ⟨rfl,hb⟩;have HB4:=hd_ (z0r HA.out (z0r HX.out hb));clear hb s0 s1;go_wp2_with fail;go_ret;exact⟨z7j HR.out.symm,HB4.out⟩
  ·have hke:k=hs.length:=by omega
   subst hke;have HE:=hd_ (HN3.out HPE.out (fun j hj=>HI.out.1 j hj hj));have HBE:=hd_ (z0r HA.out HI.out.2);have d2:wr.cell? ⟨w.heap.size,2,none⟩=some (.slice H hs.length c):=(HB.out.below HI.out.2 HB.out.lt).cell 2;have hge:¬((hs.length:Int)<(hs.length:Int)):=by omega
   by_cases h6:64<hs.length
   ·have q6:decide ((64:Int)<(hs.length:Int))=true:=by simp;omega
    have q7:(64:Int)<(hs.length:Int):=by omega
    have HR:=hd_ (HE.out.trans (if_pos h6));clear h6;go_wp2_with fail;go_ret;exact⟨z7j HR.out.symm,HBE.out⟩
   ·have q6:decide ((64:Int)<(hs.length:Int))=false:=by simp;omega
    have q7:¬(64:Int)<(hs.length:Int):=by omega
    have HR:=hd_ (HE.out.trans (if_neg h6));clear h6;go_wp2_with fail;go_ret;exact⟨z7j HR.out.symm,HBE.out⟩
end Go.Proofs.YtegeboijhifmcaaGreatDoor
