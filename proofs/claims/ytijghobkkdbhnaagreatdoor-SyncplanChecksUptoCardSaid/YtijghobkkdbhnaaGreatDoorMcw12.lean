/- A part. -/
import Derived.Test.YtijghobkkdbhnaaGreatDoorMcw11
set_option linter.unusedVariables false
set_option linter.unusedSimpArgs false
set_option maxHeartbeats 8000000
set_option maxRecDepth 100000
namespace Go.Proofs.YtijghobkkdbhnaaGreatDoor
open Go.RowKit
theorem zau {p:Pat}{s:ByteArray}(h:z2v s.data.toList 2=none):z8g p s=none:=by unfold z8g;rw[h]
theorem zav {p:Pat}{s:ByteArray}{cs:List (List UInt8)}(h:z2v s.data.toList 2=some cs)(hn:¬(z7g p=0∧z8e p cs=true∧z8c p.parts cs p.parts.length=true)):z8g p s=none:=by unfold z8g;rw[h];exact if_neg hn
theorem zaw {p:Pat}{s:ByteArray}{cs:List (List UInt8)}(h:z2v s.data.toList 2=some cs)(h1:z7g p=0)(h2:z8e p cs=true)(h3:z8c p.parts cs p.parts.length=true):z8g p s=some (z8f p cs):=by unfold z8g;rw[h];exact if_pos ⟨h1,h2,h3⟩
theorem zax {w w':World}{p:Pat}{s:ByteArray}(h:z8g p s=none)(hb:zB w w'):z8j w p s (.returned (.tuple #[.slice none 0 0,.bool false])) w':=
 ⟨none,0,0,by rw[h];rfl,hb,fun l hl=>by rw[h] at hl;cases hl⟩
theorem zay {l:List ByteArray}{k:Nat}(h:k<l.length):z8a l k=l[k]:=by unfold z8a;rw[List.getElem?_eq_getElem h];rfl
theorem zaz {cs:List (List UInt8)}{k:Nat}(h:k<cs.length):z8b cs k=baL cs[k]:=by unfold z8b;rw[List.getElem?_eq_getElem h];rfl
theorem zb0 {s:ByteArray}{cs:List (List UInt8)}(h:z2v s.data.toList 2=some cs):(∀ p∈cs,p.length≤s.size)∧cs.length≤s.size+1∧(Lib.join cs [47]).length≤s.size:=by
 unfold z2v at h;split at h
 ·injection h with h
  subst h;have hl:(s.data.toList.drop 2).length≤s.size:=by rw[List.length_drop];have:s.data.toList.length=s.size:=rfl;omega
  refine⟨fun p hp=>by have:=(z1j hp).2;omega,by have:=z1l (s.data.toList.drop 2);omega,by rw[z1n];exact hl⟩
 ·cases h
theorem zb1:∀(cs:List (List UInt8)) (n:Nat),(Lib.join (cs.drop n) [47]).length≤(Lib.join cs [47]).length
 | [],n=>by rw[List.drop_nil];exact Nat.le_refl _
 | c :: cs,0=>Nat.le_refl _
 | c :: cs,n+1=>by
  rw[List.drop_succ_cons];refine Nat.le_trans (zb1 cs n) ?_;by_cases h:cs=[]
  ·subst h;rw[Lib.join_nil];exact Nat.zero_le _
  ·rw[z1m c cs h,List.length_append,List.length_append];omega
theorem zb2 (p:Pat)(s:ByteArray)(A:Option Addr)(c:Nat)(w:World)(he:Env w)(hs:s.size≤1000000)(hS:Strs w (.slice A p.parts.length c) p.parts)(hz:∀ x∈p.parts,x.size≤maxLen):
  Calls Tryz.prog 77 #[.agg #[.slice A p.parts.length c,.bool p.rest],.string s] w (z8j w p s):=by
 obtain⟨A',c',e',hcc,hmm,-⟩:=id hS;injection e' with e1 e2 e3
 subst e1 e3;unfold maxLen at hmm;have HS:=hd_ hS;have HZ:=hd_ hz;have HND:=hd_ (@zau p s);have HNO:=hd_ (fun cs=>@zav p s cs);have HYE:=hd_ (fun cs=>@zaw p s cs);have HPN:=hd_ (fun X (h:z8g p s=none) (hb:zB w X)=>zax h hb);have hB:=z0l w [.slice A p.parts.length c,.bool p.rest] 68;have hA:zB w (w.alloc (.cells #[.slice A p.parts.length c,.bool p.rest] 68)):=(Below.refl _ _).alloc (Nat.le_refl _) _;have HSP:=hd_ (fun X (hX:zB w X)=>z8k s X (he.below hX) (by omega))
 have HCK:=hd_ (fun X (hX:zB w X)=>z8p p A c X (hS.below hX) hz);have HSZ:=hd_ hs;clear hS hz he e2 hs;go_enter Tryz.func77,Tryz.ntmps77;go_upto_region 1 with fail;generalize w.alloc (.cells #[.slice A p.parts.length c,.bool p.rest] 68)=W1 at hB hA ⊢;have HB:=hd_ hB;have HA:=hd_ hA;clear hB hA;go_wp2_with fail;refine (HSP.out W1 HA.out).mono ?_;rintro e w2 (⟨hd,rfl,hb2⟩ | ⟨cs,hd,rfl,hw2⟩)
 ·have HB2:=hd_ (z0r HA.out hb2);have HR:=hd_ (HND.out hd);clear hd hb2;go_wp2_with fail;go_ret2;exact HPN.out _ HR.out HB2.out
 have hK2:=z0l W1 (z6x cs) 9;have hb2:zB W1 (W1.alloc (.cells (z6x cs).toArray 9)):=(Below.refl _ _).alloc (Nat.le_refl _) _;rw[hw2] at hK2 hb2;have HD:=hd_ hd;have HDP:=hd_ (zb0 hd);have HK2:=hd_ hK2;have HB2:=hd_ (z0r HA.out hb2);have d0:w2.cell? ⟨w.heap.size,0,none⟩=some (.slice A p.parts.length c):=(HB.out.below hb2 HB.out.lt).cell 0;have d1:w2.cell? ⟨w.heap.size,1,none⟩=some (.bool p.rest):=(HB.out.below hb2 HB.out.lt).cell 1;have HBW:=hd_ (HB.out.below hb2 HB.out.lt);clear hd hw2 hK2 hb2 HSP HND;have hcl:cs.length≤1000001:=by have:=HDP.out.2.1;have:=HSZ.out;omega
 generalize hg2:W1.heap.size=g2 at HK2 ⊢;clear hg2;have HC2:=hd_ (HCK.out w2 HB2.out);generalize hpe:z7g p=pe at HC2;have HPE:=hd_ hpe;clear hpe HCK;by_cases h0:pe=0
 case neg =>
  have q:(pe != 0)=true:=by simpa using h0
  have HR:=hd_ (HNO.out _ HD.out (fun h=>h0 (HPE.out ▸ h.1)));clear h0;go_wp2_with fail;refine HC2.out.mono ?_;rintro e w3 ⟨rfl,hb3⟩;have HB3:=hd_ (z0r HB2.out hb3);clear hb3 d0 d1;go_wp2_with fail;go_ret2;exact HPN.out _ HR.out HB3.out
 have q:(pe != 0)=false:=by simpa using h0
 have HP0:Hid (z7g p=0):=hd_ (HPE.out.trans h0);clear h0;go_wp2_with fail;refine HC2.out.mono ?_;rintro e w3 ⟨rfl,hb3⟩;have HB3:=hd_ (z0r HB2.out hb3);have HK3:=hd_ (HK2.out.below hb3 HK2.out.lt);have HBW3:=hd_ (HBW.out.below hb3 HBW.out.lt);clear hb3 d0 d1 HC2 HK2 HBW;have d0:w3.cell? ⟨w.heap.size,0,none⟩=some (.slice A p.parts.length c):=HBW3.out.cell 0;have d1:w3.cell? ⟨w.heap.size,1,none⟩=some (.bool p.rest):=HBW3.out.cell 1;obtain⟨b,hb⟩:∃ b,z8e p cs=b:=⟨_,rfl⟩;have HFB:=hd_ hb;have HFD:Hid (b=(decide (p.parts.length≤cs.length) && (decide (p.parts.length<cs.length) == p.rest))):=hd_ (by rw[← hb];rfl)
 clear hb;go_upto_region 5 with fail;go_cut [41] (fun v wx=>v=.bool (!b)∧wx=w3)
 case first =>
  by_cases h1:cs.length<p.parts.length
  ·have hbf:b=false:=by rw[HFD.out,decide_eq_false (by omega)];rfl
   have q1:decide ((cs.length:Int)<(p.parts.length:Int))=true:=by simp;omega
   have q1':decide (cs.length<p.parts.length)=true:=by simp;omega
   subst hbf;clear h1 HFD;go_wp2_with fail;go_meet
   exact⟨by first | rfl | (rw[q1'];rfl),rfl⟩
  ·have q1:decide ((cs.length:Int)<(p.parts.length:Int))=false:=by simp;omega
   have q1':decide (cs.length<p.parts.length)=false:=by simp;omega
   by_cases h2:p.parts.length<cs.length
   ·have q2:decide ((p.parts.length:Int)<(cs.length:Int))=true:=by simp;omega
    have q2':decide (p.parts.length<cs.length)=true:=by simp;omega
    have HBB:Hid ((!b)=(!(true == p.rest))):=hd_ (by rw[HFD.out,decide_eq_true (show p.parts.length≤cs.length by omega),decide_eq_true h2];cases p.rest <;> rfl)
    clear h1 h2 HFD;go_wp2_with fail;go_meet
    exact⟨by rw[HBB.out];first | rfl | (rw[q1',q2'];rfl) | simp [q1',q2'],rfl⟩
   ·have q2:decide ((p.parts.length:Int)<(cs.length:Int))=false:=by simp;omega
    have q2':decide (p.parts.length<cs.length)=false:=by simp;omega
    have HBB:Hid ((!b)=(!(false == p.rest))):=hd_ (by rw[HFD.out,decide_eq_true (show p.parts.length≤cs.length by omega),decide_eq_false h2];cases p.rest <;> rfl)
    clear h1 h2 HFD;go_wp2_with fail;go_meet
    exact⟨by rw[HBB.out];first | rfl | (rw[q1',q2'];rfl) | simp [q1',q2'],rfl⟩
 case rest =>
  obtain⟨rfl,rfl⟩:=hcut;cases b with
  | false =>
   have HR:=hd_ (HNO.out _ HD.out (fun h=>by have:=h.2.1;rw[HFB.out] at this;cases this))
   go_wp2_with fail;go_ret2;exact HPN.out _ HR.out HB3.out
  | true =>
   rw[show (!true)=false from rfl];have hle:p.parts.length≤cs.length:=by
    have:=HFD.out;simp only[Bool.true_eq,Bool.and_eq_true,decide_eq_true_eq] at this
    exact this.1
   clear HFD;have HNZ:=hd_ (fun k (hk:k<p.parts.length) (h:z84 (z8a p.parts k) (z8b cs k)=false)=>HNO.out _ HD.out (fun hh=>by have:=hh.2.2;rw[z8i hk h] at this;cases this))
   have HYY:=hd_ (fun(h:z8c p.parts cs p.parts.length=true)=>HYE.out _ HD.out HP0.out HFB.out h);have HCL:=hd_ hcl;have HLE:=hd_ hle;go_wp2_with fail;clear d0 d1;go_loopw [9,45] (fun u s wr=>∃(k m:Nat) (A2:Option Addr) (c2:Nat),s=.int .i64 k∧u=.slice A2 m c2∧k≤p.parts.length∧m≤k∧Hid (m=(z8d p.parts cs k).length∧z8c p.parts cs k=true∧zB wc wr∧wr.ownsRow wc.heap.size 9 1 (.slice A2 m c2) m ((z8d p.parts cs k).map .string))) (fun _ s _=>p.parts.length - (intOf s).toNat)
   case atStart=>exact⟨0,0,none,0,rfl,rfl,Nat.zero_le _,Nat.le_refl _,rfl,rfl,Below.refl _ _,World.ownsRow_nil _ _ _ _⟩
   case round =>
    obtain⟨k,m,A2,c2,rfl,rfl,hk,hmk,HI⟩:=hrel;by_cases hlt:k<p.parts.length
    ·have hkc:k<cs.length:=by omega
     have hz1:(k:Int)<(cs.length:Int):=by omega
     have hbw:=z0r HB3.out HI.out.2.2.1;obtain⟨ad,rfl,hab,x0⟩:=Strs.at_ (HS.out.below hbw) hlt;have x1:=(HK3.out.below HI.out.2.2.1 HK3.out.lt).strs k hkc;have HX:=hd_ (zay hlt);have HY:=hd_ (zaz hkc);have hps:(p.parts[k]).size≤9223372036854775807:=by have:=HZ.out _ (List.getElem_mem hlt);unfold maxLen at this;omega
     have hcz:(baL cs[k]).size≤9223372036854775807:=by rw[z6z];have:=HDP.out.1 _ (List.getElem_mem hkc);have:=HSZ.out;omega
     generalize p.parts[k]=part at x0 HX hps;generalize baL cs[k]=comp at x1 HY hcz;have HM:=hd_ (fun X=>z88 part comp X hps hcz);have HT:=hd_ (fun X=>z7m part X);have HNK:Hid (z84 part comp=false→z8g p s=none):=hd_ (fun h=>HNZ.out k hlt (by rw[HX.out,HY.out];exact h))
     have HZB:Hid (z84 part comp=true→z8c p.parts cs (k+1)=true):=hd_ (fun h=>by rw[z8h,HI.out.2.1,HX.out,HY.out,h];rfl)
     have HZC:Hid (z8d p.parts cs (k+1)=z8d p.parts cs k++(if z7b part then [z83 part comp] else [])):=hd_ (by rw[← HX.out,← HY.out];rfl)
     generalize z83 part comp=x at HM HZC;generalize z84 part comp=b at HM HNK HZB;generalize z7b part=st at HT HZC;clear hbw hps hcz hab;cases b with
     | false =>
      have HR:=hd_ (HNK.out rfl);have HBI:=hd_ (z0r HB3.out HI.out.2.2.1);go_wp2_with (first
       | (go_at_call 134;refine (HM.out _).mono ?_;rintro e w' ⟨rfl,rfl⟩))
      go_ret2;exact HPN.out _ HR.out HBI.out
     | true =>
      have HB:=hd_ (HZB.out rfl);cases st with
      | false =>
       have HN:Hid (m=(z8d p.parts cs (k+1)).length∧z8c p.parts cs (k+1)=true∧zB wc wr∧wr.ownsRow wc.heap.size 9 1 (.slice A2 m c2) m ((z8d p.parts cs (k+1)).map .string)):=hd_ (by
        have e:z8d p.parts cs (k+1)=z8d p.parts cs k:=by rw[HZC.out];simp
        rw[e];exact⟨HI.out.1,HB.out,HI.out.2.2.1,HI.out.2.2.2⟩)
       go_wp2_with (first
        | (go_at_call 134;refine (HM.out _).mono ?_;rintro e w' ⟨rfl,rfl⟩)
        | (go_at_call 135;refine (HT.out _).mono ?_;rintro e w' ⟨rfl,rfl⟩))
       go_roundw
       case rel=>exact⟨k+1,m,A2,c2,by go_num,rfl,by omega,by omega,HN.out⟩
       case measure=>simp [intOf];omega
      | true =>
       have HOW:=hd_ HI.out.2.2.2;have HBI:=hd_ HI.out.2.2.1;go_wp2_with (first
        | (go_at_call 134;refine (HM.out _).mono ?_;rintro e w' ⟨rfl,rfl⟩)
        | (go_at_call 135;refine (HT.out _).mono ?_;rintro e w' ⟨rfl,rfl⟩)
        | (at_builtin;refine z0k rfl rfl z89 (z0n HOW.out ((Below.refl _ _).alloc (Nat.le_refl _) _)) rfl (z0i _ [.string x] _ 1 1 rfl (by decide) _ (by simp)) rfl (HBI.out.alloc HBI.out.size _) (HBI.out.alloc HBI.out.size _).size (by simp [Value.oneCell']) (by omega) (by unfold maxLen;omega) ?_;intro A' c' w5 hown5 hbl5))
       have HN:Hid (m+1=(z8d p.parts cs (k+1)).length∧z8c p.parts cs (k+1)=true∧zB wc w5∧w5.ownsRow wc.heap.size 9 1 (.slice A' (m+1) c') (m+1) ((z8d p.parts cs (k+1)).map .string)):=hd_ (by
        have e:z8d p.parts cs (k+1)=z8d p.parts cs k++[x]:=by rw[HZC.out];rfl
        rw[e];refine⟨by rw[List.length_append,List.length_singleton,HI.out.1],HB.out,hbl5,?_⟩
        rw[List.map_append];exact hown5)
       clear hown5 hbl5;go_wp2_with fail;go_roundw
       case rel=>exact⟨k+1,m+1,A',c',by go_num,rfl,by omega,by omega,HN.out⟩
       case measure=>simp [intOf];omega
    ·have hke:k=p.parts.length:=by omega
     have HF:Hid (m=(z8d p.parts cs p.parts.length).length∧z8g p s=some (z8f p cs)∧zB wc wr∧wr.ownsRow wc.heap.size 9 1 (.slice A2 m c2) m ((z8d p.parts cs p.parts.length).map .string)):=hd_ (by
      have h:=HI.out;rw[hke] at h;exact⟨h.1,HYY.out h.2.1,h.2.2.1,h.2.2.2⟩)
     have d1:wr.cell? ⟨w.heap.size,1,none⟩=some (.bool p.rest):=(HBW3.out.below HI.out.2.2.1 HBW3.out.lt).cell 1;have hge:¬((k:Int)<(p.parts.length:Int)):=by omega
     clear HI hke;cases hr:p.rest with
     | false =>
      rw[hr] at d1;have HRS:=hd_ hr;clear hr;go_wp2_with fail;go_ret2;refine⟨A2,m,c2,by rw[HF.out.2.1];rfl,z0r HB3.out HF.out.2.2.1,fun l hl=>?_⟩
      rw[HF.out.2.1] at hl;injection hl with hl
      have e:z8f p cs=z8d p.parts cs p.parts.length:=by unfold z8f;rw[HRS.out];simp
      rw[e] at hl;subst hl;refine⟨HF.out.1,?_⟩;have:=Row.of_own HF.out.2.2.2;rw[HF.out.1] at this ⊢;exact this
     | true =>
      rw[hr] at d1;have HRS:=hd_ hr;clear hr;have hnc:p.parts.length<cs.length:=by
       have h:=HFB.out;unfold z8e at h;rw[HRS.out] at h;simp only[Bool.and_eq_true,beq_iff_eq,decide_eq_true_eq] at h
       exact h.2
      have hK:=HK3.out.below HF.out.2.2.1 HK3.out.lt;have hat:z8r wr g2 p.parts.length (cs.drop p.parts.length):=fun j hj=>by
       rw[List.length_drop] at hj;rw[List.getElem_drop];exact hK.strs _ (by omega)
      have hJ:=z8u (cs.drop p.parts.length) g2 p.parts.length (cs.length - p.parts.length) wr hat (by rw[List.length_drop];omega) (by rw[List.length_drop];omega) (by rw[List.length_drop];omega) (by have:=zb1 cs p.parts.length;have:=HDP.out.2.2;have:=HSZ.out;omega)
      rw[List.length_drop] at hJ;have HJ:=hd_ hJ;have HCP:Hid (z8f p cs=z8d p.parts cs p.parts.length++[baL (Lib.join (cs.drop p.parts.length) [47])]):=hd_ (by unfold z8f;rw[HRS.out];rfl)
      generalize baL (Lib.join (cs.drop p.parts.length) [47])=x at HJ HCP;clear hJ hat hK;go_wp2_with fail;refine HJ.out.mono ?_;rintro e w6 ⟨rfl,hb6⟩;have HOW:=hd_ (z0n HF.out.2.2.2 hb6);have HBI:=hd_ (z0r HF.out.2.2.1 hb6);clear hb6;go_wp2_with (first
       | (at_builtin;refine z0k rfl rfl z89 (z0n HOW.out ((Below.refl _ _).alloc (Nat.le_refl _) _)) rfl (z0i _ [.string x] _ 1 1 rfl (by decide) _ (by simp)) rfl (HBI.out.alloc HBI.out.size _) (HBI.out.alloc HBI.out.size _).size (by simp [Value.oneCell']) (by omega) (by unfold maxLen;omega) ?_;intro A' c' w7 hown7 hbl7))
      have HO7:=hd_ hown7;have HB7:=hd_ hbl7;clear hown7 hbl7;go_wp2_with fail;go_ret2;refine⟨A',m+1,c',by rw[HF.out.2.1];rfl,z0r HB3.out HB7.out,fun l hl=>?_⟩
      rw[HF.out.2.1] at hl;injection hl with hl
      rw[HCP.out] at hl;subst hl;have hm:=HF.out.1;refine⟨by rw[List.length_append,List.length_singleton,hm],?_⟩
      have h7:=Row.of_own HO7.out;show Row w7 1 _ (z8d p.parts cs p.parts.length++[x]).length _
      rw[List.length_append,List.length_singleton,← hm,List.map_append];exact h7
theorem zcd {s:List UInt8}{k:Nat}{cs:List (List UInt8)}(h:z2v s k=some cs):∀ c∈cs,z0z c=true:=by
 unfold z2v at h;split at h
 ·rename_i hc
  injection h with h
  subst h;exact fun c hc2=>List.all_eq_true.1 hc.2.2 c hc2
 ·cases h
theorem zce {p:Pat}(h:z7g p=0){k:Nat}(hk:k<p.parts.length):z7d p.parts[k]≠0:=by
 intro hf;have:z7e k p.parts[k]=false:=by unfold z7e;rw[hf];simp
 rw[z8m (z7h hk this)] at h;cases h
def goB (p:Pat)(cs:List (List UInt8)):Bool:=decide (z7g p=0) && z8e p cs
theorem capR_eq {part comp:ByteArray}(hp:z7d part≠0)(hs:z7b part=true)(hb:z84 part comp=true):zbo part comp=z83 part comp:=by
 unfold z84 at hb;rw[if_pos hs,Bool.and_eq_true] at hb;unfold zbo z83;rw[zbs hp,hs,hb.1];simp only[Bool.and_self,if_true]
 apply z1r
 rw[zbw];unfold Lib.trimSuffix;rw[hb.1];simp
theorem zcf (p:Pat)(s:ByteArray)(A:Option Addr)(c:Nat)(w:World)(he:Env w)(hs:s.size≤1000000)(hS:Strs w (.slice A p.parts.length c) p.parts)(hz:∀ x∈p.parts,x.size≤maxLen):
  Calls Tryz.prog 195 #[.agg #[.slice A p.parts.length c,.bool p.rest],.string s] w (z8j w p s):=by
 obtain⟨A',c',e',hcc,hmm,-⟩:=id hS;injection e' with e1 e2 e3
 subst e1 e3;unfold maxLen at hmm;have HS:=hd_ hS;have HZ:=hd_ hz;have HND:=hd_ (@zau p s);have HNO:=hd_ (fun cs=>@zav p s cs);have HYE:=hd_ (fun cs=>@zaw p s cs);have HPN:=hd_ (fun X (h:z8g p s=none) (hb:zB w X)=>zax h hb);have hB:=z0l w [.slice A p.parts.length c,.bool p.rest] 68;have hA:zB w (w.alloc (.cells #[.slice A p.parts.length c,.bool p.rest] 68)):=(Below.refl _ _).alloc (Nat.le_refl _) _;have HPA:=hd_ (fun X cs (hX:zB w X) h=>z98 s cs X (he.below hX) (by omega) h)
 have HPB:=hd_ (fun X (hX:zB w X) h=>z99 s X (he.below hX) (by omega) h)
 have HCK:=hd_ (fun X (hX:zB w X)=>zcc p A c X (hS.below hX) hz);have HSZ:=hd_ hs;clear hS hz he e2 hs;go_enter Tryz.func195,Tryz.ntmps195;go_upto_region 1 with fail;generalize w.alloc (.cells #[.slice A p.parts.length c,.bool p.rest] 68)=W1 at hB hA ⊢;have HB:=hd_ hB;have HA:=hd_ hA;clear hB hA;cases hd:z2v s.data.toList 2 with
 | none =>
  have HP1:=hd_ (HPB.out W1 HA.out hd);have HR:=hd_ (HND.out hd);clear hd;go_wp2_with fail;refine HP1.out.mono ?_;rintro e w2 ⟨rfl,hb2⟩;have HB2:=hd_ (z0r HA.out hb2);have d0:w2.cell? ⟨w.heap.size,0,none⟩=some (.slice A p.parts.length c):=(HB.out.below hb2 HB.out.lt).cell 0;have d1:w2.cell? ⟨w.heap.size,1,none⟩=some (.bool p.rest):=(HB.out.below hb2 HB.out.lt).cell 1;have HC2:=hd_ (HCK.out w2 HB2.out);clear hb2;generalize z7g p=pe at HC2;by_cases h0:pe=0
  ·have q:(pe != 0)=false:=by simpa using h0
   clear h0;go_wp2_with fail;refine HC2.out.mono ?_;rintro e w3 ⟨rfl,hb3⟩;have HB3:=hd_ (z0r HB2.out hb3);clear hb3 d0 d1;go_wp2_with fail;go_ret2;exact HPN.out _ HR.out HB3.out
  ·have q:(pe != 0)=true:=by simpa using h0
   clear h0;go_wp2_with fail;refine HC2.out.mono ?_;rintro e w3 ⟨rfl,hb3⟩;have HB3:=hd_ (z0r HB2.out hb3);clear hb3 d0 d1;go_wp2_with fail;go_ret2;exact HPN.out _ HR.out HB3.out
 | some cs =>
 have HP1:=hd_ (HPA.out W1 cs HA.out hd);have hK2:=z0l W1 (z6x cs) 9;have hb2:zB W1 (W1.alloc (.cells (z6x cs).toArray 9)):=(Below.refl _ _).alloc (Nat.le_refl _) _;generalize W1.alloc (.cells (z6x cs).toArray 9)=w2 at HP1 hK2 hb2;have HD:=hd_ hd;have HDP:=hd_ (zb0 hd);have HDC:=hd_ (zcd hd);have HK2:=hd_ hK2;have HB2:=hd_ (z0r HA.out hb2);have d0:w2.cell? ⟨w.heap.size,0,none⟩=some (.slice A p.parts.length c):=(HB.out.below hb2 HB.out.lt).cell 0;have d1:w2.cell? ⟨w.heap.size,1,none⟩=some (.bool p.rest):=(HB.out.below hb2 HB.out.lt).cell 1;have HBW:=hd_ (HB.out.below hb2 HB.out.lt);clear hd hK2 hb2 HND HPA HPB;have hcl:cs.length≤1000001:=by have:=HDP.out.2.1;have:=HSZ.out;omega
 generalize hg2:W1.heap.size=g2 at HK2 HP1;clear hg2;have HC2:=hd_ (HCK.out w2 HB2.out);clear HCK;obtain⟨bb,hbb⟩:∃ b,goB p cs=b:=⟨_,rfl⟩;have HFD:Hid (bb=(decide (z7g p=0) && (decide (p.parts.length≤cs.length) && (decide (p.parts.length<cs.length) == p.rest)))):=hd_ (by rw[← hbb];rfl)
 have HFB:Hid (goB p cs=bb):=hd_ hbb;clear hbb;obtain⟨pe,hpe⟩:∃ e,z7g p=e:=⟨_,rfl⟩;rw[hpe] at HC2 HFD;have HPE:=hd_ hpe;clear hpe;go_wp2_with fail;refine HP1.out.mono ?_;rintro e w' ⟨rfl,rfl⟩;go_upto_region 3 with fail;go_cut [57] (fun v wx=>v=.bool (!bb)∧Hid (zB w2 wx))
 case first =>
  have HD0:=hd_ d0;have HD1:=hd_ d1;by_cases h0:pe=0
  case neg =>
   have q:(pe != 0)=true:=by simpa using h0
   have hbf:bb=false:=by rw[HFD.out,decide_eq_false h0];rfl
   subst hbf;clear h0 HFD;go_wp2_with fail;refine HC2.out.mono ?_;rintro e w3 ⟨rfl,hb3⟩;clear d0 d1;go_wp2_with fail;go_meet
   exact⟨rfl,hb3⟩
  have q:(pe != 0)=false:=by simpa using h0
  have HFE:Hid (bb=(decide (p.parts.length≤cs.length) && (decide (p.parts.length<cs.length) == p.rest))):=hd_ (by rw[HFD.out,decide_eq_true h0];rfl)
  clear h0 HFD;by_cases h1:cs.length<p.parts.length
  ·have hbf:bb=false:=by rw[HFE.out,decide_eq_false (by omega)];rfl
   have q1:decide ((cs.length:Int)<(p.parts.length:Int))=true:=by simp;omega
   have q1':decide (cs.length<p.parts.length)=true:=by simp;omega
   subst hbf;clear h1 HFE;go_wp2_with fail;refine HC2.out.mono ?_;rintro e w3 ⟨rfl,hb3⟩;clear d0 d1;go_wp2_with fail;go_meet
   exact⟨by first | rfl | (rw[q1'];rfl),hb3⟩
  ·have q1:decide ((cs.length:Int)<(p.parts.length:Int))=false:=by simp;omega
   have q1':decide (cs.length<p.parts.length)=false:=by simp;omega
   rcases Bool.eq_false_or_eq_true p.rest with hr | hr
   case inl =>
    rw[hr] at d1 HC2;by_cases h2:p.parts.length<cs.length
    ·have q3:((cs.length:Int) == (p.parts.length:Int))=false:=by rw[beq_eq_false_iff_ne];omega
     have q3':(cs.length == p.parts.length)=false:=by rw[beq_eq_false_iff_ne];omega
     have hbf:bb=true:=by rw[HFE.out,hr,decide_eq_true (show p.parts.length≤cs.length by omega),decide_eq_true h2];rfl
     subst hbf;clear h1 h2 HFE hr;go_wp2_with fail;refine HC2.out.mono ?_;rintro e w3 ⟨rfl,hb3⟩;have e1:w3.cell? ⟨w.heap.size,1,none⟩=some (.bool true):=(z04 d1 hb3 (z03 d1));go_wp2_with fail;go_meet
     exact⟨by first | rfl | simp [q1',q3'],hb3⟩
    ·have q3:((cs.length:Int) == (p.parts.length:Int))=true:=by rw[beq_iff_eq];omega
     have q3':(cs.length == p.parts.length)=true:=by rw[beq_iff_eq];omega
     have hbf:bb=false:=by rw[HFE.out,hr,decide_eq_false h2];simp
     subst hbf;clear h1 h2 HFE hr;go_wp2_with fail;refine HC2.out.mono ?_;rintro e w3 ⟨rfl,hb3⟩;have e1:w3.cell? ⟨w.heap.size,1,none⟩=some (.bool true):=(z04 d1 hb3 (z03 d1));go_wp2_with fail;go_meet
     exact⟨by first | rfl | simp [q1',q3'],hb3⟩
   case inr =>
    rw[hr] at d1 HC2;by_cases h2:p.parts.length<cs.length
    ·have q2:decide ((p.parts.length:Int)<(cs.length:Int))=true:=by simp;omega
     have q2':decide (p.parts.length<cs.length)=true:=by simp;omega
     have hbf:bb=false:=by rw[HFE.out,hr,decide_eq_true h2];simp
     subst hbf;clear h1 h2 HFE hr;go_wp2_with fail;refine HC2.out.mono ?_;rintro e w3 ⟨rfl,hb3⟩;have e1:w3.cell? ⟨w.heap.size,1,none⟩=some (.bool false):=(z04 d1 hb3 (z03 d1));go_wp2_with fail;go_meet
     exact⟨by first | rfl | simp [q1',q2'],hb3⟩
    ·have q2:decide ((p.parts.length:Int)<(cs.length:Int))=false:=by simp;omega
     have q2':decide (p.parts.length<cs.length)=false:=by simp;omega
     have hbf:bb=true:=by rw[HFE.out,hr,decide_eq_true (show p.parts.length≤cs.length by omega),decide_eq_false h2];rfl
     subst hbf;clear h1 h2 HFE hr;go_wp2_with fail;refine HC2.out.mono ?_;rintro e w3 ⟨rfl,hb3⟩;have e1:w3.cell? ⟨w.heap.size,1,none⟩=some (.bool false):=(z04 d1 hb3 (z03 d1));go_wp2_with fail;go_meet
     exact⟨by first | rfl | simp [q1',q2'],hb3⟩
 case rest =>
  obtain⟨rfl,hcb⟩:=hcut;have HB3:=hd_ (z0r HB2.out hcb.out);have HK3:=hd_ (HK2.out.below hcb.out HK2.out.lt);have HBW3:=hd_ (HBW.out.below hcb.out HBW.out.lt);clear hcb d0 d1 HC2 HK2 HBW HP1;have d0:wc.cell? ⟨w.heap.size,0,none⟩=some (.slice A p.parts.length c):=HBW3.out.cell 0;have d1:wc.cell? ⟨w.heap.size,1,none⟩=some (.bool p.rest):=HBW3.out.cell 1;cases bb with
  | false =>
   have HR:=hd_ (HNO.out _ HD.out (fun h=>by have h2:=HFB.out;unfold goB at h2;rw[h.1,h.2.1] at h2;cases h2))
   go_wp2_with fail;go_ret2;exact HPN.out _ HR.out HB3.out
  | true =>
   rw[show (!true)=false from rfl];have hgo:=HFB.out;unfold goB at hgo;rw[Bool.and_eq_true,decide_eq_true_eq] at hgo;have HP0:=hd_ hgo.1;have HFT:=hd_ hgo.2;have hle:p.parts.length≤cs.length:=by
    have:=hgo.2;unfold z8e at this;rw[Bool.and_eq_true,decide_eq_true_eq] at this;exact this.1
   clear HFD hgo HFB;have HNZ:=hd_ (fun k (hk:k<p.parts.length) (h:z84 (z8a p.parts k) (z8b cs k)=false)=>HNO.out _ HD.out (fun hh=>by have:=hh.2.2;rw[z8i hk h] at this;cases this))
   have HYY:=hd_ (fun(h:z8c p.parts cs p.parts.length=true)=>HYE.out _ HD.out HP0.out HFT.out h);have HCL:=hd_ hcl;have HLE:=hd_ hle;go_wp2_with fail;clear d0 d1;go_loopw [9,61] (fun u s wr=>∃(k m:Nat) (A2:Option Addr) (c2:Nat),s=.int .i64 k∧u=.slice A2 m c2∧k≤p.parts.length∧m≤k∧Hid (m=(z8d p.parts cs k).length∧z8c p.parts cs k=true∧zB wc wr∧wr.ownsRow wc.heap.size 9 1 (.slice A2 m c2) m ((z8d p.parts cs k).map .string))) (fun _ s _=>p.parts.length - (intOf s).toNat)
   case atStart=>exact⟨0,0,none,0,rfl,rfl,Nat.zero_le _,Nat.le_refl _,rfl,rfl,Below.refl _ _,World.ownsRow_nil _ _ _ _⟩
   case round =>
    obtain⟨k,m,A2,c2,rfl,rfl,hk,hmk,HI⟩:=hrel;by_cases hlt:k<p.parts.length
    ·have hkc:k<cs.length:=by omega
     have hz1:(k:Int)<(cs.length:Int):=by omega
     have hbw:=z0r HB3.out HI.out.2.2.1;obtain⟨ad,rfl,hab,x0⟩:=Strs.at_ (HS.out.below hbw) hlt;have x1:=(HK3.out.below HI.out.2.2.1 HK3.out.lt).strs k hkc;have HX:=hd_ (zay hlt);have HY:=hd_ (zaz hkc);have hps:(p.parts[k]).size≤maxLen:=HZ.out _ (List.getElem_mem hlt);have hcz:(baL cs[k]).size≤maxLen:=by rw[z6z];have:=HDP.out.1 _ (List.getElem_mem hkc);have:=HSZ.out;unfold maxLen;omega
     have hfo:=zce HP0.out hlt;have hcap:zbp p.parts[k] (baL cs[k])=z84 p.parts[k] (baL cs[k]):=zbx hfo (HDC.out _ (List.getElem_mem hkc));generalize p.parts[k]=part at x0 HX hps hcap hfo;generalize baL cs[k]=comp at x1 HY hcz hcap;have HM:=hd_ (fun X=>zc7 part comp X hps hcz);have HT:=hd_ (fun X=>zc4 part X hps);rw[hcap] at HM;unfold zc1 at HT;rw[zbs hfo] at HT;have HCE:Hid (z7b part=true→z84 part comp=true→zbo part comp=z83 part comp):=hd_ (capR_eq hfo);have HNK:Hid (z84 part comp=false→z8g p s=none):=hd_ (fun h=>HNZ.out k hlt (by rw[HX.out,HY.out];exact h))
     have HZB:Hid (z84 part comp=true→z8c p.parts cs (k+1)=true):=hd_ (fun h=>by rw[z8h,HI.out.2.1,HX.out,HY.out,h];rfl)
     have HZC:Hid (z8d p.parts cs (k+1)=z8d p.parts cs k++(if z7b part then [z83 part comp] else [])):=hd_ (by rw[← HX.out,← HY.out];rfl)
     generalize z83 part comp=x at HZC HCE;generalize zbo part comp=y at HM HCE;generalize z84 part comp=b at HM HNK HZB HCE;generalize z7b part=st at HT HZC HCE;generalize z82 part=sx at HT;clear hbw hps hcz hab hcap hfo;cases b with
     | false =>
      have HR:=hd_ (HNK.out rfl);have HBI:=hd_ (z0r HB3.out HI.out.2.2.1);go_wp2_with fail;refine (HM.out _).mono ?_;rintro e w' ⟨rfl,rfl⟩;go_wp2_with fail;go_ret2;exact HPN.out _ HR.out HBI.out
     | true =>
      have HB:=hd_ (HZB.out rfl);cases st with
      | false =>
       have HN:Hid (m=(z8d p.parts cs (k+1)).length∧z8c p.parts cs (k+1)=true∧zB wc wr∧wr.ownsRow wc.heap.size 9 1 (.slice A2 m c2) m ((z8d p.parts cs (k+1)).map .string)):=hd_ (by
        have e:z8d p.parts cs (k+1)=z8d p.parts cs k:=by rw[HZC.out];simp
        rw[e];exact⟨HI.out.1,HB.out,HI.out.2.2.1,HI.out.2.2.2⟩)
       go_wp2_with fail;refine (HM.out _).mono ?_;rintro e w' ⟨rfl,rfl⟩;go_wp2_with fail;refine (HT.out _).mono ?_;rintro e w' ⟨rfl,rfl⟩;go_wp2_with fail;go_roundw
       case rel=>exact⟨k+1,m,A2,c2,by go_num,rfl,by omega,by omega,HN.out⟩
       case measure=>simp [intOf];omega
      | true =>
       have HOW:=hd_ HI.out.2.2.2;have HBI:=hd_ HI.out.2.2.1;have hyx:=HCE.out rfl rfl;subst hyx;go_wp2_with fail;refine (HM.out _).mono ?_;rintro e w' ⟨rfl,rfl⟩;go_wp2_with fail;refine (HT.out _).mono ?_;rintro e w' ⟨rfl,rfl⟩;go_wp2_with (first
        | (at_builtin;refine z0k rfl rfl z89 (z0n HOW.out ((Below.refl _ _).alloc (Nat.le_refl _) _)) rfl (z0i _ [.string y] _ 1 1 rfl (by decide) _ (by simp)) rfl (HBI.out.alloc HBI.out.size _) (HBI.out.alloc HBI.out.size _).size (by simp [Value.oneCell']) (by omega) (by unfold maxLen;omega) ?_;intro A' c' w5 hown5 hbl5))
       have HN:Hid (m+1=(z8d p.parts cs (k+1)).length∧z8c p.parts cs (k+1)=true∧zB wc w5∧w5.ownsRow wc.heap.size 9 1 (.slice A' (m+1) c') (m+1) ((z8d p.parts cs (k+1)).map .string)):=hd_ (by
        have e:z8d p.parts cs (k+1)=z8d p.parts cs k++[y]:=by rw[HZC.out];rfl
        rw[e];refine⟨by rw[List.length_append,List.length_singleton,HI.out.1],HB.out,hbl5,?_⟩
        rw[List.map_append];exact hown5)
       clear hown5 hbl5;go_wp2_with fail;go_roundw
       case rel=>exact⟨k+1,m+1,A',c',by go_num,rfl,by omega,by omega,HN.out⟩
       case measure=>simp [intOf];omega
    ·have hke:k=p.parts.length:=by omega
     have HF:Hid (m=(z8d p.parts cs p.parts.length).length∧z8g p s=some (z8f p cs)∧zB wc wr∧wr.ownsRow wc.heap.size 9 1 (.slice A2 m c2) m ((z8d p.parts cs p.parts.length).map .string)):=hd_ (by
      have h:=HI.out;rw[hke] at h;exact⟨h.1,HYY.out h.2.1,h.2.2.1,h.2.2.2⟩)
     have d1:wr.cell? ⟨w.heap.size,1,none⟩=some (.bool p.rest):=(HBW3.out.below HI.out.2.2.1 HBW3.out.lt).cell 1;have hge:¬((k:Int)<(p.parts.length:Int)):=by omega
     clear HI hke;cases hr:p.rest with
     | false =>
      rw[hr] at d1;have HRS:=hd_ hr;clear hr;go_wp2_with fail;go_ret2;refine⟨A2,m,c2,by rw[HF.out.2.1];rfl,z0r HB3.out HF.out.2.2.1,fun l hl=>?_⟩
      rw[HF.out.2.1] at hl;injection hl with hl
      have e:z8f p cs=z8d p.parts cs p.parts.length:=by unfold z8f;rw[HRS.out];simp
      rw[e] at hl;subst hl;refine⟨HF.out.1,?_⟩;have:=Row.of_own HF.out.2.2.2;rw[HF.out.1] at this ⊢;exact this
     | true =>
      rw[hr] at d1;have HRS:=hd_ hr;clear hr;have hnc:p.parts.length<cs.length:=by
       have h:=HFT.out;unfold z8e at h;rw[HRS.out] at h;simp only[Bool.and_eq_true,beq_iff_eq,decide_eq_true_eq] at h
       exact h.2
      have hK:=HK3.out.below HF.out.2.2.1 HK3.out.lt;have hat:z8r wr g2 p.parts.length (cs.drop p.parts.length):=fun j hj=>by
       rw[List.length_drop] at hj;rw[List.getElem_drop];exact hK.strs _ (by omega)
      have hJ:=z8u (cs.drop p.parts.length) g2 p.parts.length (cs.length - p.parts.length) wr hat (by rw[List.length_drop];omega) (by rw[List.length_drop];omega) (by rw[List.length_drop];omega) (by have:=zb1 cs p.parts.length;have:=HDP.out.2.2;have:=HSZ.out;omega)
      rw[List.length_drop] at hJ;have HJ:=hd_ hJ;have HCP:Hid (z8f p cs=z8d p.parts cs p.parts.length++[baL (Lib.join (cs.drop p.parts.length) [47])]):=hd_ (by unfold z8f;rw[HRS.out];rfl)
      generalize baL (Lib.join (cs.drop p.parts.length) [47])=x at HJ HCP;clear hJ hat hK;go_wp2_with fail;refine HJ.out.mono ?_;rintro e w6 ⟨rfl,hb6⟩;have HOW:=hd_ (z0n HF.out.2.2.2 hb6);have HBI:=hd_ (z0r HF.out.2.2.1 hb6);clear hb6;go_wp2_with (first
       | (at_builtin;refine z0k rfl rfl z89 (z0n HOW.out ((Below.refl _ _).alloc (Nat.le_refl _) _)) rfl (z0i _ [.string x] _ 1 1 rfl (by decide) _ (by simp)) rfl (HBI.out.alloc HBI.out.size _) (HBI.out.alloc HBI.out.size _).size (by simp [Value.oneCell']) (by omega) (by unfold maxLen;omega) ?_;intro A' c' w7 hown7 hbl7))
      have HO7:=hd_ hown7;have HB7:=hd_ hbl7;clear hown7 hbl7;go_wp2_with fail;go_ret2;refine⟨A',m+1,c',by rw[HF.out.2.1];rfl,z0r HB3.out HB7.out,fun l hl=>?_⟩
      rw[HF.out.2.1] at hl;injection hl with hl
      rw[HCP.out] at hl;subst hl;have hm:=HF.out.1;refine⟨by rw[List.length_append,List.length_singleton,hm],?_⟩
      have h7:=Row.of_own HO7.out;show Row w7 1 _ (z8d p.parts cs p.parts.length++[x]).length _
      rw[List.length_append,List.length_singleton,← hm,List.map_append];exact h7
