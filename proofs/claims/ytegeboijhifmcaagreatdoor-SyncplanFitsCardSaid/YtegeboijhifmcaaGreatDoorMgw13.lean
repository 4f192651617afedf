/- Patterns: the walk of Match. -/
import Derived.Test.YtegeboijhifmcaaGreatDoorMgw3
import Derived.Test.YtegeboijhifmcaaGreatDoorMgw5
import Derived.Test.YtegeboijhifmcaaGreatDoorMgw7
import Derived.Test.YtegeboijhifmcaaGreatDoorMgw8
import Derived.Test.YtegeboijhifmcaaGreatDoorMgw4
import Derived.Test.YtegeboijhifmcaaGreatDoorMgw6
import Derived.Deep.DeepCutAuto
import Derived.Deep.RegionLaw
import Derived.Sort.LotA
namespace Go.Proofs.YtegeboijhifmcaaGreatDoor
set_option linter.unusedVariables false
set_option linter.unusedSimpArgs false
set_option maxHeartbeats 8000000
set_option maxRecDepth 100000
open Go.RowKit
theorem zbc {p:Pat}{s:ByteArray}(h:z2q s.data.toList 2=none):z8e p s=none:=by unfold z8e;rw[h]
theorem zbd {p:Pat}{s:ByteArray}{cs:List (List UInt8)}(h:z2q s.data.toList 2=some cs)(hn:¬(z7e p=0∧z8c p cs=true∧z8a p.parts cs p.parts.length=true)):z8e p s=none:=by unfold z8e;rw[h];exact if_neg hn
theorem zbe {p:Pat}{s:ByteArray}{cs:List (List UInt8)}(h:z2q s.data.toList 2=some cs)(h1:z7e p=0)(h2:z8c p cs=true)(h3:z8a p.parts cs p.parts.length=true):z8e p s=some (z8d p cs):=by unfold z8e;rw[h];exact if_pos ⟨h1,h2,h3⟩
theorem zbf {w w':World}{p:Pat}{s:ByteArray}(h:z8e p s=none)(hb:Below w.heap.size w w'):z8h w p s (.returned (.tuple #[.slice none 0 0,.bool false])) w':=
 ⟨none,0,0,by rw[h];rfl,hb,fun l hl=>by rw[h] at hl;cases hl⟩
theorem zbg {l:List ByteArray}{k:Nat}(h:k<l.length):z88 l k=l[k]:=by unfold z88;rw[List.getElem?_eq_getElem h];rfl
theorem zbh {cs:List (List UInt8)}{k:Nat}(h:k<cs.length):z89 cs k=baL cs[k]:=by unfold z89;rw[List.getElem?_eq_getElem h];rfl
theorem zbi {s:ByteArray}{cs:List (List UInt8)}(h:z2q s.data.toList 2=some cs):(∀ p∈cs,p.length≤s.size)∧cs.length≤s.size+1∧(Lib.join cs [47]).length≤s.size:=by
 unfold z2q at h;split at h
 ·injection h with h
  subst h;have hl:(s.data.toList.drop 2).length≤s.size:=by rw[List.length_drop];have:s.data.toList.length=s.size:=rfl;omega
  refine⟨fun p hp=>by have:=(z1e hp).2;omega,by have:=z1g (s.data.toList.drop 2);omega,by rw[z1i];exact hl⟩
 ·cases h
theorem zbj:∀(cs:List (List UInt8)) (n:Nat),(Lib.join (cs.drop n) [47]).length≤(Lib.join cs [47]).length
 | [],n=>by rw[List.drop_nil];exact Nat.le_refl _
 | c :: cs,0=>Nat.le_refl _
 | c :: cs,n+1=>by
  rw[List.drop_succ_cons];refine Nat.le_trans (zbj cs n) ?_;by_cases h:cs=[]
  ·subst h;rw[Lib.join_nil];exact Nat.zero_le _
  ·rw[z1h c cs h,List.length_append,List.length_append];omega
theorem zbk (p:Pat)(s:ByteArray)(A:Option Addr)(c:Nat)(w:World)(he:Env w)(hs:s.size≤1000000)(hS:Strs w (.slice A p.parts.length c) p.parts)(hz:∀ x∈p.parts,x.size≤maxLen):
  Calls Tryz.prog 71 #[.agg #[.slice A p.parts.length c,.bool p.rest],.string s] w (z8h w p s):=by
 obtain⟨A',c',e',hcc,hmm,-⟩:=id hS;injection e' with e1 e2 e3
 subst e1 e3;unfold maxLen at hmm;have HS:=hd_ hS;have HZ:=hd_ hz;have HND:=hd_ (@zbc p s);have HNO:=hd_ (fun cs=>@zbd p s cs);have HYE:=hd_ (fun cs=>@zbe p s cs);have HPN:=hd_ (fun X (h:z8e p s=none) (hb:Below w.heap.size w X)=>zbf h hb);have hB:=z0l w [.slice A p.parts.length c,.bool p.rest] 97;have hA:Below w.heap.size w (w.alloc (.cells #[.slice A p.parts.length c,.bool p.rest] 97)):=(Below.refl _ _).alloc (Nat.le_refl _) _;have HSP:=hd_ (fun X (hX:Below w.heap.size w X)=>z8i s X (he.below hX) (by omega))
 have HCK:=hd_ (fun X (hX:Below w.heap.size w X)=>za0 p A c X (hS.below hX) hz);have HSZ:=hd_ hs;clear hS hz he e2 hs;go_enter Tryz.func71,Tryz.ntmps71;go_upto_region 1 with fail;generalize w.alloc (.cells #[.slice A p.parts.length c,.bool p.rest] 97)=W1 at hB hA ⊢;have HB:=hd_ hB;have HA:=hd_ hA;clear hB hA;go_wp2_with fail;refine (HSP.out W1 HA.out).mono ?_;rintro e w2 (⟨hd,rfl,hb2⟩ | ⟨cs,hd,rfl,hw2⟩)
 ·have HB2:=hd_ (z0r HA.out hb2);have HR:=hd_ (HND.out hd);clear hd hb2;go_wp2_with fail;go_ret2;exact HPN.out _ HR.out HB2.out
 have hK2:=z0l W1 (z6v cs) 9;have hb2:Below W1.heap.size W1 (W1.alloc (.cells (z6v cs).toArray 9)):=(Below.refl _ _).alloc (Nat.le_refl _) _;rw[hw2] at hK2 hb2;have HD:=hd_ hd;have HDP:=hd_ (zbi hd);have HK2:=hd_ hK2;have HB2:=hd_ (z0r HA.out hb2);have d0:w2.cell? ⟨w.heap.size,0,none⟩=some (.slice A p.parts.length c):=(HB.out.below hb2 HB.out.lt).cell 0;have d1:w2.cell? ⟨w.heap.size,1,none⟩=some (.bool p.rest):=(HB.out.below hb2 HB.out.lt).cell 1;have HBW:=hd_ (HB.out.below hb2 HB.out.lt);clear hd hw2 hK2 hb2 HSP HND;have hcl:cs.length≤1000001:=by have:=HDP.out.2.1;have:=HSZ.out;omega
 generalize hg2:W1.heap.size=g2 at HK2 ⊢;clear hg2;have HC2:=hd_ (HCK.out w2 HB2.out);generalize hpe:z7e p=pe at HC2;have HPE:=hd_ hpe;clear hpe HCK;by_cases h0:pe=0
 case neg =>
  have q:(pe != 0)=true:=by simpa using h0
  have HR:=hd_ (HNO.out _ HD.out (fun h=>h0 (HPE.out ▸ h.1)));clear h0;go_wp2_with fail;refine HC2.out.mono ?_;rintro e w3 ⟨rfl,hb3⟩;have HB3:=hd_ (z0r HB2.out hb3);clear hb3 d0 d1;go_wp2_with fail;go_ret2;exact HPN.out _ HR.out HB3.out
 have q:(pe != 0)=false:=by simpa using h0
 have HP0:Hid (z7e p=0):=hd_ (HPE.out.trans h0);clear h0;go_wp2_with fail;refine HC2.out.mono ?_;rintro e w3 ⟨rfl,hb3⟩;have HB3:=hd_ (z0r HB2.out hb3);have HK3:=hd_ (HK2.out.below hb3 HK2.out.lt);have HBW3:=hd_ (HBW.out.below hb3 HBW.out.lt);clear hb3 d0 d1 HC2 HK2 HBW;have d0:w3.cell? ⟨w.heap.size,0,none⟩=some (.slice A p.parts.length c):=HBW3.out.cell 0;have d1:w3.cell? ⟨w.heap.size,1,none⟩=some (.bool p.rest):=HBW3.out.cell 1;obtain⟨b,hb⟩:∃ b,z8c p cs=b:=⟨_,rfl⟩;have HFB:=hd_ hb;have HFD:Hid (b=(decide (p.parts.length≤cs.length) && (decide (p.parts.length<cs.length) == p.rest))):=hd_ (by rw[← hb];rfl)
 clear hb;go_upto_region 5 with fail;go_cut [41] (fun v wx=>v=.bool (!b)∧wx=w3)
 case first =>
  by_cases h1:cs.length<p.parts.length
  ·have hbf:b=false:=by rw[HFD.out,decide_eq_false (by omega)];rfl
   have q1:decide ((cs.length:Int)<(p.parts.length:Int))=true:=by simp;omega
   have q1':decide (cs.length<p.parts.length)=true:=by simp;omega
   subst hbf;clear h1 HFD;go_wp2_with fail;go_meet
   exact⟨by first | rfl | (rw[q1'];rfl),rfl⟩
  ·have q1:decide ((cs.length:Int)<(p.parts.length:Int))=false:=by simp;omega
   have q1':decide (cs.length<p.parts.length)=false:=by simp;omega
   by_cases h2:p.parts.length<cs.length
   ·have q2:decide ((p.parts.length:Int)<(cs.length:Int))=true:=by simp;omega
    have q2':decide (p.parts.length<cs.length)=true:=by simp;omega
    have HBB:Hid ((!b)=(!(true == p.rest))):=hd_ (by rw[HFD.out,decide_eq_true (show p.parts.length≤cs.length by omega),decide_eq_true h2];cases p.rest <;> rfl)
    clear h1 h2 HFD;go_wp2_with fail;go_meet
    exact⟨by rw[HBB.out];first | rfl | (rw[q1',q2'];rfl) | simp [q1',q2'],rfl⟩
   ·have q2:decide ((p.parts.length:Int)<(cs.length:Int))=false:=by simp;omega
    have q2':decide (p.parts.length<cs.length)=false:=by simp;omega
    have HBB:Hid ((!b)=(!(false == p.rest))):=hd_ (by rw[HFD.out,decide_eq_true (show p.parts.length≤cs.length by omega),decide_eq_false h2];cases p.rest <;> rfl)
    clear h1 h2 HFD;go_wp2_with fail;go_meet
    exact⟨by rw[HBB.out];first | rfl | (rw[q1',q2'];rfl) | simp [q1',q2'],rfl⟩
 case rest =>
  obtain⟨rfl,rfl⟩:=hcut;cases b with
  | false =>
   have HR:=hd_ (HNO.out _ HD.out (fun h=>by have:=h.2.1;rw[HFB.out] at this;cases this))
   go_wp2_with fail;go_ret2;exact HPN.out _ HR.out HB3.out
  | true =>
   rw[show (!true)=false from rfl];have hle:p.parts.length≤cs.length:=by
    have:=HFD.out;simp only[Bool.true_eq,Bool.and_eq_true,decide_eq_true_eq] at this
    exact this.1
   clear HFD;have HNZ:=hd_ (fun k (hk:k<p.parts.length) (h:z82 (z88 p.parts k) (z89 cs k)=false)=>HNO.out _ HD.out (fun hh=>by have:=hh.2.2;rw[z8g hk h] at this;cases this))
   have HYY:=hd_ (fun(h:z8a p.parts cs p.parts.length=true)=>HYE.out _ HD.out HP0.out HFB.out h);have HCL:=hd_ hcl;have HLE:=hd_ hle;go_wp2_with fail;clear d0 d1;go_loopw [9,45] (fun u s wr=>∃(k m:Nat) (A2:Option Addr) (c2:Nat),s=.int .i64 k∧u=.slice A2 m c2∧k≤p.parts.length∧m≤k∧Hid (m=(z8b p.parts cs k).length∧z8a p.parts cs k=true∧Below wc.heap.size wc wr∧wr.ownsRow wc.heap.size 9 1 (.slice A2 m c2) m ((z8b p.parts cs k).map .string))) (fun _ s _=>p.parts.length - (intOf s).toNat)
   case atStart=>exact⟨0,0,none,0,rfl,rfl,Nat.zero_le _,Nat.le_refl _,rfl,rfl,Below.refl _ _,World.ownsRow_nil _ _ _ _⟩
   case round =>
    obtain⟨k,m,A2,c2,rfl,rfl,hk,hmk,HI⟩:=hrel;by_cases hlt:k<p.parts.length
    ·have hkc:k<cs.length:=by omega
     have hz1:(k:Int)<(cs.length:Int):=by omega
     have hbw:=z0r HB3.out HI.out.2.2.1;obtain⟨ad,rfl,hab,x0⟩:=Strs.at_ (HS.out.below hbw) hlt;have x1:=(HK3.out.below HI.out.2.2.1 HK3.out.lt).strs k hkc;have HX:=hd_ (zbg hlt);have HY:=hd_ (zbh hkc);have hps:(p.parts[k]).size≤9223372036854775807:=by have:=HZ.out _ (List.getElem_mem hlt);unfold maxLen at this;omega
     have hcz:(baL cs[k]).size≤9223372036854775807:=by rw[z6x];have:=HDP.out.1 _ (List.getElem_mem hkc);have:=HSZ.out;omega
     generalize p.parts[k]=part at x0 HX hps;generalize baL cs[k]=comp at x1 HY hcz;have HM:=hd_ (fun X=>z86 part comp X hps hcz);have HT:=hd_ (fun X=>z7k part X);have HNK:Hid (z82 part comp=false→z8e p s=none):=hd_ (fun h=>HNZ.out k hlt (by rw[HX.out,HY.out];exact h))
     have HZB:Hid (z82 part comp=true→z8a p.parts cs (k+1)=true):=hd_ (fun h=>by rw[z8f,HI.out.2.1,HX.out,HY.out,h];rfl)
     have HZC:Hid (z8b p.parts cs (k+1)=z8b p.parts cs k++(if z79 part then [z81 part comp] else [])):=hd_ (by rw[← HX.out,← HY.out];rfl)
     generalize z81 part comp=x at HM HZC;generalize z82 part comp=b at HM HNK HZB;generalize z79 part=st at HT HZC;clear hbw hps hcz hab;cases b with
     | false =>
      have HR:=hd_ (HNK.out rfl);have HBI:=hd_ (z0r HB3.out HI.out.2.2.1);go_wp2_with (first
       | (go_at_call 109;refine (HM.out _).mono ?_;rintro e w' ⟨rfl,rfl⟩))
      go_ret2;exact HPN.out _ HR.out HBI.out
     | true =>
      have HB:=hd_ (HZB.out rfl);cases st with
      | false =>
       have HN:Hid (m=(z8b p.parts cs (k+1)).length∧z8a p.parts cs (k+1)=true∧Below wc.heap.size wc wr∧wr.ownsRow wc.heap.size 9 1 (.slice A2 m c2) m ((z8b p.parts cs (k+1)).map .string)):=hd_ (by
        have e:z8b p.parts cs (k+1)=z8b p.parts cs k:=by rw[HZC.out];simp
        rw[e];exact⟨HI.out.1,HB.out,HI.out.2.2.1,HI.out.2.2.2⟩)
       go_wp2_with (first
        | (go_at_call 109;refine (HM.out _).mono ?_;rintro e w' ⟨rfl,rfl⟩)
        | (go_at_call 110;refine (HT.out _).mono ?_;rintro e w' ⟨rfl,rfl⟩))
       go_roundw
       case rel=>exact⟨k+1,m,A2,c2,by go_num,rfl,by omega,by omega,HN.out⟩
       case measure=>simp [intOf];omega
      | true =>
       have HOW:=hd_ HI.out.2.2.2;have HBI:=hd_ HI.out.2.2.1;go_wp2_with (first
        | (go_at_call 109;refine (HM.out _).mono ?_;rintro e w' ⟨rfl,rfl⟩)
        | (go_at_call 110;refine (HT.out _).mono ?_;rintro e w' ⟨rfl,rfl⟩)
        | (at_builtin;refine z0k rfl rfl z87 (z0n HOW.out ((Below.refl _ _).alloc (Nat.le_refl _) _)) rfl (z0i _ [.string x] _ 1 1 rfl (by decide) _ (by simp)) rfl (HBI.out.alloc HBI.out.size _) (HBI.out.alloc HBI.out.size _).size (by simp [Value.oneCell']) (by omega) (by unfold maxLen;omega) ?_;intro A' c' w5 hown5 hbl5))
       have HN:Hid (m+1=(z8b p.parts cs (k+1)).length∧z8a p.parts cs (k+1)=true∧Below wc.heap.size wc w5∧w5.ownsRow wc.heap.size 9 1 (.slice A' (m+1) c') (m+1) ((z8b p.parts cs (k+1)).map .string)):=hd_ (by
        have e:z8b p.parts cs (k+1)=z8b p.parts cs k++[x]:=by rw[HZC.out];rfl
        rw[e];refine⟨by rw[List.length_append,List.length_singleton,HI.out.1],HB.out,hbl5,?_⟩
        rw[List.map_append];exact hown5)
       clear hown5 hbl5;go_wp2_with fail;go_roundw
       case rel=>exact⟨k+1,m+1,A',c',by go_num,rfl,by omega,by omega,HN.out⟩
       case measure=>simp [intOf];omega
    ·have hke:k=p.parts.length:=by omega
     have HF:Hid (m=(z8b p.parts cs p.parts.length).length∧z8e p s=some (z8d p cs)∧Below wc.heap.size wc wr∧wr.ownsRow wc.heap.size 9 1 (.slice A2 m c2) m ((z8b p.parts cs p.parts.length).map .string)):=hd_ (by
      have h:=HI.out;rw[hke] at h;exact⟨h.1,HYY.out h.2.1,h.2.2.1,h.2.2.2⟩)
     have d1:wr.cell? ⟨w.heap.size,1,none⟩=some (.bool p.rest):=(HBW3.out.below HI.out.2.2.1 HBW3.out.lt).cell 1;have hge:¬((k:Int)<(p.parts.length:Int)):=by omega
     clear HI hke;cases hr:p.rest with
     | false =>
      rw[hr] at d1;have HRS:=hd_ hr;clear hr;go_wp2_with fail;go_ret2;refine⟨A2,m,c2,by rw[HF.out.2.1];rfl,z0r HB3.out HF.out.2.2.1,fun l hl=>?_⟩
      rw[HF.out.2.1] at hl;injection hl with hl
      have e:z8d p cs=z8b p.parts cs p.parts.length:=by unfold z8d;rw[HRS.out];simp
      rw[e] at hl;subst hl;refine⟨HF.out.1,?_⟩;have:=Row.of_own HF.out.2.2.2;rw[HF.out.1] at this ⊢;exact this
     | true =>
      rw[hr] at d1;have HRS:=hd_ hr;clear hr;have hnc:p.parts.length<cs.length:=by
       have h:=HFB.out;unfold z8c at h;rw[HRS.out] at h;simp only[Bool.and_eq_true,beq_iff_eq,decide_eq_true_eq] at h
       exact h.2
      have hK:=HK3.out.below HF.out.2.2.1 HK3.out.lt;have hat:z8k wr g2 p.parts.length (cs.drop p.parts.length):=fun j hj=>by
       rw[List.length_drop] at hj;rw[List.getElem_drop];exact hK.strs _ (by omega)
      have hJ:=z8n (cs.drop p.parts.length) g2 p.parts.length (cs.length - p.parts.length) wr hat (by rw[List.length_drop];omega) (by rw[List.length_drop];omega) (by rw[List.length_drop];omega) (by have:=zbj cs p.parts.length;have:=HDP.out.2.2;have:=HSZ.out;omega)
      rw[List.length_drop] at hJ;have HJ:=hd_ hJ;have HCP:Hid (z8d p cs=z8b p.parts cs p.parts.length++[baL (Lib.join (cs.drop p.parts.length) [47])]):=hd_ (by unfold z8d;rw[HRS.out];rfl)
      generalize baL (Lib.join (cs.drop p.parts.length) [47])=x at HJ HCP;clear hJ hat hK;go_wp2_with fail;refine HJ.out.mono ?_;rintro e w6 ⟨rfl,hb6⟩;have HOW:=hd_ (z0n HF.out.2.2.2 hb6);have HBI:=hd_ (z0r HF.out.2.2.1 hb6);clear hb6;go_wp2_with (first
       | (at_builtin;refine z0k rfl rfl z87 (z0n HOW.out ((Below.refl _ _).alloc (Nat.le_refl _) _)) rfl (z0i _ [.string x] _ 1 1 rfl (by decide) _ (by simp)) rfl (HBI.out.alloc HBI.out.size _) (HBI.out.alloc HBI.out.size _).size (by simp [Value.oneCell']) (by omega) (by unfold maxLen;omega) ?_;intro A' c' w7 hown7 hbl7))
      have HO7:=hd_ hown7;have HB7:=hd_ hbl7;clear hown7 hbl7;go_wp2_with fail;go_ret2;refine⟨A',m+1,c',by rw[HF.out.2.1];rfl,z0r HB3.out HB7.out,fun l hl=>?_⟩
      rw[HF.out.2.1] at hl;injection hl with hl
      rw[HCP.out] at hl;subst hl;have hm:=HF.out.1;refine⟨by rw[List.length_append,List.length_singleton,hm],?_⟩
      have h7:=Row.of_own HO7.out;show Row w7 1 _ (z8b p.parts cs p.parts.length++[x]).length _
      rw[List.length_append,List.length_singleton,← hm,List.map_append];exact h7
theorem zdy (f:ByteArray→Option Rev)(p:ByteArray):z2w f p=((f p).isSome && z2v (z2x f p).act):=by
 unfold z2w z2x;cases f p <;> rfl
theorem zdz {w:World}{g:Nat}{e:TypeId}{a0 a1 a2 a3 a4 a5 a6 a7 a8 a9 a10 a11:Value}(h:Blk w g e [a0,a1,a2,a3,a4,a5,a6,a7,a8,a9,a10,a11]):
  w.frozen? ⟨g,0,none⟩=false∧w.frozen? ⟨g,1,none⟩=false∧w.frozen? ⟨g,2,none⟩=false∧w.frozen? ⟨g,3,none⟩=false∧w.frozen? ⟨g,4,none⟩=false∧w.frozen? ⟨g,5,none⟩=false ∧
  w.frozen? ⟨g,6,none⟩=false∧w.frozen? ⟨g,7,none⟩=false∧w.frozen? ⟨g,8,none⟩=false∧w.frozen? ⟨g,9,none⟩=false∧w.frozen? ⟨g,10,none⟩=false∧w.frozen? ⟨g,11,none⟩=false:=
 ⟨h.frozen 0,h.frozen 1,h.frozen 2,h.frozen 3,h.frozen 4,h.frozen 5,h.frozen 6,h.frozen 7,h.frozen 8,h.frozen 9,h.frozen 10,h.frozen 11⟩
theorem ze0 {w:World}{g:Nat}{e:TypeId}{a0 a1 a2 a3 a4 a5 a6 a7 a8 a9 a10 a11:Value}(h:Blk w g e [a0,a1,a2,a3,a4,a5,a6,a7,a8,a9,a10,a11])(r:Rev):
  Blk ((((((((((((w.setCell ⟨g,0,none⟩ (.string r.path)).setCell ⟨g,1,none⟩ (.int .i64 r.num)).setCell ⟨g,2,none⟩ (.int .i64 r.chg)).setCell ⟨g,3,none⟩ (.int .i64 r.act)).setCell ⟨g,4,none⟩ (.int .i64 r.ty.base)).setCell ⟨g,5,none⟩ (.bool r.ty.k)).setCell ⟨g,6,none⟩ (.bool r.ty.l)).setCell ⟨g,7,none⟩ (.bool r.ty.x)).setCell ⟨g,8,none⟩ (.int .u64 r.sum)).setCell ⟨g,9,none⟩ (.int .i64 r.size)).setCell ⟨g,10,none⟩ (.string r.frm)).setCell ⟨g,11,none⟩ (.int .i64 r.fnum)) g e [.string r.path,.int .i64 r.num,.int .i64 r.chg,.int .i64 r.act,.int .i64 r.ty.base,.bool r.ty.k,.bool r.ty.l,.bool r.ty.x,.int .u64 r.sum,.int .i64 r.size,.string r.frm,.int .i64 r.fnum]:=
 ((((((((((((h.set_ 0 _).set_ 1 _).set_ 2 _).set_ 3 _).set_ 4 _).set_ 5 _).set_ 6 _).set_ 7 _).set_ 8 _).set_ 9 _).set_ 10 _).set_ 11 _)
theorem ze1 {B:Nat}{w0 w:World}{g:Nat}(h:Below B w0 w)(hg:B≤g)(r:Rev):Below B w0 ((((((((((((w.setCell ⟨g,0,none⟩ (.string r.path)).setCell ⟨g,1,none⟩ (.int .i64 r.num)).setCell ⟨g,2,none⟩ (.int .i64 r.chg)).setCell ⟨g,3,none⟩ (.int .i64 r.act)).setCell ⟨g,4,none⟩ (.int .i64 r.ty.base)).setCell ⟨g,5,none⟩ (.bool r.ty.k)).setCell ⟨g,6,none⟩ (.bool r.ty.l)).setCell ⟨g,7,none⟩ (.bool r.ty.x)).setCell ⟨g,8,none⟩ (.int .u64 r.sum)).setCell ⟨g,9,none⟩ (.int .i64 r.size)).setCell ⟨g,10,none⟩ (.string r.frm)).setCell ⟨g,11,none⟩ (.int .i64 r.fnum)):=
 ((((((((((((h.setCell hg _).setCell hg _).setCell hg _).setCell hg _).setCell hg _).setCell hg _).setCell hg _).setCell hg _).setCell hg _).setCell hg _).setCell hg _).setCell hg _)
theorem ze2 (f:ByteArray→Option Rev)(p:ByteArray)(g:Nat)(dv dr ev rv:Value)(n:Int)(cl tx:ByteArray)(bl be bn:Nat)(w:World)(hk:Chk w g dv dr n cl tx ev rv bl be bn)(hL:z7r w bl f):
  Calls Tryz.prog 204 #[.pointer (some ⟨g,0,none⟩),.string p] w
   fun e w'=>e=.returned (.tuple #[.agg #[.string (z2x f p).path,.int .i64 (z2x f p).num,.int .i64 (z2x f p).chg,.int .i64 (z2x f p).act,.int .i64 (z2x f p).ty.base,.bool (z2x f p).ty.k,.bool (z2x f p).ty.l,.bool (z2x f p).ty.x,.int .u64 (z2x f p).sum,.int .i64 (z2x f p).size,.string (z2x f p).frm,.int .i64 (z2x f p).fnum],.bool (z2w f p)])∧Below w.heap.size w w':=by
 have hbW:Below w.heap.size w (w.alloc (.cells #[.string ⟨#[]⟩,.int .i64 0,.int .i64 0,.int .i64 0,.int .i64 0,.bool false,.bool false,.bool false,.int .u64 0,.int .i64 0,.string ⟨#[]⟩,.int .i64 0] 66)):=(Below.refl _ _).alloc (Nat.le_refl _) _;have hK:Chk (w.alloc (.cells #[.string ⟨#[]⟩,.int .i64 0,.int .i64 0,.int .i64 0,.int .i64 0,.bool false,.bool false,.bool false,.int .u64 0,.int .i64 0,.string ⟨#[]⟩,.int .i64 0] 66)) g dv dr n cl tx ev rv bl be bn:=Blk.below hk hbW (Blk.lt hk);have hlk:=z7r.look2 (w:=w.alloc (.cells #[.string ⟨#[]⟩,.int .i64 0,.int .i64 0,.int .i64 0,.int .i64 0,.bool false,.bool false,.bool false,.int .u64 0,.int .i64 0,.string ⟨#[]⟩,.int .i64 0] 66)) (z2f.below hL hbW) p;obtain⟨-,-,-,-,-,k7,-,-⟩:=z4a hK;clear hK;have HL:=hd_ (zdy f p);have hgl:=Blk.lt hk;generalize z2x f p=r at hlk HL ⊢;generalize (f p).isSome=b at hlk HL;obtain⟨W,hW⟩:∃ W,W=(w.alloc (.cells #[.string ⟨#[]⟩,.int .i64 0,.int .i64 0,.int .i64 0,.int .i64 0,.bool false,.bool false,.bool false,.int .u64 0,.int .i64 0,.string ⟨#[]⟩,.int .i64 0] 66)).alloc (.cells #[.string r.path,.int .i64 r.num,.int .i64 r.chg,.int .i64 r.act,.int .i64 r.ty.base,.bool r.ty.k,.bool r.ty.l,.bool r.ty.x,.int .u64 r.sum,.int .i64 r.size,.string r.frm,.int .i64 r.fnum] 66):=⟨_,rfl⟩;have hbW2:Below w.heap.size w W:=by rw[hW];exact hbW.alloc hbW.size _
 have hZ:Blk W w.heap.size 66 [.string ⟨#[]⟩,.int .i64 0,.int .i64 0,.int .i64 0,.int .i64 0,.bool false,.bool false,.bool false,.int .u64 0,.int .i64 0,.string ⟨#[]⟩,.int .i64 0]:=by rw[hW];exact (z0l w _ _).alloc _
 have hR:Blk W (w.heap.size+1) 66 [.string r.path,.int .i64 r.num,.int .i64 r.chg,.int .i64 r.act,.int .i64 r.ty.base,.bool r.ty.k,.bool r.ty.l,.bool r.ty.x,.int .u64 r.sum,.int .i64 r.size,.string r.frm,.int .i64 r.fnum]:=by
  rw[hW];have:=z0l (w.alloc (.cells #[.string ⟨#[]⟩,.int .i64 0,.int .i64 0,.int .i64 0,.int .i64 0,.bool false,.bool false,.bool false,.int .u64 0,.int .i64 0,.string ⟨#[]⟩,.int .i64 0] 66)) [.string r.path,.int .i64 r.num,.int .i64 r.chg,.int .i64 r.act,.int .i64 r.ty.base,.bool r.ty.k,.bool r.ty.l,.bool r.ty.x,.int .u64 r.sum,.int .i64 r.size,.string r.frm,.int .i64 r.fnum] 66;simpa using this
 have HW:=hd_ hW;clear hW;obtain⟨c0,c1,c2,c3,c4,c5,c6,c7,c8,c9,c10,c11⟩:=z7z hR;obtain⟨z0,z1,z2,z3,z4,z5,z6,z7,z8,z9,z10,z11⟩:=z7z hZ;obtain⟨y0,y1,y2,y3,y4,y5,y6,y7,y8,y9,y10,y11⟩:=zdz hZ;cases b
 ·go_enter Tryz.func204,Tryz.ntmps204;go_wp2_with fail;rw[← HW.out];clear hlk k7 hbW;go_region
  have hZ2:=ze0 hZ r;have hB2:=ze1 hbW2 (Nat.le_refl w.heap.size) r;generalize ((((((((((((W.setCell ⟨w.heap.size,0,none⟩ (.string r.path)).setCell ⟨w.heap.size,1,none⟩ (.int .i64 r.num)).setCell ⟨w.heap.size,2,none⟩ (.int .i64 r.chg)).setCell ⟨w.heap.size,3,none⟩ (.int .i64 r.act)).setCell ⟨w.heap.size,4,none⟩ (.int .i64 r.ty.base)).setCell ⟨w.heap.size,5,none⟩ (.bool r.ty.k)).setCell ⟨w.heap.size,6,none⟩ (.bool r.ty.l)).setCell ⟨w.heap.size,7,none⟩ (.bool r.ty.x)).setCell ⟨w.heap.size,8,none⟩ (.int .u64 r.sum)).setCell ⟨w.heap.size,9,none⟩ (.int .i64 r.size)).setCell ⟨w.heap.size,10,none⟩ (.string r.frm)).setCell ⟨w.heap.size,11,none⟩ (.int .i64 r.fnum))=W3 at hZ2 hB2 ⊢;go_wp2_with fail;obtain⟨e0,e1,e2,e3,e4,e5,e6,e7,e8,e9,e10,e11⟩:=z7z hZ2;refine bodyPost_ret (v:=.tuple #[.agg #[.string r.path,.int .i64 r.num,.int .i64 r.chg,.int .i64 r.act,.int .i64 r.ty.base,.bool r.ty.k,.bool r.ty.l,.bool r.ty.x,.int .u64 r.sum,.int .i64 r.size,.string r.frm,.int .i64 r.fnum],.bool false]) (by simp [results,Tryz.results204,go_sem,e0,e1,e2,e3,e4,e5,e6,e7,e8,e9,e10,e11]) rfl ⟨?_,hB2.drew⟩
  rw[HL.out];rfl
 ·go_enter Tryz.func204,Tryz.ntmps204;go_wp2_with fail;rw[← HW.out];clear hlk k7 hbW;go_region_with (go_at_call 206;refine (z3f _ _).mono ?_;rintro e w' ⟨rfl,rfl⟩)
  all_goals
   have hZ2:=ze0 hZ r;have hB2:=ze1 hbW2 (Nat.le_refl w.heap.size) r;generalize ((((((((((((W.setCell ⟨w.heap.size,0,none⟩ (.string r.path)).setCell ⟨w.heap.size,1,none⟩ (.int .i64 r.num)).setCell ⟨w.heap.size,2,none⟩ (.int .i64 r.chg)).setCell ⟨w.heap.size,3,none⟩ (.int .i64 r.act)).setCell ⟨w.heap.size,4,none⟩ (.int .i64 r.ty.base)).setCell ⟨w.heap.size,5,none⟩ (.bool r.ty.k)).setCell ⟨w.heap.size,6,none⟩ (.bool r.ty.l)).setCell ⟨w.heap.size,7,none⟩ (.bool r.ty.x)).setCell ⟨w.heap.size,8,none⟩ (.int .u64 r.sum)).setCell ⟨w.heap.size,9,none⟩ (.int .i64 r.size)).setCell ⟨w.heap.size,10,none⟩ (.string r.frm)).setCell ⟨w.heap.size,11,none⟩ (.int .i64 r.fnum))=W3 at hZ2 hB2 ⊢;go_wp2_with fail;obtain⟨e0,e1,e2,e3,e4,e5,e6,e7,e8,e9,e10,e11⟩:=z7z hZ2;refine bodyPost_ret (v:=.tuple #[.agg #[.string r.path,.int .i64 r.num,.int .i64 r.chg,.int .i64 r.act,.int .i64 r.ty.base,.bool r.ty.k,.bool r.ty.l,.bool r.ty.x,.int .u64 r.sum,.int .i64 r.size,.string r.frm,.int .i64 r.fnum],.bool (z2v r.act)]) (by simp [results,Tryz.results204,go_sem,e0,e1,e2,e3,e4,e5,e6,e7,e8,e9,e10,e11]) rfl ⟨?_,hB2.drew⟩
   rw[HL.out];rfl
def zgn:ByteArray→Option Rev:=fun _=>none
theorem knOne (p:ByteArray)(g bl be bn:Nat)(Ae:Option Addr)(ce:Nat)(w:World)(hk:Chk w g (.slice none 0 0) (.slice none 0 0) 1 ⟨#[]⟩ ⟨#[]⟩ (.slice Ae 2 ce) (.slice none 0 0) bl be bn)(hL:z7r w bl zgn):
  Calls Tryz.prog 166 #[.pointer (some ⟨g,0,none⟩),.agg #[.string p,.int .i64 1,.int .i64 1,.bool false,.bool false,.bool false,.int .u64 1,.int .i64 1,.int .i64 0,.string ⟨#[]⟩,.int .i64 0,.int .i64 0]] w fun e w'=>e=.returned (.int .i64 0)∧Below w.heap.size w w':=by
 have hbW:Below w.heap.size w (w.alloc (.cells #[.string p,.int .i64 1,.int .i64 1,.bool false,.bool false,.bool false,.int .u64 1,.int .i64 1,.int .i64 0,.string ⟨#[]⟩,.int .i64 0,.int .i64 0] 90)):=(Below.refl _ _).alloc (Nat.le_refl _) _;have HLV:Hid (Calls Tryz.prog 204 #[.pointer (some ⟨g,0,none⟩),.string p] (w.alloc (.cells #[.string p,.int .i64 1,.int .i64 1,.bool false,.bool false,.bool false,.int .u64 1,.int .i64 1,.int .i64 0,.string ⟨#[]⟩,.int .i64 0,.int .i64 0] 90)) fun e w'=>e=.returned (.tuple #[.agg #[.string ⟨#[]⟩,.int .i64 0,.int .i64 0,.int .i64 0,.int .i64 0,.bool false,.bool false,.bool false,.int .u64 0,.int .i64 0,.string ⟨#[]⟩,.int .i64 0],.bool false])∧Below (w.alloc (.cells #[.string p,.int .i64 1,.int .i64 1,.bool false,.bool false,.bool false,.int .u64 1,.int .i64 1,.int .i64 0,.string ⟨#[]⟩,.int .i64 0,.int .i64 0] 90)).heap.size (w.alloc (.cells #[.string p,.int .i64 1,.int .i64 1,.bool false,.bool false,.bool false,.int .u64 1,.int .i64 1,.int .i64 0,.string ⟨#[]⟩,.int .i64 0,.int .i64 0] 90)) w'):=hd_ (ze2 zgn p g _ _ _ _ 1 _ _ bl be bn _ (Blk.below hk hbW (Blk.lt hk)) (z2f.below hL hbW));have HX0:=hd_ (z0l w [.string p,.int .i64 1,.int .i64 1,.bool false,.bool false,.bool false,.int .u64 1,.int .i64 1,.int .i64 0,.string ⟨#[]⟩,.int .i64 0,.int .i64 0] 90);have HFT:=hd_ (fun W=>z35 1 false false false W);have HIL:=hd_ (fun W=>z3f 1 W);have HB:=hd_ hbW;clear hk hL hbW;go_enter Tryz.func166,Tryz.ntmps166;go_wp2_with fail;refine HLV.out.mono ?_;rintro e w1 ⟨rfl,hb1⟩;dsimp only;have hX1:=(HX0.out.below hb1 HX0.out.lt).alloc (.cells #[.string ⟨#[]⟩,.int .i64 0,.int .i64 0,.int .i64 0,.int .i64 0,.bool false,.bool false,.bool false,.int .u64 0,.int .i64 0,.string ⟨#[]⟩,.int .i64 0] 66);obtain⟨c0,c1,c2,c3,c4,c5,c6,c7,c8,c9,c10,c11⟩:=z7z hX1;have hR:=z0l w1 [.string ⟨#[]⟩,.int .i64 0,.int .i64 0,.int .i64 0,.int .i64 0,.bool false,.bool false,.bool false,.int .u64 0,.int .i64 0,.string ⟨#[]⟩,.int .i64 0] 66;obtain⟨d0,d1,d2,d3,d4,d5,d6,d7,d8,d9,d10,d11⟩:=z7z hR
 have HBW:=hd_ (zcf (z0r HB.out hb1) (.cells #[.string ⟨#[]⟩,.int .i64 0,.int .i64 0,.int .i64 0,.int .i64 0,.bool false,.bool false,.bool false,.int .u64 0,.int .i64 0,.string ⟨#[]⟩,.int .i64 0] 66));have HX1:=hd_ hX1;have HR1:=hd_ hR;clear hb1 hX1 hR HLV HB HX0;go_upto_region 2 with fail;generalize w1.alloc (.cells #[.string ⟨#[]⟩,.int .i64 0,.int .i64 0,.int .i64 0,.int .i64 0,.bool false,.bool false,.bool false,.int .u64 0,.int .i64 0,.string ⟨#[]⟩,.int .i64 0] 66)=W1 at c0 c1 c2 c3 c4 c5 c6 c7 c8 c9 c10 c11 d0 d1 d2 d3 d4 d5 d6 d7 d8 d9 d10 d11 HBW HX1 HR1 ⊢;generalize w1.heap.size=g2 at d0 d1 d2 d3 d4 d5 d6 d7 d8 d9 d10 d11 HR1 ⊢;go_wp2_with fail;refine (HFT.out _).mono ?_;rintro e w5 ⟨rfl,hb5⟩;have HB5:=hd_ (z0r HBW.out hb5);clear c0 c1 c2 c3 c4 c5 c6 c7 c8 c9 c10 c11 d0 d1 d2 d3 d4 d5 d6 d7 d8 d9 d10 d11;obtain⟨c0,c1,c2,c3,c4,c5,c6,c7,c8,c9,c10,c11⟩:=z7z (HX1.out.below hb5 HX1.out.lt);clear hb5;have q0:z2k 90 (z2j 1 false false)=0:=rfl;rw[q0];go_wp2_with fail;refine (HIL.out _).mono ?_;rintro e w6 ⟨rfl,rfl⟩;have q1:z2v 1=true:=rfl;rw[q1];go_wp2_with fail;go_ret;exact⟨rfl,HB5.out⟩
theorem knSize (g bl be bn:Nat)(Ae:Option Addr)(ce:Nat)(w:World)(hk:Chk w g (.slice none 0 0) (.slice none 0 0) 1 ⟨#[]⟩ ⟨#[]⟩ (.slice Ae 2 ce) (.slice none 0 0) bl be bn):Calls Tryz.prog 113 #[.pointer (some ⟨g,0,none⟩)] w fun e w'=>e=.returned (.int .i64 0)∧Below w.heap.size w w':=by
 obtain⟨k0,k1,k2,k5,k6,-,-,-⟩:=z4a hk;have HK:=hd_ hk;clear hk;go_enter Tryz.func113,Tryz.ntmps113;go_upto_region 1 with fail;go_quiet (fail)
 go_wp2_with fail;refine wp_loop_rounds 1 ?_;rw[rounds_succ];go_wp2_with fail;go_ret;exact⟨rfl,below_drewN (Below.refl _ _) _⟩
theorem knRoom (g bl be bn:Nat)(Ae:Option Addr)(ce:Nat)(w:World)(hk:Chk w g (.slice none 0 0) (.slice none 0 0) 1 ⟨#[]⟩ ⟨#[]⟩ (.slice Ae 2 ce) (.slice none 0 0) bl be bn):Calls Tryz.prog 117 #[.pointer (some ⟨g,0,none⟩)] w fun e w'=>e=.returned (.int .i64 0)∧Below w.heap.size w w':=by
 obtain⟨k0,k1,k2,k5,k6,-,-,-⟩:=z4a hk;clear hk;go_enter Tryz.func117,Tryz.ntmps117;go_upto_region 1 with fail;go_quiet (fail)
 go_wp2_with fail;go_ret;exact⟨rfl,below_drewN (Below.refl _ _) _⟩
theorem knRecs (g bl be bn:Nat)(Ae:Option Addr)(ce:Nat)(w:World)(hk:Chk w g (.slice none 0 0) (.slice none 0 0) 1 ⟨#[]⟩ ⟨#[]⟩ (.slice Ae 2 ce) (.slice none 0 0) bl be bn):Calls Tryz.prog 116 #[.pointer (some ⟨g,0,none⟩)] w fun e w'=>e=.returned (.int .i64 0)∧Below w.heap.size w w':=by
 have hA:Below w.heap.size w (w.alloc (.map #[] 0)):=(Below.refl _ _).alloc (Nat.le_refl _) _;obtain⟨k0,k1,k2,k5,k6,-,-,-⟩:=z4a (Blk.below hk hA (Blk.lt hk));clear hk;have hmm:=@run_makeMap Tryz.prog;go_enter Tryz.func116,Tryz.ntmps116;go_wp2_with fail;refine wp_loop_rounds 1 ?_;rw[rounds_succ];go_wp2_with fail;refine wp_loop_rounds 1 ?_;rw[rounds_succ];go_wp2_with fail;go_ret;exact⟨rfl,hA⟩
def knE (p:ByteArray):Edt:=⟨p,1,⟨1,false,false,false⟩,1,1,0,z2l,0,0⟩
def knA:ByteArray:=⟨#[47,47,100,47,97]⟩
def knB:ByteArray:=⟨#[47,47,100,47,98]⟩
def KnE (w:World)(Ae:Option Addr)(ce:Nat):Prop:=z47 w (.slice Ae 2 ce) [knE knA,knE knB]
def KnAt (w:World)(a:Addr)(p:ByteArray):Prop:=w.cell? a=some (.string p)∧w.cell? ⟨a.block,a.off+1,none⟩=some (.int .i64 1)∧w.cell? ⟨a.block,a.off+2,none⟩=some (.int .i64 1)∧w.cell? ⟨a.block,a.off+3,none⟩=some (.bool false)∧w.cell? ⟨a.block,a.off+4,none⟩=some (.bool false)∧w.cell? ⟨a.block,a.off+5,none⟩=some (.bool false)∧w.cell? ⟨a.block,a.off+6,none⟩=some (.int .u64 1)∧w.cell? ⟨a.block,a.off+7,none⟩=some (.int .i64 1)∧w.cell? ⟨a.block,a.off+8,none⟩=some (.int .i64 0)∧w.cell? ⟨a.block,a.off+9,none⟩=some (.string ⟨#[]⟩)∧w.cell? ⟨a.block,a.off+10,none⟩=some (.int .i64 0)∧w.cell? ⟨a.block,a.off+11,none⟩=some (.int .i64 0)
theorem KnE.at_ {w:World}{A:Option Addr}{c:Nat}(h:KnE w A c)(k:Nat)(hk:k<2):∃ ad p,A=some ad∧ad.block<w.heap.size∧KnAt w (ad.add (k * 12)) p∧(k=0→p=knA)∧(k=1→p=knB):=by
 obtain⟨ad,e,hb,hx⟩:=z47.at_ (l:=[knE knA,knE knB]) h (k:=k) hk;rcases (by omega:k=0∨k=1) with rfl | rfl
 ·exact⟨ad,knA,e,hb,hx,fun _=>rfl,(fun e=>by cases e)⟩
 ·exact⟨ad,knB,e,hb,hx,(fun e=>by cases e),fun _=>rfl⟩
theorem KnE.below {w w':World}{A:Option Addr}{c:Nat}(h:KnE w A c)(hb:Below w.heap.size w w'):KnE w' A c:=z47.below h hb
theorem knMoves (g bl be bn:Nat)(Ae:Option Addr)(ce:Nat)(w:World)(hk:Chk w g (.slice none 0 0) (.slice none 0 0) 1 ⟨#[]⟩ ⟨#[]⟩ (.slice Ae 2 ce) (.slice none 0 0) bl be bn)(hE:KnE w Ae ce):Calls Tryz.prog 115 #[.pointer (some ⟨g,0,none⟩)] w fun e w'=>e=.returned (.int .i64 0)∧Below w.heap.size w w':=by
 have HK:=hd_ (fun X (h:Below w.heap.size w X)=>z4a (Blk.below hk h (Blk.lt hk)));have HE:=hd_ (fun X (h:Below w.heap.size w X)=>KnE.below hE h);clear hk hE;have hA:Below w.heap.size w (w.alloc (.map #[] 0)):=(Below.refl _ _).alloc (Nat.le_refl _) _;obtain⟨-,-,-,k5,-,-,-,-⟩:=HK.out _ hA;have hmm:=@run_makeMap Tryz.prog;go_enter Tryz.func115,Tryz.ntmps115;go_wp2_with fail;clear hmm k5;generalize w.alloc (.map #[] 0)=W1 at hA ⊢;go_loopw [15] (fun i wr=>∃ k:Nat,i=.int .i64 k∧k≤2∧Below w.heap.size w wr) (fun i _=>2 - (intOf i).toNat)
 case atStart=>exact⟨0,rfl,by omega,hA⟩
 case round =>
  obtain⟨k,rfl,hk,hb⟩:=hrel;by_cases hlt:k<2
  ·obtain⟨ad,p,rfl,hab,⟨x0,x1,x2,x3,x4,x5,x6,x7,x8,x9,x10,x11⟩,-,-⟩:=(HE.out wr hb).at_ k hlt;have hb2:=zcf hb (.cells #[.string p,.int .i64 1,.int .i64 1,.bool false,.bool false,.bool false,.int .u64 1,.int .i64 1,.int .i64 0,.string ⟨#[]⟩,.int .i64 0,.int .i64 0] 90);have q:decide ((k:Int)<2)=true:=by simp;omega
   go_wp2_with fail;go_roundw
   case rel=>exact⟨k+1,by go_num,by omega,hb2⟩
   case measure=>simp [intOf];omega
  ·have hk2:k=2:=by omega
   subst hk2;obtain⟨-,-,-,k5,-,-,-,-⟩:=HK.out _ hb;go_wp2_with fail;clear k5;go_loopw [34] (fun i wr=>∃ k:Nat,i=.int .i64 k∧k≤2∧Below w.heap.size w wr) (fun i _=>2 - (intOf i).toNat)
   case atStart=>exact⟨0,rfl,by omega,hb⟩
   case round =>
    obtain⟨k,rfl,hk,hb⟩:=hrel;by_cases hlt:k<2
    ·obtain⟨ad,p,rfl,hab,⟨x0,x1,x2,x3,x4,x5,x6,x7,x8,x9,x10,x11⟩,-,-⟩:=(HE.out wr hb).at_ k hlt;have hb2:=zcf hb (.cells #[.string p,.int .i64 1,.int .i64 1,.bool false,.bool false,.bool false,.int .u64 1,.int .i64 1,.int .i64 0,.string ⟨#[]⟩,.int .i64 0,.int .i64 0] 90);have q:decide ((k:Int)<2)=true:=by simp;omega
     go_wp2_with fail;go_roundw
     case rel=>exact⟨k+1,by go_num,by omega,hb2⟩
     case measure=>simp [intOf];omega
    ·have hk2:k=2:=by omega
     subst hk2;go_wp2_with fail;go_ret;exact⟨rfl,hb⟩
theorem zgv (revs:List Rev)(p:ByteArray)(k:Nat)(h:k<revs.length):zgp (revs.take (k+1)) p=zgp (revs.take k) p++(if revs[k].path=p then [revs[k]] else []):=by
 rw[List.take_succ_eq_append_getElem h,zgr];congr 1
 unfold zgp;rw[List.filter_cons];by_cases e:revs[k].path=p
 ·simp [e]
 ·simp [e]
theorem zgw (revs:List Rev)(p:ByteArray):(zgp revs p).length≤revs.length:=List.length_filter_le ..
theorem zgx (x:Rev):∀ v∈x.cells,v.oneCell'=true:=by
 intro v hv;simp only[Rev.cells,List.mem_cons,List.not_mem_nil,or_false] at hv
 rcases hv with rfl | rfl | rfl | rfl | rfl | rfl | rfl | rfl | rfl | rfl | rfl | rfl <;> rfl
def zgy (w:World)(revs:List Rev)(p:ByteArray)(e:Ending)(w':World):Prop:=∃ A c,e=.returned (.slice A (zgp revs p).length c)∧Below w.heap.size w w'∧z45 w' (.slice A (zgp revs p).length c) (zgp revs p)
theorem zgz (revs:List Rev)(p:ByteArray)(dv dr:Value)(w:World)(hR:z45 w dv revs)(hl:revs.length≤1000000):
  Calls Tryz.prog 130 #[.agg #[dv,dr],.string p] w (zgy w revs p):=by
 obtain⟨Ar,cr,rfl,hcr,hmr,-⟩:=id hR;have HR:=hd_ hR;clear hR;unfold maxLen at hmr;go_enter Tryz.func130,Tryz.ntmps130;have hB:=z0l w [.slice Ar revs.length cr,dr] 26;have hA:Below w.heap.size w (w.alloc (.cells #[.slice Ar revs.length cr,dr] 26)):=(Below.refl _ _).alloc (Nat.le_refl _) _;go_upto_region 2 with fail;generalize w.alloc (.cells #[.slice Ar revs.length cr,dr] 26)=W1 at hB hA ⊢;obtain⟨d0,-,-,-⟩:=box2 hB;have HA:=hd_ hA;clear hA hB;go_wp2_with fail;clear d0;go_loopw [5,11] (fun u s wr=>∃(k n:Nat) (A:Option Addr) (c:Nat),s=.int .i64 k∧u=.slice A n c∧k≤revs.length∧n≤k∧Hid (n=(zgp (revs.take k) p).length∧Below W1.heap.size W1 wr∧wr.ownsRow W1.heap.size 66 12 (.slice A n c) n ((zgp (revs.take k) p).flatMap Rev.cells))) (fun _ s _=>revs.length - (intOf s).toNat)
 case atStart=>exact⟨0,0,none,0,rfl,rfl,Nat.zero_le _,Nat.le_refl _,rfl,Below.refl _ _,World.ownsRow_nil _ _ _ _⟩
 case round =>
  obtain⟨k,n,A,c,rfl,rfl,hk,hnk,HI⟩:=hrel;by_cases hlt:k<revs.length
  ·obtain⟨ad,rfl,hab,hld⟩:=z45.at_ (HR.out.below (z0r HA.out HI.out.2.1)) hlt;have HT:=hd_ (zgv revs p k hlt);generalize revs[k]=r at hld HT;obtain⟨x0,x1,x2,x3,x4,x5,x6,x7,x8,x9,x10,x11⟩:=hld;have hX:=z0l wr [.string r.path,.int .i64 r.num,.int .i64 r.chg,.int .i64 r.act,.int .i64 r.ty.base,.bool r.ty.k,.bool r.ty.l,.bool r.ty.x,.int .u64 r.sum,.int .i64 r.size,.string r.frm,.int .i64 r.fnum] 66;have hA1:Below wr.heap.size wr (wr.alloc (.cells #[.string r.path,.int .i64 r.num,.int .i64 r.chg,.int .i64 r.act,.int .i64 r.ty.base,.bool r.ty.k,.bool r.ty.l,.bool r.ty.x,.int .u64 r.sum,.int .i64 r.size,.string r.frm,.int .i64 r.fnum] 66)):=(Below.refl _ _).alloc (Nat.le_refl _) _;go_upto_region 5 with fail;clear x0 x1 x2 x3 x4 x5 x6 x7 x8 x9 x10 x11;generalize wr.alloc (.cells #[.string r.path,.int .i64 r.num,.int .i64 r.chg,.int .i64 r.act,.int .i64 r.ty.base,.bool r.ty.k,.bool r.ty.l,.bool r.ty.x,.int .u64 r.sum,.int .i64 r.size,.string r.frm,.int .i64 r.fnum] 66)=V1 at hX hA1 ⊢;obtain⟨y0,y1,y2,y3,y4,y5,y6,y7,y8,y9,y10,y11⟩:=z7z hX;by_cases hp:r.path=p
   ·have q:=ze7 r.path p;rw[decide_eq_true hp] at q;rw[if_pos hp] at HT;have HN:Hid (n=(zgp (revs.take k) p).length∧Below W1.heap.size W1 V1∧V1.ownsRow W1.heap.size 66 12 (.slice A n c) n ((zgp (revs.take k) p).flatMap Rev.cells)):=hd_ ⟨HI.out.1,z0r HI.out.2.1 hA1,z0n HI.out.2.2 hA1⟩;clear hX hA1 hp;go_wp2_with (at_builtin;refine z0k rfl rfl zgt ((z0n HN.out.2.2 ((Below.refl _ _).alloc (Nat.le_refl _) _))) rfl (z0i V1 [.string r.path,.int .i64 r.num,.int .i64 r.chg,.int .i64 r.act,.int .i64 r.ty.base,.bool r.ty.k,.bool r.ty.l,.bool r.ty.x,.int .u64 r.sum,.int .i64 r.size,.string r.frm,.int .i64 r.fnum] _ 12 1 rfl (by decide) _ rfl) rfl (HN.out.2.1.alloc HN.out.2.1.size _) (HN.out.2.1.alloc HN.out.2.1.size _).size (zgx r) (by omega) (by unfold maxLen;omega) ?_;intro A' c' w2 hown2 hbl2)
    have HO2:=hd_ hown2;have HB2:=hd_ hbl2;clear y0 y1 y2 y3 y4 y5 y6 y7 y8 y9 y10 y11 hown2 hbl2;go_wp2_with fail;go_roundw
    case rel =>
     refine⟨k+1,n+1,A',c',by go_num,rfl,by omega,by omega,?_,HB2.out,?_⟩
     ·rw[HT.out,List.length_append,List.length_singleton,← HN.out.1]
     ·rw[HT.out,List.flatMap_append,List.flatMap_cons,List.flatMap_nil,List.append_nil];exact HO2.out
    case measure=>simp [intOf];omega
   ·have q:=ze7 r.path p;rw[decide_eq_false hp] at q;rw[if_neg hp,List.append_nil] at HT;have HN:Hid (n=(zgp (revs.take (k+1)) p).length∧Below W1.heap.size W1 V1∧V1.ownsRow W1.heap.size 66 12 (.slice A n c) n ((zgp (revs.take (k+1)) p).flatMap Rev.cells)):=hd_ (by rw[HT.out];exact⟨HI.out.1,z0r HI.out.2.1 hA1,z0n HI.out.2.2 hA1⟩)
    clear hX hA1 hp HT;go_wp2_with fail;go_roundw
    case rel=>exact⟨k+1,n,A,c,by go_num,rfl,by omega,by omega,HN.out⟩
    case measure=>simp [intOf];omega
  ·have hke:k=revs.length:=by omega
   have HF:Hid (n=(zgp revs p).length∧Below W1.heap.size W1 wr∧wr.ownsRow W1.heap.size 66 12 (.slice A n c) n ((zgp revs p).flatMap Rev.cells)):=hd_ (by
    have:=HI.out;rwa [hke,List.take_length] at this)
   clear HI hke;go_wp2_with fail;go_ret;obtain⟨hn,h1,h2⟩:=HF.out;subst hn;exact⟨A,c,rfl,z0r HA.out h1,Row.of_own h2⟩
def zh0 (w:World)(o:Option Rev)(e:Ending)(w':World):Prop:=e=.returned (.tuple #[.agg #[.string (zec o).path,.int .i64 (zec o).num,.int .i64 (zec o).chg,.int .i64 (zec o).act,.int .i64 (zec o).ty.base,.bool (zec o).ty.k,.bool (zec o).ty.l,.bool (zec o).ty.x,.int .u64 (zec o).sum,.int .i64 (zec o).size,.string (zec o).frm,.int .i64 (zec o).fnum],.bool o.isSome])∧Below w.heap.size w w'
theorem zh1 (revs:List Rev)(p:ByteArray)(dv dr:Value)(w:World)(hR:z45 w dv revs)(hl:revs.length≤1000000):
  Calls Tryz.prog 90 #[.agg #[dv,dr],.string p] w (zh0 w (zgs revs p)):=by
 obtain⟨Ar,cr,rfl,-⟩:=id hR;have HR:=hd_ hR;clear hR;have HLN:=hd_ (zgw revs p);go_enter Tryz.func90,Tryz.ntmps90;have hb0:Below w.heap.size w ((w.alloc (.cells #[.slice Ar revs.length cr,dr] 26)).alloc (.cells #[.string ⟨#[]⟩,.int .i64 0,.int .i64 0,.int .i64 0,.int .i64 0,.bool false,.bool false,.bool false,.int .u64 0,.int .i64 0,.string ⟨#[]⟩,.int .i64 0] 66)):=((Below.refl _ _).alloc (Nat.le_refl _) _).alloc (by simp) _
 have hZ:Blk ((w.alloc (.cells #[.slice Ar revs.length cr,dr] 26)).alloc (.cells #[.string ⟨#[]⟩,.int .i64 0,.int .i64 0,.int .i64 0,.int .i64 0,.bool false,.bool false,.bool false,.int .u64 0,.int .i64 0,.string ⟨#[]⟩,.int .i64 0] 66)) (w.heap.size+1) 66 [.string ⟨#[]⟩,.int .i64 0,.int .i64 0,.int .i64 0,.int .i64 0,.bool false,.bool false,.bool false,.int .u64 0,.int .i64 0,.string ⟨#[]⟩,.int .i64 0]:=by
  have h1:=z0l (w.alloc (.cells #[.slice Ar revs.length cr,dr] 26)) [.string ⟨#[]⟩,.int .i64 0,.int .i64 0,.int .i64 0,.int .i64 0,.bool false,.bool false,.bool false,.int .u64 0,.int .i64 0,.string ⟨#[]⟩,.int .i64 0] 66;simp only[World.size_alloc] at h1
  exact h1
 have hB:Blk ((w.alloc (.cells #[.slice Ar revs.length cr,dr] 26)).alloc (.cells #[.string ⟨#[]⟩,.int .i64 0,.int .i64 0,.int .i64 0,.int .i64 0,.bool false,.bool false,.bool false,.int .u64 0,.int .i64 0,.string ⟨#[]⟩,.int .i64 0] 66)) w.heap.size 26 [.slice Ar revs.length cr,dr]:=(z0l w _ _).alloc _;go_upto_region 1 with fail;generalize (w.alloc (.cells #[.slice Ar revs.length cr,dr] 26)).alloc (.cells #[.string ⟨#[]⟩,.int .i64 0,.int .i64 0,.int .i64 0,.int .i64 0,.bool false,.bool false,.bool false,.int .u64 0,.int .i64 0,.string ⟨#[]⟩,.int .i64 0] 66)=W1 at hb0 hZ hB ⊢;obtain⟨d0,d1,-,-⟩:=box2 hB;have HL:=hd_ (zgz revs p (.slice Ar revs.length cr) dr W1 (HR.out.below hb0) hl);have Hb0:=hd_ hb0;have HZ:=hd_ hZ;clear hb0 hZ hB;go_wp2_with fail;refine HL.out.mono ?_;rintro e w2 ⟨A,c,rfl,hb2,hL⟩;clear d0 d1;have HB2:=hd_ hb2;have HLL:=hd_ hL;have hZ2:=HZ.out.below hb2 HZ.out.lt;obtain⟨z0,z1,z2,z3,z4,z5,z6,z7,z8,z9,z10,z11⟩:=z7z hZ2;obtain⟨y0,y1,y2,y3,y4,y5,y6,y7,y8,y9,y10,y11⟩:=zdz hZ2;clear hb2 hL HL;have HRL:Hid (zgs revs p=(zgp revs p).getLast?):=hd_ rfl;have hll:(zgp revs p).length≤revs.length:=HLN.out;generalize zgp revs p=L at HLL hll HRL ⊢;by_cases h0:L.length=0
 ·have HN:Hid (zgs revs p=none):=hd_ (by rw[HRL.out,List.length_eq_zero_iff.1 h0];rfl)
  have q:((L.length:Int) == 0)=true:=by rw[beq_iff_eq];omega
  clear h0;go_wp2_with fail;have hZ9:Blk ((((((((((((w2.setCell ⟨w.heap.size+1,0,none⟩ (.string ⟨#[]⟩)).setCell ⟨w.heap.size+1,1,none⟩ (.int .i64 0)).setCell ⟨w.heap.size+1,2,none⟩ (.int .i64 0)).setCell ⟨w.heap.size+1,3,none⟩ (.int .i64 0)).setCell ⟨w.heap.size+1,4,none⟩ (.int .i64 0)).setCell ⟨w.heap.size+1,5,none⟩ (.bool false)).setCell ⟨w.heap.size+1,6,none⟩ (.bool false)).setCell ⟨w.heap.size+1,7,none⟩ (.bool false)).setCell ⟨w.heap.size+1,8,none⟩ (.int .u64 0)).setCell ⟨w.heap.size+1,9,none⟩ (.int .i64 0)).setCell ⟨w.heap.size+1,10,none⟩ (.string ⟨#[]⟩)).setCell ⟨w.heap.size+1,11,none⟩ (.int .i64 0)) (w.heap.size+1) 66 [.string ⟨#[]⟩,.int .i64 0,.int .i64 0,.int .i64 0,.int .i64 0,.bool false,.bool false,.bool false,.int .u64 0,.int .i64 0,.string ⟨#[]⟩,.int .i64 0]:=ze0 hZ2 z2m;have hB9:Below w.heap.size w ((((((((((((w2.setCell ⟨w.heap.size+1,0,none⟩ (.string ⟨#[]⟩)).setCell ⟨w.heap.size+1,1,none⟩ (.int .i64 0)).setCell ⟨w.heap.size+1,2,none⟩ (.int .i64 0)).setCell ⟨w.heap.size+1,3,none⟩ (.int .i64 0)).setCell ⟨w.heap.size+1,4,none⟩ (.int .i64 0)).setCell ⟨w.heap.size+1,5,none⟩ (.bool false)).setCell ⟨w.heap.size+1,6,none⟩ (.bool false)).setCell ⟨w.heap.size+1,7,none⟩ (.bool false)).setCell ⟨w.heap.size+1,8,none⟩ (.int .u64 0)).setCell ⟨w.heap.size+1,9,none⟩ (.int .i64 0)).setCell ⟨w.heap.size+1,10,none⟩ (.string ⟨#[]⟩)).setCell ⟨w.heap.size+1,11,none⟩ (.int .i64 0)):=ze1 (z0r Hb0.out HB2.out) (show w.heap.size≤w.heap.size+1 by omega) z2m
  generalize ((((((((((((w2.setCell ⟨w.heap.size+1,0,none⟩ (.string ⟨#[]⟩)).setCell ⟨w.heap.size+1,1,none⟩ (.int .i64 0)).setCell ⟨w.heap.size+1,2,none⟩ (.int .i64 0)).setCell ⟨w.heap.size+1,3,none⟩ (.int .i64 0)).setCell ⟨w.heap.size+1,4,none⟩ (.int .i64 0)).setCell ⟨w.heap.size+1,5,none⟩ (.bool false)).setCell ⟨w.heap.size+1,6,none⟩ (.bool false)).setCell ⟨w.heap.size+1,7,none⟩ (.bool false)).setCell ⟨w.heap.size+1,8,none⟩ (.int .u64 0)).setCell ⟨w.heap.size+1,9,none⟩ (.int .i64 0)).setCell ⟨w.heap.size+1,10,none⟩ (.string ⟨#[]⟩)).setCell ⟨w.heap.size+1,11,none⟩ (.int .i64 0))=W9 at hZ9 hB9 ⊢;obtain⟨e0,e1,e2,e3,e4,e5,e6,e7,e8,e9,e10,e11⟩:=z7z hZ9;exact bodyPost_ret (v:=.tuple #[.agg #[.string ⟨#[]⟩,.int .i64 0,.int .i64 0,.int .i64 0,.int .i64 0,.bool false,.bool false,.bool false,.int .u64 0,.int .i64 0,.string ⟨#[]⟩,.int .i64 0],.bool false]) (by simp [results,Tryz.results90,go_sem,e0,e1,e2,e3,e4,e5,e6,e7,e8,e9,e10,e11]) rfl ⟨by rw[HN.out];rfl,hB9⟩
 ·have hk:L.length - 1<L.length:=by omega
  obtain⟨ad,rfl,hab,hld⟩:=z45.at_ HLL.out hk;have HN:Hid (zgs revs p=some L[L.length - 1]):=hd_ (by rw[HRL.out,List.getLast?_eq_getElem?,List.getElem?_eq_getElem hk])
  have q:((L.length:Int) == 0)=false:=by rw[beq_eq_false_iff_ne];omega
  obtain⟨j,hj⟩:∃ j:Nat,j=L.length - 1:=⟨_,rfl⟩;have hjz:(L.length:Int) - 1=(j:Int):=by omega
  have hjl:(j:Int)<(L.length:Int):=by omega
  have hj0:0≤(j:Int):=by omega
  generalize L[L.length - 1]=r at hld HN;rw[← hj] at hld;obtain⟨x0,x1,x2,x3,x4,x5,x6,x7,x8,x9,x10,x11⟩:=hld;clear h0 hk hj;go_wp2_with fail;have hZ9:=ze0 hZ2 r;have hB9:=ze1 (z0r Hb0.out HB2.out) (show w.heap.size≤w.heap.size+1 by omega) r
  generalize ((((((((((((w2.setCell ⟨w.heap.size+1,0,none⟩ (.string r.path)).setCell ⟨w.heap.size+1,1,none⟩ (.int .i64 r.num)).setCell ⟨w.heap.size+1,2,none⟩ (.int .i64 r.chg)).setCell ⟨w.heap.size+1,3,none⟩ (.int .i64 r.act)).setCell ⟨w.heap.size+1,4,none⟩ (.int .i64 r.ty.base)).setCell ⟨w.heap.size+1,5,none⟩ (.bool r.ty.k)).setCell ⟨w.heap.size+1,6,none⟩ (.bool r.ty.l)).setCell ⟨w.heap.size+1,7,none⟩ (.bool r.ty.x)).setCell ⟨w.heap.size+1,8,none⟩ (.int .u64 r.sum)).setCell ⟨w.heap.size+1,9,none⟩ (.int .i64 r.size)).setCell ⟨w.heap.size+1,10,none⟩ (.string r.frm)).setCell ⟨w.heap.size+1,11,none⟩ (.int .i64 r.fnum))=W9 at hZ9 hB9 ⊢;obtain⟨e0,e1,e2,e3,e4,e5,e6,e7,e8,e9,e10,e11⟩:=z7z hZ9;exact bodyPost_ret (v:=.tuple #[.agg #[.string r.path,.int .i64 r.num,.int .i64 r.chg,.int .i64 r.act,.int .i64 r.ty.base,.bool r.ty.k,.bool r.ty.l,.bool r.ty.x,.int .u64 r.sum,.int .i64 r.size,.string r.frm,.int .i64 r.fnum],.bool true]) (by simp [results,Tryz.results90,go_sem,e0,e1,e2,e3,e4,e5,e6,e7,e8,e9,e10,e11]) rfl ⟨by rw[HN.out];rfl,hB9⟩
end Go.Proofs.YtegeboijhifmcaaGreatDoor
