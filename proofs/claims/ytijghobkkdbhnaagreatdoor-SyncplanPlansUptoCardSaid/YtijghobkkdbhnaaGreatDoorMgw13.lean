/- A part. -/
import Derived.Test.YtijghobkkdbhnaaGreatDoorMgw9
import Derived.Test.YtijghobkkdbhnaaGreatDoorMzAlE
import Derived.Test.YtijghobkkdbhnaaGreatDoorMgw11
set_option linter.unusedVariables false
set_option linter.unusedSimpArgs false
set_option maxHeartbeats 8000000
set_option maxRecDepth 100000
namespace Go.Proofs.YtijghobkkdbhnaaGreatDoor
open Go.RowKit
theorem zcg {s:List UInt8}{k:Nat}{cs:List (List UInt8)}(h:z2q s k=some cs):∀ c∈cs,z0u c=true:=by
 unfold z2q at h;split at h
 ·rename_i hc
  injection h with h
  subst h;exact fun c hc2=>List.all_eq_true.1 hc.2.2 c hc2
 ·cases h
theorem zch {p:Pat}(h:z7j p=0){k:Nat}(hk:k<p.parts.length):z7g p.parts[k]≠0:=by
 intro hf;have:z7h k p.parts[k]=false:=by unfold z7h;rw[hf];simp
 rw[za2 (z7k hk this)] at h;cases h
def goB (p:Pat)(cs:List (List UInt8)):Bool:=decide (z7j p=0) && z8h p cs
theorem capR_eq {part comp:ByteArray}(hp:z7g part≠0)(hs:z7e part=true)(hb:z87 part comp=true):z9c part comp=z86 part comp:=by
 unfold z87 at hb;rw[if_pos hs,Bool.and_eq_true] at hb;unfold z9c z86;rw[z9g hp,hs,hb.1];simp only[Bool.and_self,if_true]
 apply z1m
 rw[z9k];unfold Lib.trimSuffix;rw[hb.1];simp
theorem zci (p:Pat)(s:ByteArray)(A:Option Addr)(c:Nat)(w:World)(he:Env w)(hs:s.size≤1000000)(hS:Strs w (.slice A p.parts.length c) p.parts)(hz:∀ x∈p.parts,x.size≤maxLen):
  Calls Tryz.prog 195 #[.agg #[.slice A p.parts.length c,.bool p.rest],.string s] w (z8m w p s):=by
 obtain⟨A',c',e',hcc,hmm,-⟩:=id hS;injection e' with e1 e2 e3
 subst e1 e3;unfold maxLen at hmm;have HS:=hd_ hS;have HZ:=hd_ hz;have HND:=hd_ (@zbh p s);have HNO:=hd_ (fun cs=>@zbi p s cs);have HYE:=hd_ (fun cs=>@zbj p s cs);have HPN:=hd_ (fun X (h:z8j p s=none) (hb:Below w.heap.size w X)=>zbk h hb);have hB:=z0l w [.slice A p.parts.length c,.bool p.rest] 68;have hA:Below w.heap.size w (w.alloc (.cells #[.slice A p.parts.length c,.bool p.rest] 68)):=(Below.refl _ _).alloc (Nat.le_refl _) _;have HPA:=hd_ (fun X cs (hX:Below w.heap.size w X) h=>z96 s cs X (he.below hX) (by omega) h)
 have HPB:=hd_ (fun X (hX:Below w.heap.size w X) h=>z97 s X (he.below hX) (by omega) h)
 have HCK:=hd_ (fun X (hX:Below w.heap.size w X)=>zcf p A c X (hS.below hX) hz);have HSZ:=hd_ hs;clear hS hz he e2 hs;go_enter Tryz.func195,Tryz.ntmps195;go_upto_region 1 with fail;generalize w.alloc (.cells #[.slice A p.parts.length c,.bool p.rest] 68)=W1 at hB hA ⊢;have HB:=hd_ hB;have HA:=hd_ hA;clear hB hA;cases hd:z2q s.data.toList 2 with
 | none =>
  have HP1:=hd_ (HPB.out W1 HA.out hd);have HR:=hd_ (HND.out hd);clear hd;go_wp2_with fail;refine HP1.out.mono ?_;rintro e w2 ⟨rfl,hb2⟩;have HB2:=hd_ (z0r HA.out hb2);have d0:w2.cell? ⟨w.heap.size,0,none⟩=some (.slice A p.parts.length c):=(HB.out.below hb2 HB.out.lt).cell 0;have d1:w2.cell? ⟨w.heap.size,1,none⟩=some (.bool p.rest):=(HB.out.below hb2 HB.out.lt).cell 1;have HC2:=hd_ (HCK.out w2 HB2.out);clear hb2;generalize z7j p=pe at HC2;by_cases h0:pe=0
  ·have q:(pe != 0)=false:=by simpa using h0
   clear h0;go_wp2_with fail;refine HC2.out.mono ?_;rintro e w3 ⟨rfl,hb3⟩;have HB3:=hd_ (z0r HB2.out hb3);clear hb3 d0 d1;go_wp2_with fail;go_ret2;exact HPN.out _ HR.out HB3.out
  ·have q:(pe != 0)=true:=by simpa using h0
   clear h0;go_wp2_with fail;refine HC2.out.mono ?_;rintro e w3 ⟨rfl,hb3⟩;have HB3:=hd_ (z0r HB2.out hb3);clear hb3 d0 d1;go_wp2_with fail;go_ret2;exact HPN.out _ HR.out HB3.out
 | some cs =>
 have HP1:=hd_ (HPA.out W1 cs HA.out hd);have hK2:=z0l W1 (z71 cs) 9;have hb2:Below W1.heap.size W1 (W1.alloc (.cells (z71 cs).toArray 9)):=(Below.refl _ _).alloc (Nat.le_refl _) _;generalize W1.alloc (.cells (z71 cs).toArray 9)=w2 at HP1 hK2 hb2;have HD:=hd_ hd;have HDP:=hd_ (zbn hd);have HDC:=hd_ (zcg hd);have HK2:=hd_ hK2;have HB2:=hd_ (z0r HA.out hb2);have d0:w2.cell? ⟨w.heap.size,0,none⟩=some (.slice A p.parts.length c):=(HB.out.below hb2 HB.out.lt).cell 0;have d1:w2.cell? ⟨w.heap.size,1,none⟩=some (.bool p.rest):=(HB.out.below hb2 HB.out.lt).cell 1;have HBW:=hd_ (HB.out.below hb2 HB.out.lt);clear hd hK2 hb2 HND HPA HPB;have hcl:cs.length≤1000001:=by have:=HDP.out.2.1;have:=HSZ.out;omega
 generalize hg2:W1.heap.size=g2 at HK2 HP1;clear hg2;have HC2:=hd_ (HCK.out w2 HB2.out);clear HCK;obtain⟨bb,hbb⟩:∃ b,goB p cs=b:=⟨_,rfl⟩;have HFD:Hid (bb=(decide (z7j p=0) && (decide (p.parts.length≤cs.length) && (decide (p.parts.length<cs.length) == p.rest)))):=hd_ (by rw[← hbb];rfl)
 have HFB:Hid (goB p cs=bb):=hd_ hbb;clear hbb;obtain⟨pe,hpe⟩:∃ e,z7j p=e:=⟨_,rfl⟩;rw[hpe] at HC2 HFD;have HPE:=hd_ hpe;clear hpe;go_wp2_with fail;refine HP1.out.mono ?_;rintro e w' ⟨rfl,rfl⟩;go_upto_region 3 with fail;go_cut [57] (fun v wx=>v=.bool (!bb)∧Hid (Below w2.heap.size w2 wx))
 case first =>
  have HD0:=hd_ d0;have HD1:=hd_ d1;by_cases h0:pe=0
  case neg =>
   have q:(pe != 0)=true:=by simpa using h0
   have hbf:bb=false:=by rw[HFD.out,decide_eq_false h0];rfl
   subst hbf;clear h0 HFD;go_wp2_with fail;refine HC2.out.mono ?_;rintro e w3 ⟨rfl,hb3⟩;clear d0 d1;go_wp2_with fail;go_meet
   exact⟨rfl,hb3⟩
  have q:(pe != 0)=false:=by simpa using h0
  have HFE:Hid (bb=(decide (p.parts.length≤cs.length) && (decide (p.parts.length<cs.length) == p.rest))):=hd_ (by rw[HFD.out,decide_eq_true h0];rfl)
  clear h0 HFD;by_cases h1:cs.length<p.parts.length
  ·have hbf:bb=false:=by rw[HFE.out,decide_eq_false (by omega)];rfl
   have q1:decide ((cs.length:Int)<(p.parts.length:Int))=true:=by simp;omega
   have q1':decide (cs.length<p.parts.length)=true:=by simp;omega
   subst hbf;clear h1 HFE;go_wp2_with fail;refine HC2.out.mono ?_;rintro e w3 ⟨rfl,hb3⟩;clear d0 d1;go_wp2_with fail;go_meet
   exact⟨by first | rfl | (rw[q1'];rfl),hb3⟩
  ·have q1:decide ((cs.length:Int)<(p.parts.length:Int))=false:=by simp;omega
   have q1':decide (cs.length<p.parts.length)=false:=by simp;omega
   rcases Bool.eq_false_or_eq_true p.rest with hr | hr
   case inl =>
    rw[hr] at d1 HC2;by_cases h2:p.parts.length<cs.length
    ·have q3:((cs.length:Int) == (p.parts.length:Int))=false:=by rw[beq_eq_false_iff_ne];omega
     have q3':(cs.length == p.parts.length)=false:=by rw[beq_eq_false_iff_ne];omega
     have hbf:bb=true:=by rw[HFE.out,hr,decide_eq_true (show p.parts.length≤cs.length by omega),decide_eq_true h2];rfl
     subst hbf;clear h1 h2 HFE hr;go_wp2_with fail;refine HC2.out.mono ?_;rintro e w3 ⟨rfl,hb3⟩;have e1:w3.cell? ⟨w.heap.size,1,none⟩=some (.bool true):=(z04 d1 hb3 (z03 d1));go_wp2_with fail;go_meet
     exact⟨by first | rfl | simp [q1',q3'],hb3⟩
    ·have q3:((cs.length:Int) == (p.parts.length:Int))=true:=by rw[beq_iff_eq];omega
     have q3':(cs.length == p.parts.length)=true:=by rw[beq_iff_eq];omega
     have hbf:bb=false:=by rw[HFE.out,hr,decide_eq_false h2];simp
     subst hbf;clear h1 h2 HFE hr;go_wp2_with fail;refine HC2.out.mono ?_;rintro e w3 ⟨rfl,hb3⟩;have e1:w3.cell? ⟨w.heap.size,1,none⟩=some (.bool true):=(z04 d1 hb3 (z03 d1));go_wp2_with fail;go_meet
     exact⟨by first | rfl | simp [q1',q3'],hb3⟩
   case inr =>
    rw[hr] at d1 HC2;by_cases h2:p.parts.length<cs.length
    ·have q2:decide ((p.parts.length:Int)<(cs.length:Int))=true:=by simp;omega
     have q2':decide (p.parts.length<cs.length)=true:=by simp;omega
     have hbf:bb=false:=by rw[HFE.out,hr,decide_eq_true h2];simp
     subst hbf;clear h1 h2 HFE hr;go_wp2_with fail;refine HC2.out.mono ?_;rintro e w3 ⟨rfl,hb3⟩;have e1:w3.cell? ⟨w.heap.size,1,none⟩=some (.bool false):=(z04 d1 hb3 (z03 d1));go_wp2_with fail;go_meet
     exact⟨by first | rfl | simp [q1',q2'],hb3⟩
    ·have q2:decide ((p.parts.length:Int)<(cs.length:Int))=false:=by simp;omega
     have q2':decide (p.parts.length<cs.length)=false:=by simp;omega
     have hbf:bb=true:=by rw[HFE.out,hr,decide_eq_true (show p.parts.length≤cs.length by omega),decide_eq_false h2];rfl
     subst hbf;clear h1 h2 HFE hr;go_wp2_with fail;refine HC2.out.mono ?_;rintro e w3 ⟨rfl,hb3⟩;have e1:w3.cell? ⟨w.heap.size,1,none⟩=some (.bool false):=(z04 d1 hb3 (z03 d1));go_wp2_with fail;go_meet
     exact⟨by first | rfl | simp [q1',q2'],hb3⟩
 case rest =>
  obtain⟨rfl,hcb⟩:=hcut;have HB3:=hd_ (z0r HB2.out hcb.out);have HK3:=hd_ (HK2.out.below hcb.out HK2.out.lt);have HBW3:=hd_ (HBW.out.below hcb.out HBW.out.lt);clear hcb d0 d1 HC2 HK2 HBW HP1;have d0:wc.cell? ⟨w.heap.size,0,none⟩=some (.slice A p.parts.length c):=HBW3.out.cell 0;have d1:wc.cell? ⟨w.heap.size,1,none⟩=some (.bool p.rest):=HBW3.out.cell 1;cases bb with
  | false =>
   have HR:=hd_ (HNO.out _ HD.out (fun h=>by have h2:=HFB.out;unfold goB at h2;rw[h.1,h.2.1] at h2;cases h2))
   go_wp2_with fail;go_ret2;exact HPN.out _ HR.out HB3.out
  | true =>
   rw[show (!true)=false from rfl];have hgo:=HFB.out;unfold goB at hgo;rw[Bool.and_eq_true,decide_eq_true_eq] at hgo;have HP0:=hd_ hgo.1;have HFT:=hd_ hgo.2;have hle:p.parts.length≤cs.length:=by
    have:=hgo.2;unfold z8h at this;rw[Bool.and_eq_true,decide_eq_true_eq] at this;exact this.1
   clear HFD hgo HFB;have HNZ:=hd_ (fun k (hk:k<p.parts.length) (h:z87 (z8d p.parts k) (z8e cs k)=false)=>HNO.out _ HD.out (fun hh=>by have:=hh.2.2;rw[z8l hk h] at this;cases this))
   have HYY:=hd_ (fun(h:z8f p.parts cs p.parts.length=true)=>HYE.out _ HD.out HP0.out HFT.out h);have HCL:=hd_ hcl;have HLE:=hd_ hle;go_wp2_with fail;clear d0 d1;go_loopw [9,61] (fun u s wr=>∃(k m:Nat) (A2:Option Addr) (c2:Nat),s=.int .i64 k∧u=.slice A2 m c2∧k≤p.parts.length∧m≤k∧Hid (m=(z8g p.parts cs k).length∧z8f p.parts cs k=true∧Below wc.heap.size wc wr∧wr.ownsRow wc.heap.size 9 1 (.slice A2 m c2) m ((z8g p.parts cs k).map .string))) (fun _ s _=>p.parts.length - (intOf s).toNat)
   case atStart=>exact⟨0,0,none,0,rfl,rfl,Nat.zero_le _,Nat.le_refl _,rfl,rfl,Below.refl _ _,World.ownsRow_nil _ _ _ _⟩
   case round =>
    obtain⟨k,m,A2,c2,rfl,rfl,hk,hmk,HI⟩:=hrel;by_cases hlt:k<p.parts.length
    ·have hkc:k<cs.length:=by omega
     have hz1:(k:Int)<(cs.length:Int):=by omega
     have hbw:=z0r HB3.out HI.out.2.2.1;obtain⟨ad,rfl,hab,x0⟩:=Strs.at_ (HS.out.below hbw) hlt;have x1:=(HK3.out.below HI.out.2.2.1 HK3.out.lt).strs k hkc;have HX:=hd_ (zbl hlt);have HY:=hd_ (zbm hkc);have hps:(p.parts[k]).size≤maxLen:=HZ.out _ (List.getElem_mem hlt);have hcz:(baL cs[k]).size≤maxLen:=by rw[z74];have:=HDP.out.1 _ (List.getElem_mem hkc);have:=HSZ.out;unfold maxLen;omega
     have hfo:=zch HP0.out hlt;have hcap:z9d p.parts[k] (baL cs[k])=z87 p.parts[k] (baL cs[k]):=z9l hfo (HDC.out _ (List.getElem_mem hkc));generalize p.parts[k]=part at x0 HX hps hcap hfo;generalize baL cs[k]=comp at x1 HY hcz hcap;have HM:=hd_ (fun X=>z9w part comp X hps hcz);have HT:=hd_ (fun X=>z9s part X hps);rw[hcap] at HM;unfold z9p at HT;rw[z9g hfo] at HT;have HCE:Hid (z7e part=true→z87 part comp=true→z9c part comp=z86 part comp):=hd_ (capR_eq hfo);have HNK:Hid (z87 part comp=false→z8j p s=none):=hd_ (fun h=>HNZ.out k hlt (by rw[HX.out,HY.out];exact h))
     have HZB:Hid (z87 part comp=true→z8f p.parts cs (k+1)=true):=hd_ (fun h=>by rw[z8k,HI.out.2.1,HX.out,HY.out,h];rfl)
     have HZC:Hid (z8g p.parts cs (k+1)=z8g p.parts cs k++(if z7e part then [z86 part comp] else [])):=hd_ (by rw[← HX.out,← HY.out];rfl)
     generalize z86 part comp=x at HZC HCE;generalize z9c part comp=y at HM HCE;generalize z87 part comp=b at HM HNK HZB HCE;generalize z7e part=st at HT HZC HCE;generalize z85 part=sx at HT;clear hbw hps hcz hab hcap hfo;cases b with
     | false =>
      have HR:=hd_ (HNK.out rfl);have HBI:=hd_ (z0r HB3.out HI.out.2.2.1);go_wp2_with fail;refine (HM.out _).mono ?_;rintro e w' ⟨rfl,rfl⟩;go_wp2_with fail;go_ret2;exact HPN.out _ HR.out HBI.out
     | true =>
      have HB:=hd_ (HZB.out rfl);cases st with
      | false =>
       have HN:Hid (m=(z8g p.parts cs (k+1)).length∧z8f p.parts cs (k+1)=true∧Below wc.heap.size wc wr∧wr.ownsRow wc.heap.size 9 1 (.slice A2 m c2) m ((z8g p.parts cs (k+1)).map .string)):=hd_ (by
        have e:z8g p.parts cs (k+1)=z8g p.parts cs k:=by rw[HZC.out];simp
        rw[e];exact⟨HI.out.1,HB.out,HI.out.2.2.1,HI.out.2.2.2⟩)
       go_wp2_with fail;refine (HM.out _).mono ?_;rintro e w' ⟨rfl,rfl⟩;go_wp2_with fail;refine (HT.out _).mono ?_;rintro e w' ⟨rfl,rfl⟩;go_wp2_with fail;go_roundw
       case rel=>exact⟨k+1,m,A2,c2,by go_num,rfl,by omega,by omega,HN.out⟩
       case measure=>simp [intOf];omega
      | true =>
       have HOW:=hd_ HI.out.2.2.2;have HBI:=hd_ HI.out.2.2.1;have hyx:=HCE.out rfl rfl;subst hyx;go_wp2_with fail;refine (HM.out _).mono ?_;rintro e w' ⟨rfl,rfl⟩;go_wp2_with fail;refine (HT.out _).mono ?_;rintro e w' ⟨rfl,rfl⟩;go_wp2_with (first
        | (at_builtin;refine z0k rfl rfl z8c (z0n HOW.out ((Below.refl _ _).alloc (Nat.le_refl _) _)) rfl (z0i _ [.string y] _ 1 1 rfl (by decide) _ (by simp)) rfl (HBI.out.alloc HBI.out.size _) (HBI.out.alloc HBI.out.size _).size (by simp [Value.oneCell']) (by omega) (by unfold maxLen;omega) ?_;intro A' c' w5 hown5 hbl5))
       have HN:Hid (m+1=(z8g p.parts cs (k+1)).length∧z8f p.parts cs (k+1)=true∧Below wc.heap.size wc w5∧w5.ownsRow wc.heap.size 9 1 (.slice A' (m+1) c') (m+1) ((z8g p.parts cs (k+1)).map .string)):=hd_ (by
        have e:z8g p.parts cs (k+1)=z8g p.parts cs k++[y]:=by rw[HZC.out];rfl
        rw[e];refine⟨by rw[List.length_append,List.length_singleton,HI.out.1],HB.out,hbl5,?_⟩
        rw[List.map_append];exact hown5)
       clear hown5 hbl5;go_wp2_with fail;go_roundw
       case rel=>exact⟨k+1,m+1,A',c',by go_num,rfl,by omega,by omega,HN.out⟩
       case measure=>simp [intOf];omega
    ·have hke:k=p.parts.length:=by omega
     have HF:Hid (m=(z8g p.parts cs p.parts.length).length∧z8j p s=some (z8i p cs)∧Below wc.heap.size wc wr∧wr.ownsRow wc.heap.size 9 1 (.slice A2 m c2) m ((z8g p.parts cs p.parts.length).map .string)):=hd_ (by
      have h:=HI.out;rw[hke] at h;exact⟨h.1,HYY.out h.2.1,h.2.2.1,h.2.2.2⟩)
     have d1:wr.cell? ⟨w.heap.size,1,none⟩=some (.bool p.rest):=(HBW3.out.below HI.out.2.2.1 HBW3.out.lt).cell 1;have hge:¬((k:Int)<(p.parts.length:Int)):=by omega
     clear HI hke;cases hr:p.rest with
     | false =>
      rw[hr] at d1;have HRS:=hd_ hr;clear hr;go_wp2_with fail;go_ret2;refine⟨A2,m,c2,by rw[HF.out.2.1];rfl,z0r HB3.out HF.out.2.2.1,fun l hl=>?_⟩
      rw[HF.out.2.1] at hl;injection hl with hl
      have e:z8i p cs=z8g p.parts cs p.parts.length:=by unfold z8i;rw[HRS.out];simp
      rw[e] at hl;subst hl;refine⟨HF.out.1,?_⟩;have:=Row.of_own HF.out.2.2.2;rw[HF.out.1] at this ⊢;exact this
     | true =>
      rw[hr] at d1;have HRS:=hd_ hr;clear hr;have hnc:p.parts.length<cs.length:=by
       have h:=HFT.out;unfold z8h at h;rw[HRS.out] at h;simp only[Bool.and_eq_true,beq_iff_eq,decide_eq_true_eq] at h
       exact h.2
      have hK:=HK3.out.below HF.out.2.2.1 HK3.out.lt;have hat:z8p wr g2 p.parts.length (cs.drop p.parts.length):=fun j hj=>by
       rw[List.length_drop] at hj;rw[List.getElem_drop];exact hK.strs _ (by omega)
      have hJ:=z8s (cs.drop p.parts.length) g2 p.parts.length (cs.length - p.parts.length) wr hat (by rw[List.length_drop];omega) (by rw[List.length_drop];omega) (by rw[List.length_drop];omega) (by have:=zbo cs p.parts.length;have:=HDP.out.2.2;have:=HSZ.out;omega)
      rw[List.length_drop] at hJ;have HJ:=hd_ hJ;have HCP:Hid (z8i p cs=z8g p.parts cs p.parts.length++[baL (Lib.join (cs.drop p.parts.length) [47])]):=hd_ (by unfold z8i;rw[HRS.out];rfl)
      generalize baL (Lib.join (cs.drop p.parts.length) [47])=x at HJ HCP;clear hJ hat hK;go_wp2_with fail;refine HJ.out.mono ?_;rintro e w6 ⟨rfl,hb6⟩;have HOW:=hd_ (z0n HF.out.2.2.2 hb6);have HBI:=hd_ (z0r HF.out.2.2.1 hb6);clear hb6;go_wp2_with (first
       | (at_builtin;refine z0k rfl rfl z8c (z0n HOW.out ((Below.refl _ _).alloc (Nat.le_refl _) _)) rfl (z0i _ [.string x] _ 1 1 rfl (by decide) _ (by simp)) rfl (HBI.out.alloc HBI.out.size _) (HBI.out.alloc HBI.out.size _).size (by simp [Value.oneCell']) (by omega) (by unfold maxLen;omega) ?_;intro A' c' w7 hown7 hbl7))
      have HO7:=hd_ hown7;have HB7:=hd_ hbl7;clear hown7 hbl7;go_wp2_with fail;go_ret2;refine⟨A',m+1,c',by rw[HF.out.2.1];rfl,z0r HB3.out HB7.out,fun l hl=>?_⟩
      rw[HF.out.2.1] at hl;injection hl with hl
      rw[HCP.out] at hl;subst hl;have hm:=HF.out.1;refine⟨by rw[List.length_append,List.length_singleton,hm],?_⟩
      have h7:=Row.of_own HO7.out;show Row w7 1 _ (z8g p.parts cs p.parts.length++[x]).length _
      rw[List.length_append,List.length_singleton,← hm,List.map_append];exact h7
theorem zm1 {xs ys:List ByteArray}{k:Nat}{done:List ByteArray}(h:zao xs ys k done)(hx:k<xs.length)(hy:ys.length≤k):zao xs ys (k+1) (done++[xs[k]]):=by
 refine⟨by rw[List.length_append,h.1];rfl,?_⟩
 rw[h.2,List.drop_of_length_le hy,List.drop_of_length_le (by omega:ys.length≤k+1),List.drop_eq_getElem_cons hx]
 unfold zak;simp
theorem zm2 {xs ys:List ByteArray}{done:List ByteArray}(h:zao xs ys xs.length done)(hy:ys.length≤xs.length):zak xs ys=some done:=by
 rw[h.2,List.drop_length,List.drop_of_length_le hy];unfold zak;simp
theorem zm3 {x y:ByteArray}(h:z9x x y=true):z9y x y=some x:=by unfold z9y;rw[if_pos h]
theorem zm4 {x y:ByteArray}(h:z9x x y=false)(h2:z9x y x=false):z9y x y=none:=by unfold z9y;rw[if_neg (by rw[h];decide),if_neg (by rw[h2];decide)]
theorem zm5 (n:Nat)(r:Bool)(m:Nat)(s:Bool):zai n r m s=zai m s n r:=by
 unfold zai;cases r <;> cases s <;> simp [eq_comm]
theorem zm6 {n m:Nat}{r s:Bool}(h:m<n):zai n r m s=s:=by
 unfold zai;cases r <;> cases s <;> simp <;> omega
theorem zm7 {n m:Nat}{r s:Bool}(h:m=n):zai n r m s=(r == s):=by
 unfold zai;cases r <;> cases s <;> simp <;> omega
structure MrSt (w wx:World)(p q x y:Pat)(vx vy:Value):Prop where
 low:Below w.heap.size w wx
 b2:zbt wx w.heap.size vx x.rest
 b3:zbt wx (w.heap.size+1) vy y.rest
 b4:zbt wx (w.heap.size+1+1) (.slice none 0 0) false
 px:zae wx vx x
 py:zae wx vy y
 ex:z7j x=0
 ey:z7j y=0
 le:y.parts.length≤x.parts.length
 st:∀(k:Nat) (hx:k<x.parts.length) (hy:k<y.parts.length),z9x x.parts[k] y.parts[k]=false→z9x y.parts[k] x.parts[k]=false
 is:zan p q=if zai x.parts.length x.rest y.parts.length y.rest=true then (zak x.parts y.parts).map (fun l=>⟨l,x.rest && y.rest⟩) else none
theorem MrSt.next {w wx wy:World}{p q x y:Pat}{vx vy:Value}(h:MrSt w wx p q x y vx vy)(hb:Below wx.heap.size wx wy):MrSt w wy p q x y vx vy:=
 ⟨h.low.trans (hb.mono h.low.size),h.b2.low hb,h.b3.low hb,h.b4.low hb,h.px.below hb,h.py.below hb,h.ex,h.ey,h.le,h.st,h.is⟩
structure zm8 (w wr:World)(g:Nat)(v:Value)(b:Bool)(l:List ByteArray):Prop where
 low:Below w.heap.size w wr
 le:w.heap.size≤g
 box:zbt wr g v b
 own:wr.ownsRow (g+1) 9 1 v l.length (l.map .string)
theorem zm8.under {w wr wx:World}{g:Nat}{v:Value}{b:Bool}{l:List ByteArray}(h:zm8 w wr g v b l)(hb:Below wr.heap.size wr wx):zm8 w wx g v b l:=⟨z0r h.low hb,h.le,h.box.low hb,z0n h.own hb⟩
theorem zm8.push {w wr w2:World}{g:Nat}{v:Value}{b:Bool}{l:List ByteArray}{x:ByteArray}{A':Option Addr}{c':Nat}(h:zm8 w wr g v b l)
  (hown:w2.ownsRow (g+1) 9 1 (.slice A' (l.length+1) c') (l.length+1) (l.map .string++[.string x])) (hgr:wr.grownBy w2 v.ownBlock)
  (hob:(Value.slice A' (l.length+1) c').ownBlock=v.ownBlock∨(Value.slice A' (l.length+1) c').ownBlock=some wr.heap.size):
  zm8 w (w2.setCell ⟨g,0,none⟩ (.slice A' (l.length+1) c')) g (.slice A' (l.length+1) c') b (l++[x]):=by
 have hl:=Blk.lt h.box;have hb1:∀ k,v.ownBlock=some k→g<k:=fun k e=>by have:=(h.own.lt k e).1;omega
 have hbx:some g≠v.ownBlock:=fun e=>by have:=hb1 g e.symm;omega
 have hbel:Below w.heap.size w w2:=h.low.grown hgr h.low.size (fun k e=>by have:=hb1 k e;have:=h.le;omega)
 have hne:(Value.slice A' (l.length+1) c').ownBlock≠some g:=by
  rcases hob with e | e
  ·rw[e];exact fun e=>hbx e.symm
  ·rw[e];intro e2;injection e2 with e2;omega
 refine⟨hbel.setCell (p:=⟨g,0,none⟩) h.le _,h.le,(Blk.grown h.box hgr hbx).set_ 0 _,?_⟩;rw[List.length_append,List.length_singleton,List.map_append];exact z4r hown (p:=⟨g,0,none⟩) hne _
theorem zm9 (p q:Pat)(A B:Option Addr)(a b:Nat)(w:World)(hp:zae w (.slice A p.parts.length a) p)(hq:zae w (.slice B q.parts.length b) q)(hsx:∀(k:Nat) (hx:k<(zal p q).parts.length) (hy:k<(zam p q).parts.length),z9x (zal p q).parts[k] (zam p q).parts[k]=false→z9x (zam p q).parts[k] (zal p q).parts[k]=false):
  Calls Tryz.prog 64 #[.agg #[.slice A p.parts.length a,.bool p.rest],.agg #[.slice B q.parts.length b,.bool q.rest]] w (zbs w p q):=by
 have HSX:=hd_ hsx;clear hsx;have hA:Below w.heap.size w (((w.alloc (.cells #[.slice A p.parts.length a,.bool p.rest] 68)).alloc (.cells #[.slice B q.parts.length b,.bool q.rest] 68)).alloc (.cells #[.slice none 0 0,.bool false] 68)):=(((Below.refl _ _).alloc (Nat.le_refl _) _).alloc (by simp) _).alloc (by simp;omega) _
 have h2:zbt (((w.alloc (.cells #[.slice A p.parts.length a,.bool p.rest] 68)).alloc (.cells #[.slice B q.parts.length b,.bool q.rest] 68)).alloc (.cells #[.slice none 0 0,.bool false] 68)) w.heap.size (.slice A p.parts.length a) p.rest:=((z0l w [.slice A p.parts.length a,.bool p.rest] 68).alloc _).alloc _;have h3:zbt (((w.alloc (.cells #[.slice A p.parts.length a,.bool p.rest] 68)).alloc (.cells #[.slice B q.parts.length b,.bool q.rest] 68)).alloc (.cells #[.slice none 0 0,.bool false] 68)) (w.heap.size+1) (.slice B q.parts.length b) q.rest:=by
  have:=(z0l (w.alloc (.cells #[.slice A p.parts.length a,.bool p.rest] 68)) [.slice B q.parts.length b,.bool q.rest] 68).alloc (.cells #[.slice none 0 0,.bool false] 68);rw[World.size_alloc] at this;exact this
 have h4:zbt (((w.alloc (.cells #[.slice A p.parts.length a,.bool p.rest] 68)).alloc (.cells #[.slice B q.parts.length b,.bool q.rest] 68)).alloc (.cells #[.slice none 0 0,.bool false] 68)) (w.heap.size+1+1) (.slice none 0 0) false:=by
  have:=z0l ((w.alloc (.cells #[.slice A p.parts.length a,.bool p.rest] 68)).alloc (.cells #[.slice B q.parts.length b,.bool q.rest] 68)) [.slice none 0 0,.bool false] 68;rw[World.size_alloc,World.size_alloc] at this;exact this
 have HCP:=hd_ (fun X (hX:Below w.heap.size w X)=>zcf p A a X (hp.below hX).1 hp.small);have HCQ:=hd_ (fun X (hX:Below w.heap.size w X)=>zcf q B b X (hq.below hX).1 hq.small);have HP:=hd_ hp;have HQ:=hd_ hq;have HM:Hid (zan p q=if z7j p=0∧z7j q=0∧zai p.parts.length p.rest q.parts.length q.rest=true then (zak (zal p q).parts (zam p q).parts).map (fun l=>⟨l,p.rest && q.rest⟩) else none):=hd_ rfl;clear hp hq;go_enter Tryz.func64,Tryz.ntmps64;go_upto_region 1 with fail;generalize ((w.alloc (.cells #[.slice A p.parts.length a,.bool p.rest] 68)).alloc (.cells #[.slice B q.parts.length b,.bool q.rest] 68)).alloc (.cells #[.slice none 0 0,.bool false] 68)=W1 at hA h2 h3 h4 ⊢;have H:=hd_ (And.intro hA (And.intro h2 (And.intro h3 h4)));have x0:=h2.c0;have x1:=h2.c1;have HC1:=hd_ (HCP.out W1 hA);clear h2 h3 h4 hA HCP;obtain⟨pe,hpe⟩:∃ pe,z7j p=pe:=⟨_,rfl⟩;rw[hpe] at HC1 HM;have HPE:=hd_ hpe;clear hpe;by_cases h0:pe=0
 case neg =>
  have qq:(pe != 0)=true:=by simpa using h0
  have HN:Hid (zan p q=none):=hd_ (by rw[HM.out];exact if_neg (fun h=>h0 h.1))
  clear h0 HM;go_wp2_with fail;refine HC1.out.mono ?_;rintro e w2 ⟨rfl,hb⟩;have HB:=hd_ (z0r H.out.1 hb);have HZ:=hd_ (H.out.2.2.2.low hb);clear hb x0 x1;obtain⟨f0,f1,c0,c1⟩:=HZ.out.all;go_wp2_with fail;have hE:=HZ.out.put (.slice none 0 0) false;have hb:=zbu HB.out (g:=w.heap.size+1+1) (by omega) (.slice none 0 0) (.bool false)
  generalize (w2.setCell ⟨w.heap.size+1+1,0,none⟩ (.slice none 0 0)).setCell ⟨w.heap.size+1+1,1,none⟩ (.bool false)=W3 at hE hb ⊢;clear f0 f1 c0 c1;obtain⟨-,-,c0,c1⟩:=hE.all;exact bodyPost_ret (v:=.tuple #[.agg #[.slice none 0 0,.bool false],.bool false]) (by simp [results,Tryz.results64,go_sem,c0,c1]) rfl ⟨hb,.inl ⟨HN.out,rfl⟩⟩
 subst h0;obtain⟨qe,hqe⟩:∃ qe,z7j q=qe:=⟨_,rfl⟩;have HC2:=hd_ (fun X hX=>HCQ.out X hX);rw[hqe] at HC2 HM;have HQE:=hd_ hqe;clear hqe HCQ;by_cases h0:qe=0
 case neg =>
  have qq:(qe != 0)=true:=by simpa using h0
  have HN:Hid (zan p q=none):=hd_ (by rw[HM.out];exact if_neg (fun h=>h0 h.2.1))
  clear h0 HM;go_wp2_with fail;refine HC1.out.mono ?_;rintro e w2 ⟨rfl,hb⟩;have HB:=hd_ (z0r H.out.1 hb);have HZ:=hd_ (H.out.2.2.2.low hb);have hq2:=H.out.2.2.1.low hb;have y0:=hq2.c0;have y1:=hq2.c1;have HC3:=hd_ (HC2.out w2 HB.out);clear hb x0 x1 hq2;go_wp2_with fail;refine HC3.out.mono ?_;rintro e w3 ⟨rfl,hb⟩;have HZ:=hd_ (HZ.out.low hb);have HB:=hd_ (z0r HB.out hb);clear hb y0 y1;obtain⟨f0,f1,c0,c1⟩:=HZ.out.all;go_wp2_with fail;have hE:=HZ.out.put (.slice none 0 0) false;have hb:=zbu HB.out (g:=w.heap.size+1+1) (by omega) (.slice none 0 0) (.bool false)
  generalize (w3.setCell ⟨w.heap.size+1+1,0,none⟩ (.slice none 0 0)).setCell ⟨w.heap.size+1+1,1,none⟩ (.bool false)=W3 at hE hb ⊢;clear f0 f1 c0 c1;obtain⟨-,-,c0,c1⟩:=hE.all;exact bodyPost_ret (v:=.tuple #[.agg #[.slice none 0 0,.bool false],.bool false]) (by simp [results,Tryz.results64,go_sem,c0,c1]) rfl ⟨hb,.inl ⟨HN.out,rfl⟩⟩
 subst h0;have HMM:Hid (zan p q=if zai p.parts.length p.rest q.parts.length q.rest=true then (zak (zal p q).parts (zam p q).parts).map (fun l=>⟨l,p.rest && q.rest⟩) else none):=hd_ (by
  rw[HM.out];by_cases h:zai p.parts.length p.rest q.parts.length q.rest=true
  ·rw[if_pos ⟨rfl,rfl,h⟩,if_pos h]
  ·rw[if_neg (fun hh=>h hh.2.2),if_neg h])
 clear HM;go_wp2_with fail;refine HC1.out.mono ?_;rintro e w2 ⟨rfl,hb⟩;have HB:=hd_ (z0r H.out.1 hb);have HG:=hd_ (And.intro (H.out.2.1.low hb) (And.intro (H.out.2.2.1.low hb) (H.out.2.2.2.low hb)));have y0:=HG.out.2.1.c0;have y1:=HG.out.2.1.c1;have HC3:=hd_ (HC2.out w2 HB.out);clear hb x0 x1 H HC1 HC2;go_wp2_with fail;refine HC3.out.mono ?_;rintro e w3 ⟨rfl,hb⟩;have HG:=hd_ (And.intro (HG.out.1.low hb) (And.intro (HG.out.2.1.low hb) (HG.out.2.2.low hb)));have HB:=hd_ (z0r HB.out hb);clear hb y0 y1 HC3;have x0:=HG.out.1.c0;have x1:=HG.out.1.c1;have y0:=HG.out.2.1.c0;have y1:=HG.out.2.1.c1;have HMB:Hid (zal p q=if p.parts.length<q.parts.length then q else p):=hd_ rfl;have HMS:Hid (zam p q=if p.parts.length<q.parts.length then p else q):=hd_ rfl;go_upto_region 3 with fail;by_cases hlt:p.parts.length<q.parts.length
 focus
  have q1:decide ((p.parts.length:Int)<(q.parts.length:Int))=true:=by simp;omega
  obtain⟨f0,f1,-,-⟩:=HG.out.1.all;obtain⟨f2,f3,-,-⟩:=HG.out.2.1.all;have n1:¬(w.heap.size=w.heap.size+1):=by omega
  have HLT:=hd_ hlt;clear hlt;go_upto_region 5 with fail;have hx:=(HG.out.1.put (.slice B q.parts.length b) q.rest).far (g':=w.heap.size+1) (by omega) (.slice A p.parts.length a) (.bool p.rest)
  have hy:=(HG.out.2.1.far (g':=w.heap.size) (by omega) (.slice B q.parts.length b) (.bool q.rest)).put (.slice A p.parts.length a) p.rest
  have hz:=(HG.out.2.2.far (g':=w.heap.size) (by omega) (.slice B q.parts.length b) (.bool q.rest)).far (g':=w.heap.size+1) (by omega) (.slice A p.parts.length a) (.bool p.rest)
  have hb:=zbu (zbu HB.out (g:=w.heap.size) (Nat.le_refl _) (.slice B q.parts.length b) (.bool q.rest)) (g:=w.heap.size+1) (by omega) (.slice A p.parts.length a) (.bool p.rest)
  generalize (((w3.setCell ⟨w.heap.size,0,none⟩ (.slice B q.parts.length b)).setCell ⟨w.heap.size,1,none⟩ (.bool q.rest)).setCell ⟨w.heap.size+1,0,none⟩ (.slice A p.parts.length a)).setCell ⟨w.heap.size+1,1,none⟩ (.bool p.rest)=wx at hx hy hz hb ⊢;obtain⟨x,y,X,Y,c1,c2,HI⟩:∃(x y:Pat) (X Y:Option Addr) (c1 c2:Nat),Hid (MrSt w wx p q x y (.slice X x.parts.length c1) (.slice Y y.parts.length c2)):=⟨q,p,B,A,b,a,hd_ ⟨hb,hx,hy,hz,HQ.out.below hb,HP.out.below hb,HQE.out,HPE.out,by have:=HLT.out;omega,by have:=HSX.out;rw[HMB.out,HMS.out,if_pos HLT.out,if_pos HLT.out] at this;exact this,by rw[HMM.out,HMB.out,HMS.out,if_pos HLT.out,if_pos HLT.out,Bool.and_comm,zm5]⟩⟩
  clear x0 x1 y0 y1 q1 f0 f1 f2 f3 n1 hx hy hz hb HB HG HMM
 rotate_left
 focus
  have q1:decide ((p.parts.length:Int)<(q.parts.length:Int))=false:=by simp;omega
  have HLT:=hd_ hlt;clear hlt;go_upto_region 5 with fail;obtain⟨wx,rfl⟩:∃ X,X=w3:=⟨_,rfl⟩;obtain⟨x,y,X,Y,c1,c2,HI⟩:∃(x y:Pat) (X Y:Option Addr) (c1 c2:Nat),Hid (MrSt w wx p q x y (.slice X x.parts.length c1) (.slice Y y.parts.length c2)):=⟨p,q,A,B,a,b,hd_ ⟨HB.out,HG.out.1,HG.out.2.1,HG.out.2.2,HP.out.below HB.out,HQ.out.below HB.out,HPE.out,HQE.out,by have:=HLT.out;omega,by have:=HSX.out;rw[HMB.out,HMS.out,if_neg HLT.out,if_neg HLT.out] at this;exact this,by rw[HMM.out,HMB.out,HMS.out,if_neg HLT.out,if_neg HLT.out]⟩⟩
  clear x0 x1 y0 y1 q1 HB HG HMM
 all_goals
  clear HMB HMS HLT HP HQ HPE HQE HSX;have hlx:=zat HI.out.ex;have hle:=HI.out.le;have x0:=HI.out.b2.c0;have x1:=HI.out.b2.c1;have y0:=HI.out.b3.c0;have y1:=HI.out.b3.c1;obtain⟨cb,hcb⟩:∃ cb,zai x.parts.length x.rest y.parts.length y.rest=cb:=⟨_,rfl⟩;have HIS:=hd_ HI.out.is;rw[hcb] at HIS;have HCB:=hd_ hcb;clear hcb;go_upto_region 6 with fail;go_cut [54] (fun v wz=>v=.bool (!cb)∧wz=wx)
  case first =>
   by_cases h1:y.parts.length<x.parts.length
   ·have q1:decide ((y.parts.length:Int)<(x.parts.length:Int))=true:=by simp;omega
    have q2:((x.parts.length:Int) == (y.parts.length:Int))=false:=by rw[beq_eq_false_iff_ne];omega
    have hcb:=(zm6 h1).symm.trans HCB.out;subst hcb;have q1':decide (y.parts.length<x.parts.length)=true:=by simp;omega
    have q2':(x.parts.length == y.parts.length)=false:=by rw[beq_eq_false_iff_ne];omega
    clear h1;cases hyr:y.rest
    all_goals
     rw[hyr] at y1;have HYR:=hd_ hyr;clear hyr;go_wp2_with fail;go_meet
     exact⟨by first | rfl | simp [q1',q2',HYR.out],rfl⟩
   ·have h2:y.parts.length=x.parts.length:=by omega
    have q1:decide ((y.parts.length:Int)<(x.parts.length:Int))=false:=by simp;omega
    have q2:((x.parts.length:Int) == (y.parts.length:Int))=true:=by rw[beq_iff_eq];omega
    have hcb:=(zm7 h2).symm.trans HCB.out;subst hcb;have q1':decide (y.parts.length<x.parts.length)=false:=by simp;omega
    have q2':(x.parts.length == y.parts.length)=true:=by rw[beq_iff_eq];omega
    clear h1 h2;cases hyr:y.rest
    all_goals
     rw[hyr] at y1;have HYR:=hd_ hyr;clear hyr;cases hxr:x.rest
     all_goals
      rw[hxr] at x1;have HXR:=hd_ hxr;clear hxr;go_wp2_with fail;go_meet
      exact⟨by first | rfl | simp [q1',q2',HYR.out,HXR.out],rfl⟩
  case rest =>
   obtain⟨rfl,rfl⟩:=hcut;clear x0 x1 y0 y1;cases cb with
   | false =>
    have HN:Hid (zan p q=none):=hd_ (by rw[HIS.out];rfl)
    obtain⟨f0,f1,c0,c1⟩:=HI.out.b4.all;go_wp2_with fail;have hE:=HI.out.b4.put (.slice none 0 0) false;have hb:=zbu HI.out.low (g:=w.heap.size+1+1) (by omega) (.slice none 0 0) (.bool false)
    generalize (wc.setCell ⟨w.heap.size+1+1,0,none⟩ (.slice none 0 0)).setCell ⟨w.heap.size+1+1,1,none⟩ (.bool false)=W3 at hE hb ⊢;clear f0 f1 c0 c1;obtain⟨-,-,c0,c1⟩:=hE.all;exact bodyPost_ret (v:=.tuple #[.agg #[.slice none 0 0,.bool false],.bool false]) (by simp [results,Tryz.results64,go_sem,c0,c1]) rfl ⟨hb,.inl ⟨HN.out,rfl⟩⟩
   | true =>
    have x0:=HI.out.b2.c0;have x1:=HI.out.b2.c1;have HO:Hid (zm8 wc (wc.alloc (.cells #[.slice none 0 0,.bool x.rest] 68)) wc.heap.size (.slice none 0 0) x.rest []):=hd_ ⟨(Below.refl _ _).alloc (Nat.le_refl _) _,Nat.le_refl _,z0l wc [.slice none 0 0,.bool x.rest] _,World.ownsRow_nil _ _ _ _⟩;have y0:=HI.out.b2.c0;have hnl:=HI.out.low.size;have x2:(wc.alloc (.cells #[.slice none 0 0,.bool x.rest] 68)).cell? ⟨w.heap.size,0,none⟩=some (.slice X x.parts.length c1):=(HI.out.next HO.out.low).b2.c0;go_upto_region 9 with fail;generalize wc.alloc (.cells #[.slice none 0 0,.bool x.rest] 68)=W8 at HO x2 ⊢;clear x0 x1 y0;obtain⟨g7,hg7⟩:∃ g,wc.heap.size=g:=⟨_,rfl⟩;rw[hg7] at HO ⊢;have HG7:=hd_ hg7;clear hg7;go_wp2_with fail;go_loopw [62] (fun i wr=>∃(k:Nat) (v:Value) (done:List ByteArray),i=.int .i64 k∧k≤x.parts.length∧Hid (zao x.parts y.parts k done∧zm8 wc wr g7 v x.rest done)) (fun i _=>x.parts.length - (intOf i).toNat)
    case atStart=>exact⟨0,_,[],rfl,Nat.zero_le _,hd_ ⟨zap _ _,HO.out⟩⟩
    case round =>
     obtain⟨k,v,done,rfl,hk,HJ⟩:=hrel;clear x2 HO;by_cases hlt:k<x.parts.length
     ·have HW:=hd_ (HI.out.next HJ.out.2.low);obtain⟨ad,rfl,hab,s0⟩:=Strs.at_ HW.out.px.1 hlt;have z0:=HJ.out.2.box.c0;have HLT:=hd_ hlt;have HDL:=hd_ HJ.out.1.1;have hd12:done.length≤12:=by have:=HDL.out;omega
      have HFX:=hd_ (zch HI.out.ex hlt);have HZX:=hd_ (HI.out.px.2 _ (List.getElem_mem hlt));have HMX:=hd_ (List.getElem_mem hlt);obtain⟨Av,cv,rfl⟩:=z0o HJ.out.2.own;by_cases hge:y.parts.length≤k
      ·have q1:decide ((y.parts.length:Int)≤(k:Int))=true:=by simp;omega
       have q1':decide (y.parts.length≤k)=true:=by simp;omega
       have HN:=hd_ (zm1 HJ.out.1 hlt hge);generalize x.parts[k]=s at s0 HFX HZX HMX HN;clear hab hge;have HO1:=hd_ (HJ.out.2.under ((Below.refl wr.heap.size wr).alloc (Nat.le_refl _) (.cells #[.string s] 9)));have hrow:=z0i wr [.string s] 9 1 1 rfl (by decide) _ rfl
       have hsz:g7+1≤(wr.alloc (.cells #[.string s] 9)).heap.size:=by have:=Blk.lt HJ.out.2.box;simp;omega
       go_wp2_with (at_builtin;refine z0j rfl rfl z8c HO1.out.own rfl hrow rfl (by simp [Value.oneCell']) (by omega) (by unfold maxLen;omega) hsz ?_;intro A' c' w2 hown hgr hob;have HP:=hd_ (HO1.out.push hown hgr hob);have hbw:=Blk.grown HO1.out.box hgr (fun e=>by have:=(HO1.out.own.lt g7 e.symm).1;omega);have hfz:=hbw.frozen 0;have hcl:w2.cell? ⟨g7,0,none⟩=some (.slice Av done.length cv):=hbw.cell 0)
       go_roundw
       case rel=>exact⟨k+1,_,_,by go_num,by omega,hd_ ⟨HN.out,HP.out⟩⟩
       case measure=>simp [intOf];omega
      ·have hlt2:k<y.parts.length:=by omega
       have q1:decide ((y.parts.length:Int)≤(k:Int))=false:=by simp;omega
       have q1':decide (y.parts.length≤k)=false:=by simp;omega
       have hzl:(k:Int)<(y.parts.length:Int):=by omega
       obtain⟨ae,rfl,hae,t0⟩:=Strs.at_ HW.out.py.1 hlt2;have y0:=HW.out.b3.c0;have HFY:=hd_ (zch HI.out.ey hlt2);have HZY:=hd_ (HI.out.py.2 _ (List.getElem_mem hlt2));have HN1:Hid (z9x x.parts[k] y.parts[k]=true→zao x.parts y.parts (k+1) (done++[x.parts[k]])):=hd_ (fun h=>zar HJ.out.1 hlt hlt2 (zm3 h));have HN2:Hid (z9x x.parts[k] y.parts[k]=false→zak x.parts y.parts=none∧z9x y.parts[k] x.parts[k]=false):=hd_ (fun h=>⟨zaq HJ.out.1 hlt hlt2 (zm4 h (HI.out.st k hlt hlt2 h)),HI.out.st k hlt hlt2 h⟩);generalize x.parts[k]=s at s0 HFX HZX HMX HN1 HN2;generalize y.parts[k]=t at t0 HFY HZY HN1 HN2;clear hab hge hae;have HIA:=hd_ (fun X=>zm0 s t X HFX.out HFY.out HZX.out HZY.out);have HIB:=hd_ (fun X=>zm0 t s X HFY.out HFX.out HZY.out HZX.out);obtain⟨b,hb⟩:∃ b,z9x s t=b:=⟨_,rfl⟩;rw[hb] at HIA HN1 HN2;clear hb;cases b with
       | true =>
        have HN:=hd_ (HN1.out rfl);go_wp2_with fail;refine (HIA.out _).mono ?_;rintro e w6 ⟨rfl,hb6⟩;have HO6:=hd_ (HJ.out.2.under hb6);have z0:=HO6.out.box.c0;clear s0 t0 y0 hb6;have HO1:=hd_ (HO6.out.under ((Below.refl w6.heap.size w6).alloc (Nat.le_refl _) (.cells #[.string s] 9)));have hrow:=z0i w6 [.string s] 9 1 1 rfl (by decide) _ rfl
        have hsz:g7+1≤(w6.alloc (.cells #[.string s] 9)).heap.size:=by have:=Blk.lt HO6.out.box;simp;omega
        go_wp2_with (at_builtin;refine z0j rfl rfl z8c HO1.out.own rfl hrow rfl (by simp [Value.oneCell']) (by omega) (by unfold maxLen;omega) hsz ?_;intro A' c' w2 hown hgr hob;have HP:=hd_ (HO1.out.push hown hgr hob);have hbw:=Blk.grown HO1.out.box hgr (fun e=>by have:=(HO1.out.own.lt g7 e.symm).1;omega);have hfz:=hbw.frozen 0;have hcl:w2.cell? ⟨g7,0,none⟩=some (.slice Av done.length cv):=hbw.cell 0)
        go_roundw
        case rel=>exact⟨k+1,_,_,by go_num,by omega,hd_ ⟨HN.out,HP.out⟩⟩
        case measure=>simp [intOf];omega
       | false =>
        obtain⟨hn1,hn2⟩:=HN2.out rfl;rw[hn2] at HIB;have HN:Hid (zan p q=none):=hd_ (by rw[HIS.out];simp [hn1])
        clear hn1 hn2;go_wp2_with fail;refine (HIA.out _).mono ?_;rintro e w6 ⟨rfl,hb6⟩;have HB6:=hd_ hb6;have y0:=(HW.out.next hb6).b3.c0;have t0:=z04 t0 hb6 (z03 t0);clear s0 hb6;go_wp2_with fail;refine (HIB.out _).mono ?_;rintro e w7 ⟨rfl,hb7⟩;have HW7:=hd_ (HW.out.next (z0r HB6.out hb7));clear hb7 y0 t0;obtain⟨f0,f1,c0,c1⟩:=HW7.out.b4.all;go_wp2_with fail;have hE:=HW7.out.b4.put (.slice none 0 0) false;have hb:=zbu HW7.out.low (g:=w.heap.size+1+1) (by omega) (.slice none 0 0) (.bool false)
        generalize (w7.setCell ⟨w.heap.size+1+1,0,none⟩ (.slice none 0 0)).setCell ⟨w.heap.size+1+1,1,none⟩ (.bool false)=W3 at hE hb ⊢;clear f0 f1 c0 c1;obtain⟨-,-,c0,c1⟩:=hE.all;exact bodyPost_ret (v:=.tuple #[.agg #[.slice none 0 0,.bool false],.bool false]) (by simp [results,Tryz.results64,go_sem,c0,c1]) rfl ⟨hb,.inl ⟨HN.out,rfl⟩⟩
     ·have hke:k=x.parts.length:=by omega
      subst hke;have HME:=hd_ (zm2 HJ.out.1 HI.out.le);have HIX:Hid (zan p q=some ⟨done,x.rest && y.rest⟩):=hd_ (by rw[HIS.out];simp [HME.out])
      have HRE:Hid (x.rest=(x.rest && y.rest)):=hd_ (by
       have h:=HCB.out;by_cases h1:y.parts.length<x.parts.length
       ·rw[zm6 h1] at h;rw[h];simp
       ·rw[zm7 (by have:=HI.out.le;omega)] at h
        have:x.rest=y.rest:=by simpa using h
        rw[← this];simp)
      have HW:=hd_ (HI.out.next HJ.out.2.low);have HMM2:=hd_ (zbq HME.out);have hge:¬((x.parts.length:Int)<(x.parts.length:Int)):=by omega
      obtain⟨Av,cv,rfl⟩:=z0o HJ.out.2.own;have z0:=HJ.out.2.box.c0;have z1:=HJ.out.2.box.c1;obtain⟨f0,f1,c0,c1⟩:=HW.out.b4.all;rw[← HRE.out] at HIX;obtain⟨bx,hbx⟩:∃ bx,x.rest=bx:=⟨_,rfl⟩;rw[hbx] at z1 HIX;clear hbx;have HG8:Hid (w.heap.size+1+1<g7):=hd_ (by have:=Blk.lt HI.out.b4;have:=HG7.out;omega)
      go_wp2_with fail;have hb:=zbu HW.out.low (g:=w.heap.size+1+1) (by omega) (.slice Av done.length cv) (.bool bx)
      have hE:=HW.out.b4.put (.slice Av done.length cv) bx;have hO:=Row.of_own (z4r (z4r HJ.out.2.own (p:=⟨w.heap.size+1+1,0,none⟩) (fun e=>by have h1:g7+1≤w.heap.size+1+1:=(HJ.out.2.own.lt _ e).1;have:=HG8.out;omega) (.slice Av done.length cv)) (p:=⟨w.heap.size+1+1,1,none⟩) (fun e=>by have h1:g7+1≤w.heap.size+1+1:=(HJ.out.2.own.lt _ e).1;have:=HG8.out;omega) (.bool bx))
      generalize (wr.setCell ⟨w.heap.size+1+1,0,none⟩ (.slice Av done.length cv)).setCell ⟨w.heap.size+1+1,1,none⟩ (.bool bx)=W3 at hE hb hO ⊢;clear f0 f1 c0 c1;obtain⟨-,-,c0,c1⟩:=hE.all;refine bodyPost_ret (v:=.tuple #[.agg #[.slice Av done.length cv,.bool bx],.bool true]) (by simp [results,Tryz.results64,go_sem,c0,c1]) rfl ⟨hb,.inr ⟨⟨done,bx⟩,Av,cv,HIX.out,rfl,fun x hx=>by have:=(HJ.out.2.own.lt x hx).1;have:=HG8.out;omega,hO,fun z hz=>?_⟩⟩
      rcases HMM2.out z hz with h | h
      ·exact HI.out.px.2 z h
      ·exact HI.out.py.2 z h
