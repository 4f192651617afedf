/- A part of the proof. -/
import Derived.Test.YtegeboijhifmcaaGreatDoorMgw15
import Derived.Test.YtegeboijhifmcaaGreatDoorMgw12
set_option linter.unusedVariables false
set_option linter.unusedSimpArgs false
set_option maxHeartbeats 8000000
set_option maxRecDepth 100000
namespace Go.Proofs.YtegeboijhifmcaaGreatDoor
open Go.Proofs.Tryz
open Go.RowKit
theorem zcb {s:List UInt8}{k:Nat}{cs:List (List UInt8)}(h:z2q s k=some cs):∀ c∈cs,z0u c=true:=by
 unfold z2q at h;split at h
 ·rename_i hc
  injection h with h
  subst h;exact fun c hc2=>List.all_eq_true.1 hc.2.2 c hc2
 ·cases h
theorem zcc {p:Pat}(h:z7e p=0){k:Nat}(hk:k<p.parts.length):z7b p.parts[k]≠0:=by
 intro hf;have:z7c k p.parts[k]=false:=by unfold z7c;rw[hf];simp
 rw[z9x (z7f hk this)] at h;cases h
def goB (p:Pat)(cs:List (List UInt8)):Bool:=decide (z7e p=0) && z8c p cs
theorem capR_eq {part comp:ByteArray}(hp:z7b part≠0)(hs:z79 part=true)(hb:z82 part comp=true):z97 part comp=z81 part comp:=by
 unfold z82 at hb;rw[if_pos hs,Bool.and_eq_true] at hb;unfold z97 z81;rw[z9b hp,hs,hb.1];simp only[Bool.and_self,if_true]
 apply z1m
 rw[z9f];unfold Lib.trimSuffix;rw[hb.1];simp
theorem zcd (p:Pat)(s:ByteArray)(A:Option Addr)(c:Nat)(w:World)(he:Env w)(hs:s.size≤1000000)(hS:Strs w (.slice A p.parts.length c) p.parts)(hz:∀ x∈p.parts,x.size≤maxLen):
  Calls prog 225 #[.agg #[.slice A p.parts.length c,.bool p.rest],.string s] w (z8h w p s):=by
 obtain⟨A',c',e',hcc,hmm,-⟩:=id hS;injection e' with e1 e2 e3
 subst e1 e3;unfold maxLen at hmm;have HS:=hd_ hS;have HZ:=hd_ hz;have HND:=hd_ (@zbc p s);have HNO:=hd_ (fun cs=>@zbd p s cs);have HYE:=hd_ (fun cs=>@zbe p s cs);have HPN:=hd_ (fun X (h:z8e p s=none) (hb:Below w.heap.size w X)=>zbf h hb);have hB:=z0l w [.slice A p.parts.length c,.bool p.rest] 97;have hA:Below w.heap.size w (w.alloc (.cells #[.slice A p.parts.length c,.bool p.rest] 97)):=(Below.refl _ _).alloc (Nat.le_refl _) _;have HPA:=hd_ (fun X cs (hX:Below w.heap.size w X) h=>z91 s cs X (he.below hX) (by omega) h)
 have HPB:=hd_ (fun X (hX:Below w.heap.size w X) h=>z92 s X (he.below hX) (by omega) h)
 have HCK:=hd_ (fun X (hX:Below w.heap.size w X)=>zca p A c X (hS.below hX) hz);have HSZ:=hd_ hs;clear hS hz he e2 hs;go_enter func225,ntmps225;go_upto_region 1 with fail;generalize w.alloc (.cells #[.slice A p.parts.length c,.bool p.rest] 97)=W1 at hB hA ⊢;have HB:=hd_ hB;have HA:=hd_ hA;clear hB hA;cases hd:z2q s.data.toList 2 with
 | none =>
  have HP1:=hd_ (HPB.out W1 HA.out hd);have HR:=hd_ (HND.out hd);clear hd;go_wp2_with fail;refine HP1.out.mono ?_;rintro e w2 ⟨rfl,hb2⟩;have HB2:=hd_ (z0r HA.out hb2);have d0:w2.cell? ⟨w.heap.size,0,none⟩=some (.slice A p.parts.length c):=(HB.out.below hb2 HB.out.lt).cell 0;have d1:w2.cell? ⟨w.heap.size,1,none⟩=some (.bool p.rest):=(HB.out.below hb2 HB.out.lt).cell 1;have HC2:=hd_ (HCK.out w2 HB2.out);clear hb2;generalize z7e p=pe at HC2;by_cases h0:pe=0
  ·have q:(pe != 0)=false:=by simpa using h0
   clear h0;go_wp2_with fail;refine HC2.out.mono ?_;rintro e w3 ⟨rfl,hb3⟩;have HB3:=hd_ (z0r HB2.out hb3);clear hb3 d0 d1;go_wp2_with fail;go_ret2;exact HPN.out _ HR.out HB3.out
  ·have q:(pe != 0)=true:=by simpa using h0
   clear h0;go_wp2_with fail;refine HC2.out.mono ?_;rintro e w3 ⟨rfl,hb3⟩;have HB3:=hd_ (z0r HB2.out hb3);clear hb3 d0 d1;go_wp2_with fail;go_ret2;exact HPN.out _ HR.out HB3.out
 | some cs =>
 have HP1:=hd_ (HPA.out W1 cs HA.out hd);have hK2:=z0l W1 (z6v cs) 9;have hb2:Below W1.heap.size W1 (W1.alloc (.cells (z6v cs).toArray 9)):=(Below.refl _ _).alloc (Nat.le_refl _) _;generalize W1.alloc (.cells (z6v cs).toArray 9)=w2 at HP1 hK2 hb2;have HD:=hd_ hd;have HDP:=hd_ (zbi hd);have HDC:=hd_ (zcb hd);have HK2:=hd_ hK2;have HB2:=hd_ (z0r HA.out hb2);have d0:w2.cell? ⟨w.heap.size,0,none⟩=some (.slice A p.parts.length c):=(HB.out.below hb2 HB.out.lt).cell 0;have d1:w2.cell? ⟨w.heap.size,1,none⟩=some (.bool p.rest):=(HB.out.below hb2 HB.out.lt).cell 1;have HBW:=hd_ (HB.out.below hb2 HB.out.lt);clear hd hK2 hb2 HND HPA HPB;have hcl:cs.length≤1000001:=by have:=HDP.out.2.1;have:=HSZ.out;omega
 generalize hg2:W1.heap.size=g2 at HK2 HP1;clear hg2;have HC2:=hd_ (HCK.out w2 HB2.out);clear HCK;obtain⟨bb,hbb⟩:∃ b,goB p cs=b:=⟨_,rfl⟩;have HFD:Hid (bb=(decide (z7e p=0) && (decide (p.parts.length≤cs.length) && (decide (p.parts.length<cs.length) == p.rest)))):=hd_ (by rw[← hbb];rfl)
 have HFB:Hid (goB p cs=bb):=hd_ hbb;clear hbb;obtain⟨pe,hpe⟩:∃ e,z7e p=e:=⟨_,rfl⟩;rw[hpe] at HC2 HFD;have HPE:=hd_ hpe;clear hpe;go_wp2_with fail;refine HP1.out.mono ?_;rintro e w' ⟨rfl,rfl⟩;go_upto_region 3 with fail;go_cut [57] (fun v wx=>v=.bool (!bb)∧Hid (Below w2.heap.size w2 wx))
 case first =>
  have HD0:=hd_ d0;have HD1:=hd_ d1;by_cases h0:pe=0
  case neg =>
   have q:(pe != 0)=true:=by simpa using h0
   have hbf:bb=false:=by rw[HFD.out,decide_eq_false h0];rfl
   subst hbf;clear h0 HFD;go_wp2_with fail;refine HC2.out.mono ?_;rintro e w3 ⟨rfl,hb3⟩;clear d0 d1;go_wp2_with fail;go_meet
   exact⟨rfl,hb3⟩
  have q:(pe != 0)=false:=by simpa using h0
  have HFE:Hid (bb=(decide (p.parts.length≤cs.length) && (decide (p.parts.length<cs.length) == p.rest))):=hd_ (by rw[HFD.out,decide_eq_true h0];rfl)
  clear h0 HFD;by_cases h1:cs.length<p.parts.length
  ·have hbf:bb=false:=by rw[HFE.out,decide_eq_false (by omega)];rfl
   have q1:decide ((cs.length:Int)<(p.parts.length:Int))=true:=by simp;omega
   have q1':decide (cs.length<p.parts.length)=true:=by simp;omega
   subst hbf;clear h1 HFE;go_wp2_with fail;refine HC2.out.mono ?_;rintro e w3 ⟨rfl,hb3⟩;clear d0 d1;go_wp2_with fail;go_meet
   exact⟨by first | rfl | (rw[q1'];rfl),hb3⟩
  ·have q1:decide ((cs.length:Int)<(p.parts.length:Int))=false:=by simp;omega
   have q1':decide (cs.length<p.parts.length)=false:=by simp;omega
   rcases Bool.eq_false_or_eq_true p.rest with hr | hr
   case inl =>
    rw[hr] at d1 HC2;by_cases h2:p.parts.length<cs.length
    ·have q3:((cs.length:Int) == (p.parts.length:Int))=false:=by rw[beq_eq_false_iff_ne];omega
     have q3':(cs.length == p.parts.length)=false:=by rw[beq_eq_false_iff_ne];omega
     have hbf:bb=true:=by rw[HFE.out,hr,decide_eq_true (show p.parts.length≤cs.length by omega),decide_eq_true h2];rfl
     subst hbf;clear h1 h2 HFE hr;go_wp2_with fail;refine HC2.out.mono ?_;rintro e w3 ⟨rfl,hb3⟩;have e1:w3.cell? ⟨w.heap.size,1,none⟩=some (.bool true):=(z04 d1 hb3 (z03 d1));go_wp2_with fail;go_meet
     exact⟨by first | rfl | simp [q1',q3'],hb3⟩
    ·have q3:((cs.length:Int) == (p.parts.length:Int))=true:=by rw[beq_iff_eq];omega
     have q3':(cs.length == p.parts.length)=true:=by rw[beq_iff_eq];omega
     have hbf:bb=false:=by rw[HFE.out,hr,decide_eq_false h2];simp
     subst hbf;clear h1 h2 HFE hr;go_wp2_with fail;refine HC2.out.mono ?_;rintro e w3 ⟨rfl,hb3⟩;have e1:w3.cell? ⟨w.heap.size,1,none⟩=some (.bool true):=(z04 d1 hb3 (z03 d1));go_wp2_with fail;go_meet
     exact⟨by first | rfl | simp [q1',q3'],hb3⟩
   case inr =>
    rw[hr] at d1 HC2;by_cases h2:p.parts.length<cs.length
    ·have q2:decide ((p.parts.length:Int)<(cs.length:Int))=true:=by simp;omega
     have q2':decide (p.parts.length<cs.length)=true:=by simp;omega
     have hbf:bb=false:=by rw[HFE.out,hr,decide_eq_true h2];simp
     subst hbf;clear h1 h2 HFE hr;go_wp2_with fail;refine HC2.out.mono ?_;rintro e w3 ⟨rfl,hb3⟩;have e1:w3.cell? ⟨w.heap.size,1,none⟩=some (.bool false):=(z04 d1 hb3 (z03 d1));go_wp2_with fail;go_meet
     exact⟨by first | rfl | simp [q1',q2'],hb3⟩
    ·have q2:decide ((p.parts.length:Int)<(cs.length:Int))=false:=by simp;omega
     have q2':decide (p.parts.length<cs.length)=false:=by simp;omega
     have hbf:bb=true:=by rw[HFE.out,hr,decide_eq_true (show p.parts.length≤cs.length by omega),decide_eq_false h2];rfl
     subst hbf;clear h1 h2 HFE hr;go_wp2_with fail;refine HC2.out.mono ?_;rintro e w3 ⟨rfl,hb3⟩;have e1:w3.cell? ⟨w.heap.size,1,none⟩=some (.bool false):=(z04 d1 hb3 (z03 d1));go_wp2_with fail;go_meet
     exact⟨by first | rfl | simp [q1',q2'],hb3⟩
 case rest =>
  obtain⟨rfl,hcb⟩:=hcut;have HB3:=hd_ (z0r HB2.out hcb.out);have HK3:=hd_ (HK2.out.below hcb.out HK2.out.lt);have HBW3:=hd_ (HBW.out.below hcb.out HBW.out.lt);clear hcb d0 d1 HC2 HK2 HBW HP1;have d0:wc.cell? ⟨w.heap.size,0,none⟩=some (.slice A p.parts.length c):=HBW3.out.cell 0;have d1:wc.cell? ⟨w.heap.size,1,none⟩=some (.bool p.rest):=HBW3.out.cell 1;cases bb with
  | false =>
   have HR:=hd_ (HNO.out _ HD.out (fun h=>by have h2:=HFB.out;unfold goB at h2;rw[h.1,h.2.1] at h2;cases h2))
   go_wp2_with fail;go_ret2;exact HPN.out _ HR.out HB3.out
  | true =>
   rw[show (!true)=false from rfl];have hgo:=HFB.out;unfold goB at hgo;rw[Bool.and_eq_true,decide_eq_true_eq] at hgo;have HP0:=hd_ hgo.1;have HFT:=hd_ hgo.2;have hle:p.parts.length≤cs.length:=by
    have:=hgo.2;unfold z8c at this;rw[Bool.and_eq_true,decide_eq_true_eq] at this;exact this.1
   clear HFD hgo HFB;have HNZ:=hd_ (fun k (hk:k<p.parts.length) (h:z82 (z88 p.parts k) (z89 cs k)=false)=>HNO.out _ HD.out (fun hh=>by have:=hh.2.2;rw[z8g hk h] at this;cases this))
   have HYY:=hd_ (fun(h:z8a p.parts cs p.parts.length=true)=>HYE.out _ HD.out HP0.out HFT.out h);have HCL:=hd_ hcl;have HLE:=hd_ hle;go_wp2_with fail;clear d0 d1;go_loopw [9,61] (fun u s wr=>∃(k m:Nat) (A2:Option Addr) (c2:Nat),s=.int .i64 k∧u=.slice A2 m c2∧k≤p.parts.length∧m≤k∧Hid (m=(z8b p.parts cs k).length∧z8a p.parts cs k=true∧Below wc.heap.size wc wr∧wr.ownsRow wc.heap.size 9 1 (.slice A2 m c2) m ((z8b p.parts cs k).map .string))) (fun _ s _=>p.parts.length - (intOf s).toNat)
   case atStart=>exact⟨0,0,none,0,rfl,rfl,Nat.zero_le _,Nat.le_refl _,rfl,rfl,Below.refl _ _,World.ownsRow_nil _ _ _ _⟩
   case round =>
    obtain⟨k,m,A2,c2,rfl,rfl,hk,hmk,HI⟩:=hrel;by_cases hlt:k<p.parts.length
    ·have hkc:k<cs.length:=by omega
     have hz1:(k:Int)<(cs.length:Int):=by omega
     have hbw:=z0r HB3.out HI.out.2.2.1;obtain⟨ad,rfl,hab,x0⟩:=Strs.at_ (HS.out.below hbw) hlt;have x1:=(HK3.out.below HI.out.2.2.1 HK3.out.lt).strs k hkc;have HX:=hd_ (zbg hlt);have HY:=hd_ (zbh hkc);have hps:(p.parts[k]).size≤maxLen:=HZ.out _ (List.getElem_mem hlt);have hcz:(baL cs[k]).size≤maxLen:=by rw[z6x];have:=HDP.out.1 _ (List.getElem_mem hkc);have:=HSZ.out;unfold maxLen;omega
     have hfo:=zcc HP0.out hlt;have hcap:z98 p.parts[k] (baL cs[k])=z82 p.parts[k] (baL cs[k]):=z9g hfo (HDC.out _ (List.getElem_mem hkc));generalize p.parts[k]=part at x0 HX hps hcap hfo;generalize baL cs[k]=comp at x1 HY hcz hcap;have HM:=hd_ (fun X=>z9r part comp X hps hcz);have HT:=hd_ (fun X=>z9n part X hps);rw[hcap] at HM;unfold z9k at HT;rw[z9b hfo] at HT;have HCE:Hid (z79 part=true→z82 part comp=true→z97 part comp=z81 part comp):=hd_ (capR_eq hfo);have HNK:Hid (z82 part comp=false→z8e p s=none):=hd_ (fun h=>HNZ.out k hlt (by rw[HX.out,HY.out];exact h))
     have HZB:Hid (z82 part comp=true→z8a p.parts cs (k+1)=true):=hd_ (fun h=>by rw[z8f,HI.out.2.1,HX.out,HY.out,h];rfl)
     have HZC:Hid (z8b p.parts cs (k+1)=z8b p.parts cs k++(if z79 part then [z81 part comp] else [])):=hd_ (by rw[← HX.out,← HY.out];rfl)
     generalize z81 part comp=x at HZC HCE;generalize z97 part comp=y at HM HCE;generalize z82 part comp=b at HM HNK HZB HCE;generalize z79 part=st at HT HZC HCE;generalize z80 part=sx at HT;clear hbw hps hcz hab hcap hfo;cases b with
     | false =>
      have HR:=hd_ (HNK.out rfl);have HBI:=hd_ (z0r HB3.out HI.out.2.2.1);go_wp2_with fail;refine (HM.out _).mono ?_;rintro e w' ⟨rfl,rfl⟩;go_wp2_with fail;go_ret2;exact HPN.out _ HR.out HBI.out
     | true =>
      have HB:=hd_ (HZB.out rfl);cases st with
      | false =>
       have HN:Hid (m=(z8b p.parts cs (k+1)).length∧z8a p.parts cs (k+1)=true∧Below wc.heap.size wc wr∧wr.ownsRow wc.heap.size 9 1 (.slice A2 m c2) m ((z8b p.parts cs (k+1)).map .string)):=hd_ (by
        have e:z8b p.parts cs (k+1)=z8b p.parts cs k:=by rw[HZC.out];simp
        rw[e];exact⟨HI.out.1,HB.out,HI.out.2.2.1,HI.out.2.2.2⟩)
       go_wp2_with fail;refine (HM.out _).mono ?_;rintro e w' ⟨rfl,rfl⟩;go_wp2_with fail;refine (HT.out _).mono ?_;rintro e w' ⟨rfl,rfl⟩;go_wp2_with fail;go_roundw
       case rel=>exact⟨k+1,m,A2,c2,by go_num,rfl,by omega,by omega,HN.out⟩
       case measure=>simp [intOf];omega
      | true =>
       have HOW:=hd_ HI.out.2.2.2;have HBI:=hd_ HI.out.2.2.1;have hyx:=HCE.out rfl rfl;subst hyx;go_wp2_with fail;refine (HM.out _).mono ?_;rintro e w' ⟨rfl,rfl⟩;go_wp2_with fail;refine (HT.out _).mono ?_;rintro e w' ⟨rfl,rfl⟩;go_wp2_with (first
        | (at_builtin;refine z0k rfl rfl z87 (z0n HOW.out ((Below.refl _ _).alloc (Nat.le_refl _) _)) rfl (z0i _ [.string y] _ 1 1 rfl (by decide) _ (by simp)) rfl (HBI.out.alloc HBI.out.size _) (HBI.out.alloc HBI.out.size _).size (by simp [Value.oneCell']) (by omega) (by unfold maxLen;omega) ?_;intro A' c' w5 hown5 hbl5))
       have HN:Hid (m+1=(z8b p.parts cs (k+1)).length∧z8a p.parts cs (k+1)=true∧Below wc.heap.size wc w5∧w5.ownsRow wc.heap.size 9 1 (.slice A' (m+1) c') (m+1) ((z8b p.parts cs (k+1)).map .string)):=hd_ (by
        have e:z8b p.parts cs (k+1)=z8b p.parts cs k++[y]:=by rw[HZC.out];rfl
        rw[e];refine⟨by rw[List.length_append,List.length_singleton,HI.out.1],HB.out,hbl5,?_⟩
        rw[List.map_append];exact hown5)
       clear hown5 hbl5;go_wp2_with fail;go_roundw
       case rel=>exact⟨k+1,m+1,A',c',by go_num,rfl,by omega,by omega,HN.out⟩
       case measure=>simp [intOf];omega
    ·have hke:k=p.parts.length:=by omega
     have HF:Hid (m=(z8b p.parts cs p.parts.length).length∧z8e p s=some (z8d p cs)∧Below wc.heap.size wc wr∧wr.ownsRow wc.heap.size 9 1 (.slice A2 m c2) m ((z8b p.parts cs p.parts.length).map .string)):=hd_ (by
      have h:=HI.out;rw[hke] at h;exact⟨h.1,HYY.out h.2.1,h.2.2.1,h.2.2.2⟩)
     have d1:wr.cell? ⟨w.heap.size,1,none⟩=some (.bool p.rest):=(HBW3.out.below HI.out.2.2.1 HBW3.out.lt).cell 1;have hge:¬((k:Int)<(p.parts.length:Int)):=by omega
     clear HI hke;cases hr:p.rest with
     | false =>
      rw[hr] at d1;have HRS:=hd_ hr;clear hr;go_wp2_with fail;go_ret2;refine⟨A2,m,c2,by rw[HF.out.2.1];rfl,z0r HB3.out HF.out.2.2.1,fun l hl=>?_⟩
      rw[HF.out.2.1] at hl;injection hl with hl
      have e:z8d p cs=z8b p.parts cs p.parts.length:=by unfold z8d;rw[HRS.out];simp
      rw[e] at hl;subst hl;refine⟨HF.out.1,?_⟩;have:=Row.of_own HF.out.2.2.2;rw[HF.out.1] at this ⊢;exact this
     | true =>
      rw[hr] at d1;have HRS:=hd_ hr;clear hr;have hnc:p.parts.length<cs.length:=by
       have h:=HFT.out;unfold z8c at h;rw[HRS.out] at h;simp only[Bool.and_eq_true,beq_iff_eq,decide_eq_true_eq] at h
       exact h.2
      have hK:=HK3.out.below HF.out.2.2.1 HK3.out.lt;have hat:z8k wr g2 p.parts.length (cs.drop p.parts.length):=fun j hj=>by
       rw[List.length_drop] at hj;rw[List.getElem_drop];exact hK.strs _ (by omega)
      have hJ:=z8n (cs.drop p.parts.length) g2 p.parts.length (cs.length - p.parts.length) wr hat (by rw[List.length_drop];omega) (by rw[List.length_drop];omega) (by rw[List.length_drop];omega) (by have:=zbj cs p.parts.length;have:=HDP.out.2.2;have:=HSZ.out;omega)
      rw[List.length_drop] at hJ;have HJ:=hd_ hJ;have HCP:Hid (z8d p cs=z8b p.parts cs p.parts.length++[baL (Lib.join (cs.drop p.parts.length) [47])]):=hd_ (by unfold z8d;rw[HRS.out];rfl)
      generalize baL (Lib.join (cs.drop p.parts.length) [47])=x at HJ HCP;clear hJ hat hK;go_wp2_with fail;refine HJ.out.mono ?_;rintro e w6 ⟨rfl,hb6⟩;have HOW:=hd_ (z0n HF.out.2.2.2 hb6);have HBI:=hd_ (z0r HF.out.2.2.1 hb6);clear hb6;go_wp2_with (first
       | (at_builtin;refine z0k rfl rfl z87 (z0n HOW.out ((Below.refl _ _).alloc (Nat.le_refl _) _)) rfl (z0i _ [.string x] _ 1 1 rfl (by decide) _ (by simp)) rfl (HBI.out.alloc HBI.out.size _) (HBI.out.alloc HBI.out.size _).size (by simp [Value.oneCell']) (by omega) (by unfold maxLen;omega) ?_;intro A' c' w7 hown7 hbl7))
      have HO7:=hd_ hown7;have HB7:=hd_ hbl7;clear hown7 hbl7;go_wp2_with fail;go_ret2;refine⟨A',m+1,c',by rw[HF.out.2.1];rfl,z0r HB3.out HB7.out,fun l hl=>?_⟩
      rw[HF.out.2.1] at hl;injection hl with hl
      rw[HCP.out] at hl;subst hl;have hm:=HF.out.1;refine⟨by rw[List.length_append,List.length_singleton,hm],?_⟩
      have h7:=Row.of_own HO7.out;show Row w7 1 _ (z8b p.parts cs p.parts.length++[x]).length _
      rw[List.length_append,List.length_singleton,← hm,List.map_append];exact h7
structure zd8 where
 l:zd1
 r:zd1
 hv:Value
 hs:List zd1
def zd8.cells (x:zd8):List Value:=[x.l.v,.bool x.l.1.rest,x.r.v,.bool x.r.1.rest,x.hv]
def zd8.val (x:zd8):Value:=.agg #[x.l.v,.bool x.l.1.rest,x.r.v,.bool x.r.1.rest,x.hv]
structure zd9 (w:World)(x:zd8):Prop where
 l:za9 w x.l.v x.l.1
 r:za9 w x.r.v x.r.1
 h:zd2 w x.hv x.hs
 n:x.hs.length≤1000
theorem zd9.below {w w':World}{x:zd8}(h:zd9 w x)(hb:Below w.heap.size w w'):zd9 w' x:=⟨h.l.below hb,h.r.below hb,h.h.below hb,h.n⟩
theorem zda (A B:Option Addr)(n m a b:Nat)(x y:Bool)(h0:Value)(w:World):Calls prog 56 #[.agg #[(.slice A n a),(.bool x),(.slice B m b),(.bool y),h0]] w fun e w'=>e=.returned (.agg #[.bool false,(.slice A n a),(.bool x),(.slice B m b),(.bool y)])∧Below w.heap.size w w':=by
 have hB:=z0l w [(.slice A n a),(.bool x),(.slice B m b),(.bool y),h0] 100;have hA:Below w.heap.size w (w.alloc (.cells #[(.slice A n a),(.bool x),(.slice B m b),(.bool y),h0] 100)):=(Below.refl _ _).alloc (Nat.le_refl _) _;go_enter func56,ntmps56;go_upto_region 1 with fail;have hZ:=z0l (w.alloc (.cells #[(.slice A n a),(.bool x),(.slice B m b),(.bool y),h0] 100)) [.bool false,.slice none 0 0,.bool false,.slice none 0 0,.bool false] 119;rw[World.size_alloc] at hZ;have hB1:=hB.alloc (.cells #[.bool false,.slice none 0 0,.bool false,.slice none 0 0,.bool false] 119);have hA1:=hA.alloc (by simp:w.heap.size≤_) (.cells #[.bool false,.slice none 0 0,.bool false,.slice none 0 0,.bool false] 119)
 generalize (w.alloc (.cells #[(.slice A n a),(.bool x),(.slice B m b),(.bool y),h0] 100)).alloc (.cells #[.bool false,.slice none 0 0,.bool false,.slice none 0 0,.bool false] 119)=W1 at hZ hB1 hA1 ⊢;obtain⟨d0,d1,d2,d3⟩:=(⟨hB1.cell 0,hB1.cell 1,hB1.cell 2,hB1.cell 3⟩:W1.cell? ⟨w.heap.size,0,none⟩=some (.slice A n a)∧W1.cell? ⟨w.heap.size,1,none⟩=some (.bool x)∧W1.cell? ⟨w.heap.size,2,none⟩=some (.slice B m b)∧W1.cell? ⟨w.heap.size,3,none⟩=some (.bool y));obtain⟨z0,z1,z2,z3,z4⟩:=(⟨hZ.cell 0,hZ.cell 1,hZ.cell 2,hZ.cell 3,hZ.cell 4⟩:W1.cell? ⟨w.heap.size+1,0,none⟩=some (.bool false)∧W1.cell? ⟨w.heap.size+1,1,none⟩=some (.slice none 0 0)∧W1.cell? ⟨w.heap.size+1,2,none⟩=some (.bool false)∧W1.cell? ⟨w.heap.size+1,3,none⟩=some (.slice none 0 0)∧W1.cell? ⟨w.heap.size+1,4,none⟩=some (.bool false));obtain⟨y0,y1,y2,y3,y4⟩:=(⟨hZ.frozen 0,hZ.frozen 1,hZ.frozen 2,hZ.frozen 3,hZ.frozen 4⟩:W1.frozen? ⟨w.heap.size+1,0,none⟩=false∧W1.frozen? ⟨w.heap.size+1,1,none⟩=false∧W1.frozen? ⟨w.heap.size+1,2,none⟩=false∧W1.frozen? ⟨w.heap.size+1,3,none⟩=false∧W1.frozen? ⟨w.heap.size+1,4,none⟩=false);go_wp2_with fail;have hE:=((((hZ.set_ 0 (.bool false)).set_ 1 (.slice A n a)).set_ 2 (.bool x)).set_ 3 (.slice B m b)).set_ 4 (.bool y);have hb:=((((hA1.setCell (p:=⟨w.heap.size+1,0,none⟩) (by simp) (.bool false)).setCell (p:=⟨w.heap.size+1,1,none⟩) (by simp) (.slice A n a)).setCell (p:=⟨w.heap.size+1,2,none⟩) (by simp) (.bool x)).setCell (p:=⟨w.heap.size+1,3,none⟩) (by simp) (.slice B m b)).setCell (p:=⟨w.heap.size+1,4,none⟩) (by simp) (.bool y)
 generalize ((((W1.setCell ⟨w.heap.size+1,0,none⟩ (.bool false)).setCell ⟨w.heap.size+1,1,none⟩ (.slice A n a)).setCell ⟨w.heap.size+1,2,none⟩ (.bool x)).setCell ⟨w.heap.size+1,3,none⟩ (.slice B m b)).setCell ⟨w.heap.size+1,4,none⟩ (.bool y)=W3 at hE hb ⊢;have e0:=hE.cell 0;have e1:=hE.cell 1;have e2:=hE.cell 2;have e3:=hE.cell 3;have e4:=hE.cell 4;exact bodyPost_ret (v:=.agg #[.bool false,.slice A n a,.bool x,.slice B m b,.bool y]) (by simp [results,results56,go_sem,e0,e1,e2,e3,e4]) rfl ⟨rfl,hb⟩
theorem zdb (A H:Option Addr)(n a k c:Nat)(x y:Bool)(r0:Value)(w:World):Calls prog 54 #[.agg #[.slice A n a,.bool x,r0,.bool y,.slice H k c]] w fun e w'=>e=.returned (.agg #[.slice A n a,.bool x,.slice H k c])∧Below w.heap.size w w':=by
 have hB:=z0l w [.slice A n a,.bool x,r0,.bool y,.slice H k c] 100;have hA:Below w.heap.size w (w.alloc (.cells #[.slice A n a,.bool x,r0,.bool y,.slice H k c] 100)):=(Below.refl _ _).alloc (Nat.le_refl _) _;go_enter func54,ntmps54;go_upto_region 1 with fail;have hZ:=z0l (w.alloc (.cells #[.slice A n a,.bool x,r0,.bool y,.slice H k c] 100)) [.slice none 0 0,.bool false,.slice none 0 0] 115;rw[World.size_alloc] at hZ;have hB1:=hB.alloc (.cells #[.slice none 0 0,.bool false,.slice none 0 0] 115);have hA1:=hA.alloc (by simp:w.heap.size≤_) (.cells #[.slice none 0 0,.bool false,.slice none 0 0] 115)
 generalize (w.alloc (.cells #[.slice A n a,.bool x,r0,.bool y,.slice H k c] 100)).alloc (.cells #[.slice none 0 0,.bool false,.slice none 0 0] 115)=W1 at hZ hB1 hA1 ⊢;obtain⟨d0,d1,d4⟩:=(⟨hB1.cell 0,hB1.cell 1,hB1.cell 4⟩:W1.cell? ⟨w.heap.size,0,none⟩=some (.slice A n a)∧W1.cell? ⟨w.heap.size,1,none⟩=some (.bool x)∧W1.cell? ⟨w.heap.size,4,none⟩=some (.slice H k c));obtain⟨z0,z1,z2⟩:=(⟨hZ.cell 0,hZ.cell 1,hZ.cell 2⟩:W1.cell? ⟨w.heap.size+1,0,none⟩=some (.slice none 0 0)∧W1.cell? ⟨w.heap.size+1,1,none⟩=some (.bool false)∧W1.cell? ⟨w.heap.size+1,2,none⟩=some (.slice none 0 0));obtain⟨y0,y1,y2⟩:=(⟨hZ.frozen 0,hZ.frozen 1,hZ.frozen 2⟩:W1.frozen? ⟨w.heap.size+1,0,none⟩=false∧W1.frozen? ⟨w.heap.size+1,1,none⟩=false∧W1.frozen? ⟨w.heap.size+1,2,none⟩=false);go_wp2_with fail;have hE:=((hZ.set_ 0 (.slice A n a)).set_ 1 (.bool x)).set_ 2 (.slice H k c);have hb:=((hA1.setCell (p:=⟨w.heap.size+1,0,none⟩) (by simp) (.slice A n a)).setCell (p:=⟨w.heap.size+1,1,none⟩) (by simp) (.bool x)).setCell (p:=⟨w.heap.size+1,2,none⟩) (by simp) (.slice H k c)
 generalize ((W1.setCell ⟨w.heap.size+1,0,none⟩ (.slice A n a)).setCell ⟨w.heap.size+1,1,none⟩ (.bool x)).setCell ⟨w.heap.size+1,2,none⟩ (.slice H k c)=W3 at hE hb ⊢;have e0:=hE.cell 0;have e1:=hE.cell 1;have e2:=hE.cell 2;exact bodyPost_ret (v:=.agg #[.slice A n a,.bool x,.slice H k c]) (by simp [results,results54,go_sem,e0,e1,e2]) rfl ⟨rfl,hb⟩
theorem zdc (l r:Pat)(hs:List zd1)(A B H:Option Addr)(a b c:Nat)(w:World)(hl:za9 w (.slice A l.parts.length a) l)(hr:za9 w (.slice B r.parts.length b) r)(hh:zd2 w (.slice H hs.length c) hs)(hn:hs.length≤1000000)(e1:za8 l r=0)(e2:zd3 l hs=0):
  Calls prog 64 #[.agg #[.slice A l.parts.length a,.bool l.rest,.slice B r.parts.length b,.bool r.rest,.slice H hs.length c]] w fun e w'=>e=.returned (.bool true)∧Below w.heap.size w w':=by
 have hB:=z0l w [.slice A l.parts.length a,.bool l.rest,.slice B r.parts.length b,.bool r.rest,.slice H hs.length c] 100;have hA:Below w.heap.size w (w.alloc (.cells #[.slice A l.parts.length a,.bool l.rest,.slice B r.parts.length b,.bool r.rest,.slice H hs.length c] 100)):=(Below.refl _ _).alloc (Nat.le_refl _) _;have HLI:=hd_ (fun X=>zda A B l.parts.length r.parts.length a b l.rest r.rest (.slice H hs.length c) X);have HLE:=hd_ (fun X=>zdb A H l.parts.length a hs.length c l.rest r.rest (.slice B r.parts.length b) X);have HRC:=hd_ (fun X (hX:Below w.heap.size w X)=>zaa false l r A B a b X (hl.below hX) (hr.below hX));have HGC:=hd_ (fun X (hX:Below w.heap.size w X)=>zd7 l hs A H a c X (hl.below hX) (hh.below hX) hn);rw[e1] at HRC;rw[e2] at HGC;clear hl hr hh hn e1 e2;go_enter func64,ntmps64;go_upto_region 1 with fail;generalize w.alloc (.cells #[.slice A l.parts.length a,.bool l.rest,.slice B r.parts.length b,.bool r.rest,.slice H hs.length c] 100)=W1 at hA hB ⊢;obtain⟨d0,d1,d2,d3,d4⟩:=(⟨hB.cell 0,hB.cell 1,hB.cell 2,hB.cell 3,hB.cell 4⟩:W1.cell? ⟨w.heap.size,0,none⟩=some (.slice A l.parts.length a)∧W1.cell? ⟨w.heap.size,1,none⟩=some (.bool l.rest)∧W1.cell? ⟨w.heap.size,2,none⟩=some (.slice B r.parts.length b)∧W1.cell? ⟨w.heap.size,3,none⟩=some (.bool r.rest)∧W1.cell? ⟨w.heap.size,4,none⟩=some (.slice H hs.length c));have HB:=hd_ hB;have HA:=hd_ hA;clear hA hB;go_wp2_with fail;refine (HLI.out W1).mono ?_;rintro e w2 ⟨rfl,hb⟩;have HA2:=hd_ (z0r HA.out hb);have HB2:=hd_ (HB.out.below hb HB.out.lt);clear hb d0 d1 d2 d3 d4;go_wp2_with fail;refine (HRC.out w2 HA2.out).mono ?_;rintro e w3 ⟨rfl,hb⟩;have HA3:=hd_ (z0r HA2.out hb);have hB3:=HB2.out.below hb HB2.out.lt;clear hb;obtain⟨d0,d1,d2,d3,d4⟩:=(⟨hB3.cell 0,hB3.cell 1,hB3.cell 2,hB3.cell 3,hB3.cell 4⟩:w3.cell? ⟨w.heap.size,0,none⟩=some (.slice A l.parts.length a)∧w3.cell? ⟨w.heap.size,1,none⟩=some (.bool l.rest)∧w3.cell? ⟨w.heap.size,2,none⟩=some (.slice B r.parts.length b)∧w3.cell? ⟨w.heap.size,3,none⟩=some (.bool r.rest)∧w3.cell? ⟨w.heap.size,4,none⟩=some (.slice H hs.length c))
 clear hB3;go_wp2_with fail;refine (HLE.out w3).mono ?_;rintro e w4 ⟨rfl,hb⟩;have HA4:=hd_ (z0r HA3.out hb);clear hb d0 d1 d2 d3 d4;go_wp2_with fail;refine (HGC.out w4 HA4.out).mono ?_;rintro e w5 ⟨rfl,hb⟩;have HA5:=hd_ (z0r HA4.out hb);clear hb;go_wp2_with fail;go_ret;exact⟨rfl,HA5.out⟩
abbrev Fl:=ByteArray×ByteArray
def Shut (b:ByteArray→Bool)(pr:List Syn)(p l:ByteArray):Prop:=∀ x∈pr,z3o x.kind=false→b x.path=false→x.dst≠z2l→x.dst=l→x.path=p
structure BkIn (hs:List Hav)(pl:List Syn)(b:ByteArray→Bool)(Q:List Fl)(p l:ByteArray)(pr:List Syn):Prop where
 sound:∀ q,b q=true→Bl hs pl q
 one:(∃ h∈hs,h.path=p∧h.loc=l)∧zem pl b p
 que:∀ q∈Q,(∃ h∈hs,h.path=q.1∧h.loc=q.2)∧zem pl b q.1
 done:∀ h∈hs,zem pl b h.path→(h.path,h.loc)∈Q∨Shut b pl h.path h.loc∨(h.path=p∧h.loc=l)
 shut:Shut b pr p l
structure BkSt (hs:List Hav)(pl:List Syn)(b:ByteArray→Bool)(Q:List Fl):Prop where
 sound:∀ q,b q=true→Bl hs pl q
 que:∀ q∈Q,(∃ h∈hs,h.path=q.1∧h.loc=q.2)∧zem pl b q.1
 done:∀ h∈hs,zem pl b h.path→(h.path,h.loc)∈Q∨Shut b pl h.path h.loc
def setB (b:ByteArray→Bool)(p:ByteArray):ByteArray→Bool:=fun q=>decide (q=p) || b q
section
variable {hs : List Hav} {pl : List Syn} {b : ByteArray → Bool} {Q : List Fl}
theorem zkb {p q:ByteArray}(h:b q=true):setB b p q=true:=by unfold setB;rw[h,Bool.or_true]
theorem zkc {p:ByteArray}:setB b p p=true:=by unfold setB;simp
theorem zkd {p q:ByteArray}(h:setB b p q=true):q=p∨b q=true:=by unfold setB at h;simpa using h
theorem zke {p q:ByteArray}(h:setB b p q=false):q≠p∧b q=false:=by
 unfold setB at h;simp only[Bool.or_eq_false_iff,decide_eq_false_iff_not] at h
 exact h
theorem zkf {p q:ByteArray}(h:zem pl b q):zem pl (setB b p) q:=by
 rcases h with h | ⟨y,h,h1 | h1⟩
 ·exact .inl h
 ·exact .inr ⟨y,h,.inl h1⟩
 ·exact .inr ⟨y,h,.inr (zkb h1)⟩
theorem zkg {p q l:ByteArray}{pr:List Syn}(h:Shut b pr q l):Shut (setB b p) pr q l:=fun x hx h1 h2=>h x hx h1 (zke h2).2
theorem bk_init (hs:List Hav)(pl:List Syn)(Q:List Fl)(hq:∀ q,q∈Q↔∃ h∈hs,(h.path,h.loc)=q∧zem pl (fun _=>false) h.path):BkSt hs pl (fun _=>false) Q:=
 ⟨(fun q h=>by cases h),(fun q hQ=>by
  obtain⟨f,h1,h2,h3⟩:=(hq q).1 hQ;subst h2;exact⟨⟨f,h1,rfl,rfl⟩,h3⟩),fun f hh hs2=>.inl ((hq _).2 ⟨f,hh,rfl,hs2⟩)⟩
theorem bk_pop {p l:ByteArray}(h:BkSt hs pl b ((p,l) :: Q)):BkIn hs pl b Q p l []:=
 ⟨h.sound,h.que _ (List.mem_cons_self ..),fun q hq=>h.que q (List.mem_cons_of_mem _ hq),(fun x hx hs2=>by
  rcases h.done x hx hs2 with h1 | h1
  ·rcases List.mem_cons.1 h1 with h1 | h1
   ·exact .inr (.inr (by injection h1 with a c;exact⟨a,c⟩))
   ·exact .inl h1
  ·exact .inr (.inl h1)),(fun x hx=>by cases hx)⟩
theorem bk_skip {p l:ByteArray}{pr:List Syn}{x:Syn}(h:BkIn hs pl b Q p l pr)(hx:x.path=p∨z3o x.kind=true∨b x.path=true):BkIn hs pl b Q p l (pr++[x]):=
 ⟨h.sound,h.one,h.que,h.done,fun y hy h1 h2 h3 h4=>by
  rcases List.mem_append.1 hy with hy | hy
  ·exact h.shut y hy h1 h2 h3 h4
  ·rw[List.mem_singleton] at hy;subst hy;rcases hx with e | e | e
   ·exact e
   ·rw[h1] at e;cases e
   ·rw[h2] at e;cases e⟩
theorem zkh {p l:ByteArray}{pr:List Syn}{x:Syn}(hsrt:z6c pl)(h1:zf0 hs)(hfrm:∀ x∈pl,x.frm=zk4 hs x.path)(h:BkIn hs pl b Q p l pr)(hx:x∈pl)(hp:x.path≠p)(hk:z3o x.kind=false)(hd:x.dst≠z2l)(hl:x.dst=l):
  BkIn hs pl (setB b x.path) (if x.frm=z2l then Q else Q++[(x.path,x.frm)]) p l (pr++[x]):=by
 have hg:z6e pl x.path=some x:=z65 hsrt hx;have hst:zem pl (setB b x.path) x.path:=.inr ⟨x,hg,.inr zkc⟩;obtain⟨⟨f,f1,f2,f3⟩,f4⟩:=h.one;refine⟨fun q hq=>?_,⟨⟨f,f1,f2,f3⟩,zkf f4⟩,fun q hq=>?_,fun y hy hs2=>?_,fun y hy e1 e2 e3 e4=>?_⟩
 ·rcases zkd hq with rfl | hq
  ·exact zen h.sound hx hk hd f1 (by rw[f3,hl]) (by rw[f2];exact fun e=>hp e.symm) (by rw[f2];exact f4)
  ·exact h.sound q hq
 ·by_cases hf:x.frm=z2l
  ·rw[if_pos hf] at hq;obtain⟨a,c⟩:=h.que q hq;exact⟨a,zkf c⟩
  ·rw[if_neg hf] at hq;rcases List.mem_append.1 hq with hq | hq
   ·obtain⟨a,c⟩:=h.que q hq;exact⟨a,zkf c⟩
   ·rw[List.mem_singleton] at hq;subst hq;refine⟨?_,hst⟩;have e:=hfrm x hx;unfold zk4 at e;cases hh:z6d hs x.path with
    | none=>rw[hh] at e;exact absurd e hf
    | some a =>
     rw[hh] at e;obtain⟨m1,m2⟩:=zk5 hh;exact⟨a,m1,m2,e.symm⟩
 ·by_cases ep:y.path=x.path
  ·-- the file of the step that was blocked just now
   have e:=hfrm x hx;unfold zk4 at e;rw[← ep,zpw h1 hy] at e;have e':x.frm=y.loc:=e;have hf:¬ x.frm=z2l:=by rw[e'];exact h1.locNe hy
   rw[if_neg hf];exact .inl (List.mem_append.2 (.inr (by rw[List.mem_singleton,ep,e'])))
  ·have hs3:zem pl b y.path:=by
    rcases hs2 with h2 | ⟨z,h2,h3 | h3⟩
    ·exact .inl h2
    ·exact .inr ⟨z,h2,.inl h3⟩
    ·rcases zkd h3 with h3 | h3
     ·exact absurd h3 ep
     ·exact .inr ⟨z,h2,.inr h3⟩
   rcases h.done y hy hs3 with h2 | h2 | h2
   ·refine .inl ?_;split
    ·exact h2
    ·exact List.mem_append.2 (.inl h2)
   ·exact .inr (.inl (zkg h2))
   ·exact .inr (.inr h2)
 ·obtain⟨o1,o2⟩:=zke e2;rcases List.mem_append.1 hy with hy | hy
  ·exact h.shut y hy e1 o2 e3 e4
  ·rw[List.mem_singleton] at hy;subst hy;exact absurd rfl o1
theorem bk_end {p l:ByteArray}{pr:List Syn}(h1:zf0 hs)(h:BkIn hs pl b Q p l pr)(hall:∀ x∈pl,x.dst≠z2l→x.dst=l→x∈pr):BkSt hs pl b Q:=
 ⟨h.sound,h.que,fun y hy hs2=>by
  rcases h.done y hy hs2 with h2 | h2 | ⟨h2,h3⟩
  ·exact .inl h2
  ·exact .inr h2
  ·refine .inr fun x hx e1 e2 e3 e4=>?_;rw[h3] at e4;rw[h2];exact h.shut x (hall x hx e3 e4) e1 e2 e3 e4⟩
theorem bk_over (h:BkSt hs pl b []):b=blB hs pl:=
 bl_eq h.sound fun x hx h1 h2 h3 f hf h4 h5 h6=>by
  rcases h.done f hf h6 with h7 | h7
  ·cases h7
  ·exact h5 (h7 x hx h1 h2 h3 h4.symm).symm
def zki (b:ByteArray→Bool)(pl:List Syn):Nat:=(pl.filter fun x=>!z3o x.kind && !b x.path).length
theorem zkj {x:Syn}(hx:x∈pl)(hk:z3o x.kind=false)(hb:b x.path=false):zki (setB b x.path) pl+1≤zki b pl:=by
 unfold zki;induction pl with
 | nil=>cases hx
 | cons y pl ih =>
  have le:∀ l:List Syn,(l.filter fun z=>!z3o z.kind && !(setB b x.path) z.path).length≤(l.filter fun z=>!z3o z.kind && !b z.path).length:=by
   intro l;induction l with
   | nil=>exact Nat.le_refl _
   | cons z l ih =>
    rw[List.filter_cons,List.filter_cons];by_cases c:(!z3o z.kind && !(setB b x.path) z.path)=true
    ·have c2:(!z3o z.kind && !b z.path)=true:=by
      simp only[Bool.and_eq_true,Bool.not_eq_true'] at c ⊢
      exact⟨c.1,(zke c.2).2⟩
     rw[if_pos c,if_pos c2];exact Nat.succ_le_succ ih
    ·rw[if_neg c];split
     ·exact Nat.le_succ_of_le ih
     ·exact ih
  rw[List.filter_cons,List.filter_cons];by_cases e:y.path=x.path
  ·have c1:¬(!z3o y.kind && !(setB b x.path) y.path)=true:=by rw[e,zkc];simp
   rw[if_neg c1];rcases List.mem_cons.1 hx with rfl | hx
   ·have c2:(!z3o x.kind && !b x.path)=true:=by rw[hk,hb];rfl
    rw[if_pos c2];exact Nat.succ_le_succ (le pl)
   ·split
    ·exact Nat.le_succ_of_le (ih hx)
    ·exact ih hx
  ·have hx':x∈pl:=by
    rcases List.mem_cons.1 hx with rfl | h
    ·exact absurd rfl e
    ·exact h
   have same:(setB b x.path) y.path=b y.path:=by unfold setB;rw[decide_eq_false e,Bool.false_or]
   rw[same];split
   ·exact Nat.succ_le_succ (ih hx')
   ·exact ih hx'
end
end Go.Proofs.YtegeboijhifmcaaGreatDoor
