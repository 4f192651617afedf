/- The reference's patterns: Check: the walk. -/
import Derived.Test.YtegeboijhifmcaaGreatDoorMgw5
import Derived.Test.YtegeboijhifmcaaGreatDoorMgw3
import Derived.Test.YtegeboijhifmcaaGreatDoorMgw10
import Derived.Test.YtegeboijhifmcaaGreatDoorMgw13
import Derived.Test.YtegeboijhifmcaaGreatDoorMgw9
import Derived.Test.YtegeboijhifmcaaGreatDoorMgw11
import Derived.Lib.QuietBelow
namespace Go.Proofs.YtegeboijhifmcaaGreatDoor
set_option linter.unusedVariables false
set_option linter.unusedSimpArgs false
set_option maxHeartbeats 8000000
set_option maxRecDepth 100000
open Go.RowKit
theorem zc6 {j:Nat}{x:ByteArray}(hj:0<j):z7c j x=z95 x:=by
 unfold z7c;rw[z9c,decide_eq_false (by omega:¬ j=0)]
 simp
theorem zc7 {p:Pat}(h:0<p.parts.length)(hc:z0v p.parts[0]=false):z7e p=30:=by
 by_cases h1:p.parts.length=1∧p.rest=false
 ·exact z9w h1.1 h1.2
 ·exact z9x (z7f h (by rw[z9d,hc]))
theorem zc8 {p:Pat}{j:Nat}(hj:j+1<p.parts.length)(hc:z95 p.parts[j+1]=false):z7e p=30:=z9x (z7f hj (by rw[zc6 (by omega),hc]))
theorem zc9 {p:Pat}(h1:¬(p.parts.length=0∨(p.parts.length=1∧p.rest=false)))(h0:∀ h:0<p.parts.length,z0v p.parts[0]=true)(h:∀ j (hj:j+1<p.parts.length),z95 p.parts[j+1]=true):z7e p=if 12<p.parts.length then 31 else 0:=by
 refine z9y h1 (z7g fun j hj=>?_);cases j with
 | zero=>rw[z9d];exact h0 hj
 | succ j=>rw[zc6 (by omega)];exact h j hj
theorem zca (p:Pat)(A:Option Addr)(c:Nat)(w:World)(hS:Strs w (.slice A p.parts.length c) p.parts)(hz:∀ x∈p.parts,x.size≤maxLen):
  Calls Tryz.prog 181 #[.agg #[.slice A p.parts.length c,.bool p.rest]] w fun e w'=>e=.returned (.int .i64 (z7e p))∧Below w.heap.size w w':=by
 obtain⟨A',c',e',hcc,hmm,-⟩:=id hS;injection e' with e1 e2 e3
 subst e1 e3;unfold maxLen at hmm;have HS:=hd_ hS;have HZ:=hd_ hz;have HCO:=hd_ (fun x (hx:x.size≤maxLen) X=>z8s x X hx);have HPA:=hd_ (fun x (hx:x.size≤maxLen) X=>z9o x X hx);obtain⟨parts,rest⟩:=p;dsimp only at hcc hmm HS HZ ⊢
 have HE0:=hd_ (@patE_0 ⟨parts,rest⟩);have HE1:=hd_ (@z9w ⟨parts,rest⟩);have HEC:=hd_ (@zc7 ⟨parts,rest⟩);have HEP:=hd_ (fun j hj hc=>@zc8 ⟨parts,rest⟩ j hj hc);have HEE:=hd_ (@zc9 ⟨parts,rest⟩);have hB:=z0l w [.slice A parts.length c,.bool rest] 97;have hA:Below w.heap.size w (w.alloc (.cells #[.slice A parts.length c,.bool rest] 97)):=(Below.refl _ _).alloc (Nat.le_refl _) _;clear hS hz e2;go_enter Tryz.func181,Tryz.ntmps181;go_upto_region 1 with fail;generalize w.alloc (.cells #[.slice A parts.length c,.bool rest] 97)=W1 at hB hA ⊢;have d0:W1.cell? ⟨w.heap.size,0,none⟩=some (.slice A parts.length c):=hB.cell 0;have d1:W1.cell? ⟨w.heap.size,1,none⟩=some (.bool rest):=hB.cell 1;have HB:=hd_ hB;have HA:=hd_ hA;clear hB hA;by_cases h0:parts.length=0
 ·have q0:((parts.length:Int) == 0)=true:=by rw[beq_iff_eq];omega
  have HR:=hd_ (HE0.out h0);clear h0;go_wp2_with fail;go_ret;exact⟨z7j HR.out.symm,HA.out⟩
 ·have q0:((parts.length:Int) == 0)=false:=by rw[beq_eq_false_iff_ne];omega
  by_cases h1:parts.length=1∧rest=false
  ·have q1:((parts.length:Int) == 1)=true:=by rw[beq_iff_eq];omega
   have HR:=hd_ (HE1.out h1.1 h1.2);obtain⟨h1,rfl⟩:=h1;clear h0 h1;go_wp2_with fail;go_ret;exact⟨z7j HR.out.symm,HA.out⟩
  ·have hpos:0<parts.length:=by omega
   have HN1:=hd_ (show ¬(parts.length=0∨(parts.length=1∧rest=false)) from fun h=>h.elim h0 h1);obtain⟨ad,rfl,hab,x0⟩:=Strs.at_ (HS.out.below HA.out) hpos;have hadd:(ad.add 0)=ad:=by unfold Addr.add;cases ad;simp
   have HX0:=hd_ (HCO.out _ (HZ.out _ (List.getElem_mem hpos)));have HNC:=hd_ (fun h=>HEC.out hpos h);obtain⟨fst,hfst⟩:∃ x,parts[0]=x:=⟨_,rfl⟩;rw[hfst] at x0;have HF:Hid (∀ X,Calls Tryz.prog 215 #[.string fst] X fun e w'=>e=.returned (.bool (z0v fst))∧X=w'):=hd_ (fun X=>by rw[← hfst];exact HX0.out X)
   have HNC2:Hid (z0v fst=false→z7e ⟨parts,rest⟩=30):=hd_ (fun h=>HNC.out (by dsimp only;rw[hfst];exact h))
   have HYC2:Hid (z0v fst=true→∀ h:0<parts.length,z0v parts[0]=true):=hd_ (fun h _=>by rw[hfst];exact h)
   clear hfst HX0 HNC;clear h0 hab;have hone:((parts.length:Int) == 1)=true→rest=true:=fun h=>by
    cases rest with
    | true=>rfl
    | false=>exact absurd ⟨by rw[beq_iff_eq] at h;omega,rfl⟩ h1
   clear h1;rw[hadd] at x0;clear hadd;have hp0:(0:Int)<(parts.length:Int):=by omega
   go_cut [27] (fun v wx=>v=.bool (!z0v fst)∧wx=W1)
   case first =>
    have HON:=hd_ hone;clear hone;cases q1:((parts.length:Int) == 1) with
    | true =>
     obtain rfl:=HON.out q1
     go_wp2_with fail;refine (HF.out _).mono ?_;rintro e w' ⟨rfl,rfl⟩;go_wp2_with fail;go_meet
     exact⟨rfl,rfl⟩
    | false =>
     go_wp2_with fail;refine (HF.out _).mono ?_;rintro e w' ⟨rfl,rfl⟩;go_wp2_with fail;go_meet
     exact⟨rfl,rfl⟩
   case rest =>
    obtain⟨rfl,rfl⟩:=hcut;have HNO:=hd_ hone;clear hone x0 hp0 q0;cases hc:z0v fst with
    | false =>
     have HR:=hd_ (HNC2.out hc);clear hc;go_wp2_with fail;go_ret;exact⟨z7j HR.out.symm,HA.out⟩
    | true =>
     have HYC:=hd_ (HYC2.out hc);obtain⟨A2,c2,hrun,hrow⟩:=z0b (P:=Tryz.prog) (t:=29) (lo:=1) (x:=1) (kx:=.i64) Tryz.underlying29 Tryz.sizeOf9 (HS.out.below HA.out) (by omega) rfl
     rw[Nat.one_mul,← List.map_drop] at hrow;obtain⟨l2,hl2⟩:∃ l2,parts.drop 1=l2:=⟨_,rfl⟩;have hlen:parts.length - 1=l2.length:=by rw[← hl2,List.length_drop]
     rw[hl2] at hrow;rw[hlen] at hrow hrun;have HS2:Hid (Strs wc (.slice A2 l2.length c2) l2):=hd_ hrow;have HGT:Hid (∀ j (hj:j<l2.length),∃ h:j+1<parts.length,parts[j+1]=l2[j]):=hd_ (fun j hj=>⟨by omega,by subst hl2;rw[List.getElem_drop];congr 1;omega⟩)
     have HLN:=hd_ hlen;have hl2b:l2.length≤9223372036854775806:=by omega
     clear hrow hl2 hlen hc;go_wp2_with fail;clear hrun;go_loop [32] (fun i=>∃ k:Nat,k≤l2.length∧i=.int .i64 k∧Hid (∀ j (hj:j<l2.length),j<k→z95 l2[j]=true)) (fun i=>l2.length - (intOf i).toNat)
     case atStart=>exact⟨0,Nat.zero_le _,rfl,fun j _ h=>by omega⟩
     case round =>
      obtain⟨k,hk,rfl,HI⟩:=hrel;by_cases hlt:k<l2.length
      ·obtain⟨ad2,rfl,hab2,x1⟩:=Strs.at_ HS2.out hlt;have HPX:=hd_ (fun X=>HPA.out l2[k] (by obtain⟨h,e⟩:=HGT.out k hlt;rw[← e];exact HZ.out _ (List.getElem_mem h)) X)
       have HBD:Hid (z95 l2[k]=false→z7e ⟨parts,rest⟩=30):=hd_ (fun h=>by obtain⟨h1,e⟩:=HGT.out k hlt;exact HEP.out k h1 (by rw[e];exact h))
       have HGD:Hid (z95 l2[k]=true→∀ j (hj:j<l2.length),j<k+1→z95 l2[j]=true):=hd_ (fun h j hj a=>by
        by_cases e:j=k
        ·subst e;exact h
        ·exact HI.out j hj (by omega))
       generalize hx:l2[k]=x at x1 HPX HBD HGD;clear hx HI;cases hb:z95 x with
       | false =>
        have HR:=hd_ (HBD.out hb);rw[hb] at HPX;clear hb;go_wp2_with fail;refine (HPX.out _).mono ?_;rintro e w' ⟨rfl,rfl⟩;go_wp2_with fail;go_ret;exact⟨z7j HR.out.symm,HA.out⟩
       | true =>
        have HJ:=hd_ (HGD.out hb);rw[hb] at HPX;clear hb;go_wp2_with fail;refine (HPX.out _).mono ?_;rintro e w' ⟨rfl,rfl⟩;go_wp2_with fail;go_round
        case rel=>exact⟨k+1,by omega,by go_num,HJ.out⟩
        case measure=>simp [intOf];omega
      ·have HR:=hd_ (HEE.out HN1.out (fun h=>HYC.out h) (fun j hj=>by
        obtain⟨h,e⟩:=HGT.out j (by have:=HLN.out;omega)
        rw[e];exact HI.out j _ (by have:=HLN.out;omega)))
       clear HI;by_cases h12:12<parts.length
       ·have q12:decide ((12:Int)<(parts.length:Int))=true:=by simp;omega
        have HR2:Hid (z7e ⟨parts,rest⟩=31):=hd_ (by rw[HR.out];exact if_pos h12)
        clear h12;go_wp2_with fail;go_ret;exact⟨z7j HR2.out.symm,HA.out⟩
       ·have q12:decide ((12:Int)<(parts.length:Int))=false:=by simp;omega
        have HR2:Hid (z7e ⟨parts,rest⟩=0):=hd_ (by rw[HR.out];exact if_neg h12)
        clear h12;go_wp2_with fail;go_ret;exact⟨z7j HR2.out.symm,HA.out⟩
theorem zcb {s:List UInt8}{k:Nat}{cs:List (List UInt8)}(h:z2q s k=some cs):∀ c∈cs,z0u c=true:=by
 unfold z2q at h;split at h
 ·rename_i hc
  injection h with h
  subst h;exact fun c hc2=>List.all_eq_true.1 hc.2.2 c hc2
 ·cases h
theorem zcc {p:Pat}(h:z7e p=0){k:Nat}(hk:k<p.parts.length):z7b p.parts[k]≠0:=by
 intro hf;have:z7c k p.parts[k]=false:=by unfold z7c;rw[hf];simp
 rw[z9x (z7f hk this)] at h;cases h
def goB (p:Pat)(cs:List (List UInt8)):Bool:=decide (z7e p=0) && z8c p cs
theorem capR_eq {part comp:ByteArray}(hp:z7b part≠0)(hs:z79 part=true)(hb:z82 part comp=true):z97 part comp=z81 part comp:=by
 unfold z82 at hb;rw[if_pos hs,Bool.and_eq_true] at hb;unfold z97 z81;rw[z9b hp,hs,hb.1];simp only[Bool.and_self,if_true]
 apply z1m
 rw[z9f];unfold Lib.trimSuffix;rw[hb.1];simp
theorem zcd (p:Pat)(s:ByteArray)(A:Option Addr)(c:Nat)(w:World)(he:Env w)(hs:s.size≤1000000)(hS:Strs w (.slice A p.parts.length c) p.parts)(hz:∀ x∈p.parts,x.size≤maxLen):
  Calls Tryz.prog 225 #[.agg #[.slice A p.parts.length c,.bool p.rest],.string s] w (z8h w p s):=by
 obtain⟨A',c',e',hcc,hmm,-⟩:=id hS;injection e' with e1 e2 e3
 subst e1 e3;unfold maxLen at hmm;have HS:=hd_ hS;have HZ:=hd_ hz;have HND:=hd_ (@zbc p s);have HNO:=hd_ (fun cs=>@zbd p s cs);have HYE:=hd_ (fun cs=>@zbe p s cs);have HPN:=hd_ (fun X (h:z8e p s=none) (hb:Below w.heap.size w X)=>zbf h hb);have hB:=z0l w [.slice A p.parts.length c,.bool p.rest] 97;have hA:Below w.heap.size w (w.alloc (.cells #[.slice A p.parts.length c,.bool p.rest] 97)):=(Below.refl _ _).alloc (Nat.le_refl _) _;have HPA:=hd_ (fun X cs (hX:Below w.heap.size w X) h=>z91 s cs X (he.below hX) (by omega) h)
 have HPB:=hd_ (fun X (hX:Below w.heap.size w X) h=>z92 s X (he.below hX) (by omega) h)
 have HCK:=hd_ (fun X (hX:Below w.heap.size w X)=>zca p A c X (hS.below hX) hz);have HSZ:=hd_ hs;clear hS hz he e2 hs;go_enter Tryz.func225,Tryz.ntmps225;go_upto_region 1 with fail;generalize w.alloc (.cells #[.slice A p.parts.length c,.bool p.rest] 97)=W1 at hB hA ⊢;have HB:=hd_ hB;have HA:=hd_ hA;clear hB hA;cases hd:z2q s.data.toList 2 with
 | none =>
  have HP1:=hd_ (HPB.out W1 HA.out hd);have HR:=hd_ (HND.out hd);clear hd;go_wp2_with fail;refine HP1.out.mono ?_;rintro e w2 ⟨rfl,hb2⟩;have HB2:=hd_ (z0r HA.out hb2);have d0:w2.cell? ⟨w.heap.size,0,none⟩=some (.slice A p.parts.length c):=(HB.out.below hb2 HB.out.lt).cell 0;have d1:w2.cell? ⟨w.heap.size,1,none⟩=some (.bool p.rest):=(HB.out.below hb2 HB.out.lt).cell 1;have HC2:=hd_ (HCK.out w2 HB2.out);clear hb2;generalize z7e p=pe at HC2;by_cases h0:pe=0
  ·have q:(pe != 0)=false:=by simpa using h0
   clear h0;go_wp2_with fail;refine HC2.out.mono ?_;rintro e w3 ⟨rfl,hb3⟩;have HB3:=hd_ (z0r HB2.out hb3);clear hb3 d0 d1;go_wp2_with fail;go_ret2;exact HPN.out _ HR.out HB3.out
  ·have q:(pe != 0)=true:=by simpa using h0
   clear h0;go_wp2_with fail;refine HC2.out.mono ?_;rintro e w3 ⟨rfl,hb3⟩;have HB3:=hd_ (z0r HB2.out hb3);clear hb3 d0 d1;go_wp2_with fail;go_ret2;exact HPN.out _ HR.out HB3.out
 | some cs =>
 have HP1:=hd_ (HPA.out W1 cs HA.out hd);have hK2:=z0l W1 (z6v cs) 9;have hb2:Below W1.heap.size W1 (W1.alloc (.cells (z6v cs).toArray 9)):=(Below.refl _ _).alloc (Nat.le_refl _) _;generalize W1.alloc (.cells (z6v cs).toArray 9)=w2 at HP1 hK2 hb2;have HD:=hd_ hd;have HDP:=hd_ (zbi hd);have HDC:=hd_ (zcb hd);have HK2:=hd_ hK2;have HB2:=hd_ (z0r HA.out hb2);have d0:w2.cell? ⟨w.heap.size,0,none⟩=some (.slice A p.parts.length c):=(HB.out.below hb2 HB.out.lt).cell 0;have d1:w2.cell? ⟨w.heap.size,1,none⟩=some (.bool p.rest):=(HB.out.below hb2 HB.out.lt).cell 1;have HBW:=hd_ (HB.out.below hb2 HB.out.lt);clear hd hK2 hb2 HND HPA HPB;have hcl:cs.length≤1000001:=by have:=HDP.out.2.1;have:=HSZ.out;omega
 generalize hg2:W1.heap.size=g2 at HK2 HP1;clear hg2;have HC2:=hd_ (HCK.out w2 HB2.out);clear HCK;obtain⟨bb,hbb⟩:∃ b,goB p cs=b:=⟨_,rfl⟩;have HFD:Hid (bb=(decide (z7e p=0) && (decide (p.parts.length≤cs.length) && (decide (p.parts.length<cs.length) == p.rest)))):=hd_ (by rw[← hbb];rfl)
 have HFB:Hid (goB p cs=bb):=hd_ hbb;clear hbb;obtain⟨pe,hpe⟩:∃ e,z7e p=e:=⟨_,rfl⟩;rw[hpe] at HC2 HFD;have HPE:=hd_ hpe;clear hpe;go_wp2_with fail;refine HP1.out.mono ?_;rintro e w' ⟨rfl,rfl⟩;go_upto_region 3 with fail;go_cut [57] (fun v wx=>v=.bool (!bb)∧Hid (Below w2.heap.size w2 wx))
 case first =>
  have HD0:=hd_ d0;have HD1:=hd_ d1;by_cases h0:pe=0
  case neg =>
   have q:(pe != 0)=true:=by simpa using h0
   have hbf:bb=false:=by rw[HFD.out,decide_eq_false h0];rfl
   subst hbf;clear h0 HFD;go_wp2_with fail;refine HC2.out.mono ?_;rintro e w3 ⟨rfl,hb3⟩;clear d0 d1;go_wp2_with fail;go_meet
   exact⟨rfl,hb3⟩
  have q:(pe != 0)=false:=by simpa using h0
  have HFE:Hid (bb=(decide (p.parts.length≤cs.length) && (decide (p.parts.length<cs.length) == p.rest))):=hd_ (by rw[HFD.out,decide_eq_true h0];rfl)
  clear h0 HFD;by_cases h1:cs.length<p.parts.length
  ·have hbf:bb=false:=by rw[HFE.out,decide_eq_false (by omega)];rfl
   have q1:decide ((cs.length:Int)<(p.parts.length:Int))=true:=by simp;omega
   have q1':decide (cs.length<p.parts.length)=true:=by simp;omega
   subst hbf;clear h1 HFE;go_wp2_with fail;refine HC2.out.mono ?_;rintro e w3 ⟨rfl,hb3⟩;clear d0 d1;go_wp2_with fail;go_meet
   exact⟨by first | rfl | (rw[q1'];rfl),hb3⟩
  ·have q1:decide ((cs.length:Int)<(p.parts.length:Int))=false:=by simp;omega
   have q1':decide (cs.length<p.parts.length)=false:=by simp;omega
   rcases Bool.eq_false_or_eq_true p.rest with hr | hr
   case inl =>
    rw[hr] at d1 HC2;by_cases h2:p.parts.length<cs.length
    ·have q3:((cs.length:Int) == (p.parts.length:Int))=false:=by rw[beq_eq_false_iff_ne];omega
     have q3':(cs.length == p.parts.length)=false:=by rw[beq_eq_false_iff_ne];omega
     have hbf:bb=true:=by rw[HFE.out,hr,decide_eq_true (show p.parts.length≤cs.length by omega),decide_eq_true h2];rfl
     subst hbf;clear h1 h2 HFE hr;go_wp2_with fail;refine HC2.out.mono ?_;rintro e w3 ⟨rfl,hb3⟩;have e1:w3.cell? ⟨w.heap.size,1,none⟩=some (.bool true):=(z04 d1 hb3 (z03 d1));go_wp2_with fail;go_meet
     exact⟨by first | rfl | simp [q1',q3'],hb3⟩
    ·have q3:((cs.length:Int) == (p.parts.length:Int))=true:=by rw[beq_iff_eq];omega
     have q3':(cs.length == p.parts.length)=true:=by rw[beq_iff_eq];omega
     have hbf:bb=false:=by rw[HFE.out,hr,decide_eq_false h2];simp
     subst hbf;clear h1 h2 HFE hr;go_wp2_with fail;refine HC2.out.mono ?_;rintro e w3 ⟨rfl,hb3⟩;have e1:w3.cell? ⟨w.heap.size,1,none⟩=some (.bool true):=(z04 d1 hb3 (z03 d1));go_wp2_with fail;go_meet
     exact⟨by first | rfl | simp [q1',q3'],hb3⟩
   case inr =>
    rw[hr] at d1 HC2;by_cases h2:p.parts.length<cs.length
    ·have q2:decide ((p.parts.length:Int)<(cs.length:Int))=true:=by simp;omega
     have q2':decide (p.parts.length<cs.length)=true:=by simp;omega
     have hbf:bb=false:=by rw[HFE.out,hr,decide_eq_true h2];simp
     subst hbf;clear h1 h2 HFE hr;go_wp2_with fail;refine HC2.out.mono ?_;rintro e w3 ⟨rfl,hb3⟩;have e1:w3.cell? ⟨w.heap.size,1,none⟩=some (.bool false):=(z04 d1 hb3 (z03 d1));go_wp2_with fail;go_meet
     exact⟨by first | rfl | simp [q1',q2'],hb3⟩
    ·have q2:decide ((p.parts.length:Int)<(cs.length:Int))=false:=by simp;omega
     have q2':decide (p.parts.length<cs.length)=false:=by simp;omega
     have hbf:bb=true:=by rw[HFE.out,hr,decide_eq_true (show p.parts.length≤cs.length by omega),decide_eq_false h2];rfl
     subst hbf;clear h1 h2 HFE hr;go_wp2_with fail;refine HC2.out.mono ?_;rintro e w3 ⟨rfl,hb3⟩;have e1:w3.cell? ⟨w.heap.size,1,none⟩=some (.bool false):=(z04 d1 hb3 (z03 d1));go_wp2_with fail;go_meet
     exact⟨by first | rfl | simp [q1',q2'],hb3⟩
 case rest =>
  obtain⟨rfl,hcb⟩:=hcut;have HB3:=hd_ (z0r HB2.out hcb.out);have HK3:=hd_ (HK2.out.below hcb.out HK2.out.lt);have HBW3:=hd_ (HBW.out.below hcb.out HBW.out.lt);clear hcb d0 d1 HC2 HK2 HBW HP1;have d0:wc.cell? ⟨w.heap.size,0,none⟩=some (.slice A p.parts.length c):=HBW3.out.cell 0;have d1:wc.cell? ⟨w.heap.size,1,none⟩=some (.bool p.rest):=HBW3.out.cell 1;cases bb with
  | false =>
   have HR:=hd_ (HNO.out _ HD.out (fun h=>by have h2:=HFB.out;unfold goB at h2;rw[h.1,h.2.1] at h2;cases h2))
   go_wp2_with fail;go_ret2;exact HPN.out _ HR.out HB3.out
  | true =>
   rw[show (!true)=false from rfl];have hgo:=HFB.out;unfold goB at hgo;rw[Bool.and_eq_true,decide_eq_true_eq] at hgo;have HP0:=hd_ hgo.1;have HFT:=hd_ hgo.2;have hle:p.parts.length≤cs.length:=by
    have:=hgo.2;unfold z8c at this;rw[Bool.and_eq_true,decide_eq_true_eq] at this;exact this.1
   clear HFD hgo HFB;have HNZ:=hd_ (fun k (hk:k<p.parts.length) (h:z82 (z88 p.parts k) (z89 cs k)=false)=>HNO.out _ HD.out (fun hh=>by have:=hh.2.2;rw[z8g hk h] at this;cases this))
   have HYY:=hd_ (fun(h:z8a p.parts cs p.parts.length=true)=>HYE.out _ HD.out HP0.out HFT.out h);have HCL:=hd_ hcl;have HLE:=hd_ hle;go_wp2_with fail;clear d0 d1;go_loopw [9,61] (fun u s wr=>∃(k m:Nat) (A2:Option Addr) (c2:Nat),s=.int .i64 k∧u=.slice A2 m c2∧k≤p.parts.length∧m≤k∧Hid (m=(z8b p.parts cs k).length∧z8a p.parts cs k=true∧Below wc.heap.size wc wr∧wr.ownsRow wc.heap.size 9 1 (.slice A2 m c2) m ((z8b p.parts cs k).map .string))) (fun _ s _=>p.parts.length - (intOf s).toNat)
   case atStart=>exact⟨0,0,none,0,rfl,rfl,Nat.zero_le _,Nat.le_refl _,rfl,rfl,Below.refl _ _,World.ownsRow_nil _ _ _ _⟩
   case round =>
    obtain⟨k,m,A2,c2,rfl,rfl,hk,hmk,HI⟩:=hrel;by_cases hlt:k<p.parts.length
    ·have hkc:k<cs.length:=by omega
     have hz1:(k:Int)<(cs.length:Int):=by omega
     have hbw:=z0r HB3.out HI.out.2.2.1;obtain⟨ad,rfl,hab,x0⟩:=Strs.at_ (HS.out.below hbw) hlt;have x1:=(HK3.out.below HI.out.2.2.1 HK3.out.lt).strs k hkc;have HX:=hd_ (zbg hlt);have HY:=hd_ (zbh hkc);have hps:(p.parts[k]).size≤maxLen:=HZ.out _ (List.getElem_mem hlt);have hcz:(baL cs[k]).size≤maxLen:=by rw[z6x];have:=HDP.out.1 _ (List.getElem_mem hkc);have:=HSZ.out;unfold maxLen;omega
     have hfo:=zcc HP0.out hlt;have hcap:z98 p.parts[k] (baL cs[k])=z82 p.parts[k] (baL cs[k]):=z9g hfo (HDC.out _ (List.getElem_mem hkc));generalize p.parts[k]=part at x0 HX hps hcap hfo;generalize baL cs[k]=comp at x1 HY hcz hcap;have HM:=hd_ (fun X=>z9r part comp X hps hcz);have HT:=hd_ (fun X=>z9n part X hps);rw[hcap] at HM;unfold z9k at HT;rw[z9b hfo] at HT;have HCE:Hid (z79 part=true→z82 part comp=true→z97 part comp=z81 part comp):=hd_ (capR_eq hfo);have HNK:Hid (z82 part comp=false→z8e p s=none):=hd_ (fun h=>HNZ.out k hlt (by rw[HX.out,HY.out];exact h))
     have HZB:Hid (z82 part comp=true→z8a p.parts cs (k+1)=true):=hd_ (fun h=>by rw[z8f,HI.out.2.1,HX.out,HY.out,h];rfl)
     have HZC:Hid (z8b p.parts cs (k+1)=z8b p.parts cs k++(if z79 part then [z81 part comp] else [])):=hd_ (by rw[← HX.out,← HY.out];rfl)
     generalize z81 part comp=x at HZC HCE;generalize z97 part comp=y at HM HCE;generalize z82 part comp=b at HM HNK HZB HCE;generalize z79 part=st at HT HZC HCE;generalize z80 part=sx at HT;clear hbw hps hcz hab hcap hfo;cases b with
     | false =>
      have HR:=hd_ (HNK.out rfl);have HBI:=hd_ (z0r HB3.out HI.out.2.2.1);go_wp2_with fail;refine (HM.out _).mono ?_;rintro e w' ⟨rfl,rfl⟩;go_wp2_with fail;go_ret2;exact HPN.out _ HR.out HBI.out
     | true =>
      have HB:=hd_ (HZB.out rfl);cases st with
      | false =>
       have HN:Hid (m=(z8b p.parts cs (k+1)).length∧z8a p.parts cs (k+1)=true∧Below wc.heap.size wc wr∧wr.ownsRow wc.heap.size 9 1 (.slice A2 m c2) m ((z8b p.parts cs (k+1)).map .string)):=hd_ (by
        have e:z8b p.parts cs (k+1)=z8b p.parts cs k:=by rw[HZC.out];simp
        rw[e];exact⟨HI.out.1,HB.out,HI.out.2.2.1,HI.out.2.2.2⟩)
       go_wp2_with fail;refine (HM.out _).mono ?_;rintro e w' ⟨rfl,rfl⟩;go_wp2_with fail;refine (HT.out _).mono ?_;rintro e w' ⟨rfl,rfl⟩;go_wp2_with fail;go_roundw
       case rel=>exact⟨k+1,m,A2,c2,by go_num,rfl,by omega,by omega,HN.out⟩
       case measure=>simp [intOf];omega
      | true =>
       have HOW:=hd_ HI.out.2.2.2;have HBI:=hd_ HI.out.2.2.1;have hyx:=HCE.out rfl rfl;subst hyx;go_wp2_with fail;refine (HM.out _).mono ?_;rintro e w' ⟨rfl,rfl⟩;go_wp2_with fail;refine (HT.out _).mono ?_;rintro e w' ⟨rfl,rfl⟩;go_wp2_with (first
        | (at_builtin;refine z0k rfl rfl z87 (z0n HOW.out ((Below.refl _ _).alloc (Nat.le_refl _) _)) rfl (z0i _ [.string y] _ 1 1 rfl (by decide) _ (by simp)) rfl (HBI.out.alloc HBI.out.size _) (HBI.out.alloc HBI.out.size _).size (by simp [Value.oneCell']) (by omega) (by unfold maxLen;omega) ?_;intro A' c' w5 hown5 hbl5))
       have HN:Hid (m+1=(z8b p.parts cs (k+1)).length∧z8a p.parts cs (k+1)=true∧Below wc.heap.size wc w5∧w5.ownsRow wc.heap.size 9 1 (.slice A' (m+1) c') (m+1) ((z8b p.parts cs (k+1)).map .string)):=hd_ (by
        have e:z8b p.parts cs (k+1)=z8b p.parts cs k++[y]:=by rw[HZC.out];rfl
        rw[e];refine⟨by rw[List.length_append,List.length_singleton,HI.out.1],HB.out,hbl5,?_⟩
        rw[List.map_append];exact hown5)
       clear hown5 hbl5;go_wp2_with fail;go_roundw
       case rel=>exact⟨k+1,m+1,A',c',by go_num,rfl,by omega,by omega,HN.out⟩
       case measure=>simp [intOf];omega
    ·have hke:k=p.parts.length:=by omega
     have HF:Hid (m=(z8b p.parts cs p.parts.length).length∧z8e p s=some (z8d p cs)∧Below wc.heap.size wc wr∧wr.ownsRow wc.heap.size 9 1 (.slice A2 m c2) m ((z8b p.parts cs p.parts.length).map .string)):=hd_ (by
      have h:=HI.out;rw[hke] at h;exact⟨h.1,HYY.out h.2.1,h.2.2.1,h.2.2.2⟩)
     have d1:wr.cell? ⟨w.heap.size,1,none⟩=some (.bool p.rest):=(HBW3.out.below HI.out.2.2.1 HBW3.out.lt).cell 1;have hge:¬((k:Int)<(p.parts.length:Int)):=by omega
     clear HI hke;cases hr:p.rest with
     | false =>
      rw[hr] at d1;have HRS:=hd_ hr;clear hr;go_wp2_with fail;go_ret2;refine⟨A2,m,c2,by rw[HF.out.2.1];rfl,z0r HB3.out HF.out.2.2.1,fun l hl=>?_⟩
      rw[HF.out.2.1] at hl;injection hl with hl
      have e:z8d p cs=z8b p.parts cs p.parts.length:=by unfold z8d;rw[HRS.out];simp
      rw[e] at hl;subst hl;refine⟨HF.out.1,?_⟩;have:=Row.of_own HF.out.2.2.2;rw[HF.out.1] at this ⊢;exact this
     | true =>
      rw[hr] at d1;have HRS:=hd_ hr;clear hr;have hnc:p.parts.length<cs.length:=by
       have h:=HFT.out;unfold z8c at h;rw[HRS.out] at h;simp only[Bool.and_eq_true,beq_iff_eq,decide_eq_true_eq] at h
       exact h.2
      have hK:=HK3.out.below HF.out.2.2.1 HK3.out.lt;have hat:z8k wr g2 p.parts.length (cs.drop p.parts.length):=fun j hj=>by
       rw[List.length_drop] at hj;rw[List.getElem_drop];exact hK.strs _ (by omega)
      have hJ:=z8n (cs.drop p.parts.length) g2 p.parts.length (cs.length - p.parts.length) wr hat (by rw[List.length_drop];omega) (by rw[List.length_drop];omega) (by rw[List.length_drop];omega) (by have:=zbj cs p.parts.length;have:=HDP.out.2.2;have:=HSZ.out;omega)
      rw[List.length_drop] at hJ;have HJ:=hd_ hJ;have HCP:Hid (z8d p cs=z8b p.parts cs p.parts.length++[baL (Lib.join (cs.drop p.parts.length) [47])]):=hd_ (by unfold z8d;rw[HRS.out];rfl)
      generalize baL (Lib.join (cs.drop p.parts.length) [47])=x at HJ HCP;clear hJ hat hK;go_wp2_with fail;refine HJ.out.mono ?_;rintro e w6 ⟨rfl,hb6⟩;have HOW:=hd_ (z0n HF.out.2.2.2 hb6);have HBI:=hd_ (z0r HF.out.2.2.1 hb6);clear hb6;go_wp2_with (first
       | (at_builtin;refine z0k rfl rfl z87 (z0n HOW.out ((Below.refl _ _).alloc (Nat.le_refl _) _)) rfl (z0i _ [.string x] _ 1 1 rfl (by decide) _ (by simp)) rfl (HBI.out.alloc HBI.out.size _) (HBI.out.alloc HBI.out.size _).size (by simp [Value.oneCell']) (by omega) (by unfold maxLen;omega) ?_;intro A' c' w7 hown7 hbl7))
      have HO7:=hd_ hown7;have HB7:=hd_ hbl7;clear hown7 hbl7;go_wp2_with fail;go_ret2;refine⟨A',m+1,c',by rw[HF.out.2.1];rfl,z0r HB3.out HB7.out,fun l hl=>?_⟩
      rw[HF.out.2.1] at hl;injection hl with hl
      rw[HCP.out] at hl;subst hl;have hm:=HF.out.1;refine⟨by rw[List.length_append,List.length_singleton,hm],?_⟩
      have h7:=Row.of_own HO7.out;show Row w7 1 _ (z8b p.parts cs p.parts.length++[x]).length _
      rw[List.length_append,List.length_singleton,← hm,List.map_append];exact h7
open Go.Sort (grow)
def zik (x:Syn)(l:ByteArray):Bool:=
 z3q x.path && decide (x.frm=l) && !(decide (x.frm=z2l) && decide (x.dst=z2l)) && (if x.dst=z2l then decide (x.num=0) else decide (1≤x.num) && z3q x.dst) && (z3o x.kind || x.kind == z3p x.frm x.dst)
theorem zpt (s:ByteArray):(s.toList=[]∧(s.toList == (⟨#[]⟩:ByteArray).toList)=true)∨¬ s.toList=[]∧s.toList.isEmpty=false:=by
 by_cases h:s=z2l
 ·exact .inl (z3v h)
 ·exact .inr (z3w h)
theorem fits_1 (x:Syn)(l:ByteArray)(w:World)(hp:x.path.size≤140737488355328)(hd:x.dst.size≤140737488355328)(h1:z3q x.path=false):
  Calls Tryz.prog 44 #[.agg #[.int .i64 x.kind,.string x.path,.int .i64 x.num,.string x.frm,.string x.dst],.string l] w fun e w'=>e=.returned (.bool (zik x l))∧Below w.heap.size w w':=by
 have hA:Below w.heap.size w (w.alloc (.cells #[.int .i64 x.kind,.string x.path,.int .i64 x.num,.string x.frm,.string x.dst] 48)):=(Below.refl _ _).alloc (Nat.le_refl _) _;have HB:Hid (zik x l=false):=hd_ (by unfold zik;rw[h1];rfl)
 have HP:=hd_ (fun X=>z3z x.path X hp);rw[h1] at HP;clear h1;go_enter Tryz.func44,Tryz.ntmps44;go_wp2_with fail;refine (HP.out _).mono ?_;rintro e w1 ⟨rfl,rfl⟩;go_wp2_with fail;go_ret;exact⟨z0w HB.out.symm,hA⟩
theorem fits_2 (x:Syn)(l:ByteArray)(w:World)(hp:x.path.size≤140737488355328)(hd:x.dst.size≤140737488355328)(h1:z3q x.path=true)(h2:¬ x.frm=l):
  Calls Tryz.prog 44 #[.agg #[.int .i64 x.kind,.string x.path,.int .i64 x.num,.string x.frm,.string x.dst],.string l] w fun e w'=>e=.returned (.bool (zik x l))∧Below w.heap.size w w':=by
 have hA:Below w.heap.size w (w.alloc (.cells #[.int .i64 x.kind,.string x.path,.int .i64 x.num,.string x.frm,.string x.dst] 48)):=(Below.refl _ _).alloc (Nat.le_refl _) _;have HB:Hid (zik x l=false):=hd_ (by unfold zik;simp [h2])
 have HP:=hd_ (fun X=>z3z x.path X hp);rw[h1] at HP;have q:=z3x x.frm l;rw[decide_eq_false h2] at q;clear h1 h2;go_enter Tryz.func44,Tryz.ntmps44;go_wp2_with fail;refine (HP.out _).mono ?_;rintro e w1 ⟨rfl,rfl⟩;go_wp2_with fail;go_ret;exact⟨z0w HB.out.symm,hA⟩
theorem fits_3 (x:Syn)(l:ByteArray)(w:World)(hp:x.path.size≤140737488355328)(hd:x.dst.size≤140737488355328)(h1:z3q x.path=true)(h2:x.frm=l)(h3:x.frm=z2l)(h4:x.dst=z2l):
  Calls Tryz.prog 44 #[.agg #[.int .i64 x.kind,.string x.path,.int .i64 x.num,.string x.frm,.string x.dst],.string l] w fun e w'=>e=.returned (.bool (zik x l))∧Below w.heap.size w w':=by
 have hA:Below w.heap.size w (w.alloc (.cells #[.int .i64 x.kind,.string x.path,.int .i64 x.num,.string x.frm,.string x.dst] 48)):=(Below.refl _ _).alloc (Nat.le_refl _) _;have HB:Hid (zik x l=false):=hd_ (by unfold zik;simp [h3,h4])
 have HP:=hd_ (fun X=>z3z x.path X hp);rw[h1] at HP;have q:=z3x x.frm l;subst h2;clear q;obtain⟨s1,s2⟩:=z3v h3;obtain⟨t1,t2⟩:=z3v h4;clear h1 h3 h4;go_enter Tryz.func44,Tryz.ntmps44;go_wp2_with fail;refine (HP.out _).mono ?_;rintro e w1 ⟨rfl,rfl⟩;go_wp2_with fail;go_ret;exact⟨z0w HB.out.symm,hA⟩
theorem fits_4 (x:Syn)(l:ByteArray)(w:World)(hp:x.path.size≤140737488355328)(hd:x.dst.size≤140737488355328)(h1:z3q x.path=true)(h2:x.frm=l)(h3:¬ x.frm=z2l)(h4:x.dst=z2l)(h5:¬ x.num=0):
  Calls Tryz.prog 44 #[.agg #[.int .i64 x.kind,.string x.path,.int .i64 x.num,.string x.frm,.string x.dst],.string l] w fun e w'=>e=.returned (.bool (zik x l))∧Below w.heap.size w w':=by
 have hA:Below w.heap.size w (w.alloc (.cells #[.int .i64 x.kind,.string x.path,.int .i64 x.num,.string x.frm,.string x.dst] 48)):=(Below.refl _ _).alloc (Nat.le_refl _) _;have HB:Hid (zik x l=false):=hd_ (by unfold zik;simp [h4,h5])
 have HP:=hd_ (fun X=>z3z x.path X hp);rw[h1] at HP;have q:=z3x x.frm l;subst h2;clear q;obtain⟨s1,s2⟩:=z3w h3;obtain⟨t1,t2⟩:=z3v h4;have n1:(x.num != 0)=true:=bne_iff_ne.2 h5;clear h1 h3 h4 h5;go_enter Tryz.func44,Tryz.ntmps44;go_wp2_with fail;refine (HP.out _).mono ?_;rintro e w1 ⟨rfl,rfl⟩;go_wp2_with fail;go_ret;exact⟨z0w HB.out.symm,hA⟩
theorem fits_5 (x:Syn)(l:ByteArray)(w:World)(hp:x.path.size≤140737488355328)(hd:x.dst.size≤140737488355328)(h1:z3q x.path=true)(h2:x.frm=l)(h3:¬ x.frm=z2l)(h4:x.dst=z2l)(h5:x.num=0)(b:Bool)(h7:z3o x.kind=b):
  Calls Tryz.prog 44 #[.agg #[.int .i64 x.kind,.string x.path,.int .i64 x.num,.string x.frm,.string x.dst],.string l] w fun e w'=>e=.returned (.bool (zik x l))∧Below w.heap.size w w':=by
 have hA:Below w.heap.size w (w.alloc (.cells #[.int .i64 x.kind,.string x.path,.int .i64 x.num,.string x.frm,.string x.dst] 48)):=(Below.refl _ _).alloc (Nat.le_refl _) _;have HB:Hid (zik x l=(b || (x.kind == z3p x.frm x.dst))):=hd_ (by unfold zik;rw[h1,h7,decide_eq_true h2,decide_eq_false h3,if_pos h4,decide_eq_true h5];rfl)
 have HP:=hd_ (fun X=>z3z x.path X hp);rw[h1] at HP;have HS:=hd_ (fun X=>z3u x X);rw[h7] at HS;have HK:=hd_ (fun X=>z3y x X);have q:=z3x x.frm l;subst h2;clear q;obtain⟨s1,s2⟩:=z3w h3;cases b
 all_goals
  obtain⟨t1,t2⟩:=z3v h4;have n1:(x.num != 0)=false:=by rw[h5];rfl
  clear h1 h3 h4 h5 h7;go_enter Tryz.func44,Tryz.ntmps44;go_wp2_with fail;refine (HP.out _).mono ?_;rintro e w1 ⟨rfl,rfl⟩;go_wp2_with fail;have cS:∀ d os,Calls Tryz.prog 62 #[.agg #[.int .i64 x.kind,.string x.path,.int .i64 x.num,.string x.frm,.string x.dst]] (grow (redrawn (w.alloc (.cells #[.int .i64 x.kind,.string x.path,.int .i64 x.num,.string x.frm,.string x.dst] 48)) d) os) fun e w''=>e=.returned (.bool _)∧∃ p:Regrown,w''=grow (redrawn (w.alloc (.cells #[.int .i64 x.kind,.string x.path,.int .i64 x.num,.string x.frm,.string x.dst] 48)) p.d) p.os:=fun d os=>Calls.regrown_of (by have hh:=HS.out (grow (redrawn (w.alloc (.cells #[.int .i64 x.kind,.string x.path,.int .i64 x.num,.string x.frm,.string x.dst] 48)) d) os);exact hh)
  have cK:∀ d os,Calls Tryz.prog 37 #[.agg #[.int .i64 x.kind,.string x.path,.int .i64 x.num,.string x.frm,.string x.dst]] (grow (redrawn (w.alloc (.cells #[.int .i64 x.kind,.string x.path,.int .i64 x.num,.string x.frm,.string x.dst] 48)) d) os) fun e w''=>e=.returned (.int .i64 (z3p x.frm x.dst))∧∃ p:Regrown,w''=grow (redrawn (w.alloc (.cells #[.int .i64 x.kind,.string x.path,.int .i64 x.num,.string x.frm,.string x.dst] 48)) p.d) p.os:=fun d os=>Calls.regrown_of (by have hh:=HK.out (grow (redrawn (w.alloc (.cells #[.int .i64 x.kind,.string x.path,.int .i64 x.num,.string x.frm,.string x.dst] 48)) d) os);exact hh)
  have bx:=z3r (x:=x) (z0l w [.int .i64 x.kind,.string x.path,.int .i64 x.num,.string x.frm,.string x.dst] 48);obtain⟨c0,c1,c2,c3,c4⟩:=bx;have m0:=cell_regrown c0;have m1:=cell_regrown c1;have m2:=cell_regrown c2;have m3:=cell_regrown c3;have m4:=cell_regrown c4;clear c0 c1 c2 c3 c4;refine wp_region_quiet_below (by kernel_rfl) (by kernel_rfl) ?_
  repeat (first | go_big_quiet_step (first | exact cS _ _ | exact cK _ _) | quiet_step (first | exact cS _ _ | exact cK _ _))
  refine wpQuiet_nil ?_;intro _ hw9;obtain⟨⟨dq,osq⟩,hw9⟩:=hw9;subst hw9;have hA:=z0q hA hA.size (below_regrown _ dq osq);go_wp2_with fail;go_ret;exact⟨z0w HB.out.symm,hA⟩
theorem fits_7 (x:Syn)(l:ByteArray)(w:World)(hp:x.path.size≤140737488355328)(hd:x.dst.size≤140737488355328)(h1:z3q x.path=true)(h2:x.frm=l)(h4:¬ x.dst=z2l)(h5:¬ 1≤x.num):
  Calls Tryz.prog 44 #[.agg #[.int .i64 x.kind,.string x.path,.int .i64 x.num,.string x.frm,.string x.dst],.string l] w fun e w'=>e=.returned (.bool (zik x l))∧Below w.heap.size w w':=by
 have hA:Below w.heap.size w (w.alloc (.cells #[.int .i64 x.kind,.string x.path,.int .i64 x.num,.string x.frm,.string x.dst] 48)):=(Below.refl _ _).alloc (Nat.le_refl _) _;have HB:Hid (zik x l=false):=hd_ (by unfold zik;simp [h4,h5])
 have HP:=hd_ (fun X=>z3z x.path X hp);rw[h1] at HP;have q:=z3x x.frm l;subst h2;clear q;rcases zpt x.frm with⟨s1,s2⟩ | ⟨s1,s2⟩
 all_goals
  obtain⟨t1,t2⟩:=z3w h4;have n2:decide (x.num<1)=true:=by simp;omega
  clear h1 h4 h5;go_enter Tryz.func44,Tryz.ntmps44;go_wp2_with fail;refine (HP.out _).mono ?_;rintro e w1 ⟨rfl,rfl⟩;go_wp2_with fail;go_ret;exact⟨z0w HB.out.symm,hA⟩
theorem fits_8 (x:Syn)(l:ByteArray)(w:World)(hp:x.path.size≤140737488355328)(hd:x.dst.size≤140737488355328)(h1:z3q x.path=true)(h2:x.frm=l)(h4:¬ x.dst=z2l)(h5:1≤x.num)(h6:z3q x.dst=false):
  Calls Tryz.prog 44 #[.agg #[.int .i64 x.kind,.string x.path,.int .i64 x.num,.string x.frm,.string x.dst],.string l] w fun e w'=>e=.returned (.bool (zik x l))∧Below w.heap.size w w':=by
 have hA:Below w.heap.size w (w.alloc (.cells #[.int .i64 x.kind,.string x.path,.int .i64 x.num,.string x.frm,.string x.dst] 48)):=(Below.refl _ _).alloc (Nat.le_refl _) _;have HB:Hid (zik x l=false):=hd_ (by unfold zik;simp [h4,h6])
 have HP:=hd_ (fun X=>z3z x.path X hp);rw[h1] at HP;have HD:=hd_ (fun X=>z3z x.dst X hd);rw[h6] at HD;have q:=z3x x.frm l;subst h2;clear q;rcases zpt x.frm with⟨s1,s2⟩ | ⟨s1,s2⟩
 all_goals
  obtain⟨t1,t2⟩:=z3w h4;have n2:decide (x.num<1)=false:=by simp;omega
  clear h1 h4 h5 h6;go_enter Tryz.func44,Tryz.ntmps44;go_wp2_with fail;refine (HP.out _).mono ?_;rintro e w1 ⟨rfl,rfl⟩;go_wp2_with fail;refine (HD.out _).mono ?_;rintro e w1 ⟨rfl,rfl⟩;go_wp2_with fail;go_ret;exact⟨z0w HB.out.symm,hA⟩
theorem fits_9 (x:Syn)(l:ByteArray)(w:World)(hp:x.path.size≤140737488355328)(hd:x.dst.size≤140737488355328)(h1:z3q x.path=true)(h2:x.frm=l)(h4:¬ x.dst=z2l)(h5:1≤x.num)(h6:z3q x.dst=true)(b:Bool)(h7:z3o x.kind=b):
  Calls Tryz.prog 44 #[.agg #[.int .i64 x.kind,.string x.path,.int .i64 x.num,.string x.frm,.string x.dst],.string l] w fun e w'=>e=.returned (.bool (zik x l))∧Below w.heap.size w w':=by
 have hA:Below w.heap.size w (w.alloc (.cells #[.int .i64 x.kind,.string x.path,.int .i64 x.num,.string x.frm,.string x.dst] 48)):=(Below.refl _ _).alloc (Nat.le_refl _) _;have HB:Hid (zik x l=(b || (x.kind == z3p x.frm x.dst))):=hd_ (by unfold zik;rw[h1,h7,decide_eq_true h2,decide_eq_false h4,if_neg h4,decide_eq_true h5,h6,Bool.and_false];rfl)
 have HP:=hd_ (fun X=>z3z x.path X hp);rw[h1] at HP;have HD:=hd_ (fun X=>z3z x.dst X hd);rw[h6] at HD;have HS:=hd_ (fun X=>z3u x X);rw[h7] at HS;have HK:=hd_ (fun X=>z3y x X);have q:=z3x x.frm l;subst h2;clear q;rcases zpt x.frm with⟨s1,s2⟩ | ⟨s1,s2⟩
 all_goals
  cases b
  all_goals
   obtain⟨t1,t2⟩:=z3w h4;have n2:decide (x.num<1)=false:=by simp;omega
   clear h1 h4 h5 h6 h7;go_enter Tryz.func44,Tryz.ntmps44;go_wp2_with fail;refine (HP.out _).mono ?_;rintro e w1 ⟨rfl,rfl⟩;go_wp2_with fail;refine (HD.out _).mono ?_;rintro e w1 ⟨rfl,rfl⟩;go_wp2_with fail;have cS:∀ d os,Calls Tryz.prog 62 #[.agg #[.int .i64 x.kind,.string x.path,.int .i64 x.num,.string x.frm,.string x.dst]] (grow (redrawn (w.alloc (.cells #[.int .i64 x.kind,.string x.path,.int .i64 x.num,.string x.frm,.string x.dst] 48)) d) os) fun e w''=>e=.returned (.bool _)∧∃ p:Regrown,w''=grow (redrawn (w.alloc (.cells #[.int .i64 x.kind,.string x.path,.int .i64 x.num,.string x.frm,.string x.dst] 48)) p.d) p.os:=fun d os=>Calls.regrown_of (by have hh:=HS.out (grow (redrawn (w.alloc (.cells #[.int .i64 x.kind,.string x.path,.int .i64 x.num,.string x.frm,.string x.dst] 48)) d) os);exact hh)
   have cK:∀ d os,Calls Tryz.prog 37 #[.agg #[.int .i64 x.kind,.string x.path,.int .i64 x.num,.string x.frm,.string x.dst]] (grow (redrawn (w.alloc (.cells #[.int .i64 x.kind,.string x.path,.int .i64 x.num,.string x.frm,.string x.dst] 48)) d) os) fun e w''=>e=.returned (.int .i64 (z3p x.frm x.dst))∧∃ p:Regrown,w''=grow (redrawn (w.alloc (.cells #[.int .i64 x.kind,.string x.path,.int .i64 x.num,.string x.frm,.string x.dst] 48)) p.d) p.os:=fun d os=>Calls.regrown_of (by have hh:=HK.out (grow (redrawn (w.alloc (.cells #[.int .i64 x.kind,.string x.path,.int .i64 x.num,.string x.frm,.string x.dst] 48)) d) os);exact hh)
   have bx:=z3r (x:=x) (z0l w [.int .i64 x.kind,.string x.path,.int .i64 x.num,.string x.frm,.string x.dst] 48);obtain⟨c0,c1,c2,c3,c4⟩:=bx;have m0:=cell_regrown c0;have m1:=cell_regrown c1;have m2:=cell_regrown c2;have m3:=cell_regrown c3;have m4:=cell_regrown c4;clear c0 c1 c2 c3 c4;refine wp_region_quiet_below (by kernel_rfl) (by kernel_rfl) ?_
   repeat (first | go_big_quiet_step (first | exact cS _ _ | exact cK _ _) | quiet_step (first | exact cS _ _ | exact cK _ _))
   refine wpQuiet_nil ?_;intro _ hw9;obtain⟨⟨dq,osq⟩,hw9⟩:=hw9;subst hw9;have hA:=z0q hA hA.size (below_regrown _ dq osq);go_wp2_with fail;go_ret;exact⟨z0w HB.out.symm,hA⟩
theorem zin (x:Syn)(l:ByteArray)(w:World)(hp:x.path.size≤140737488355328)(hd:x.dst.size≤140737488355328):
  Calls Tryz.prog 44 #[.agg #[.int .i64 x.kind,.string x.path,.int .i64 x.num,.string x.frm,.string x.dst],.string l] w fun e w'=>e=.returned (.bool (zik x l))∧Below w.heap.size w w':=by
 cases h1:z3q x.path
 ·exact fits_1 x l w hp hd h1
 by_cases h2:x.frm=l
 rotate_left
 ·exact fits_2 x l w hp hd h1 h2
 by_cases h4:x.dst=z2l
 ·by_cases h3:x.frm=z2l
  ·exact fits_3 x l w hp hd h1 h2 h3 h4
  by_cases h5:x.num=0
  ·exact fits_5 x l w hp hd h1 h2 h3 h4 h5 _ rfl
  ·exact fits_4 x l w hp hd h1 h2 h3 h4 h5
 by_cases h5:1≤x.num
 ·cases h6:z3q x.dst
  ·exact fits_8 x l w hp hd h1 h2 h4 h5 h6
  ·exact fits_9 x l w hp hd h1 h2 h4 h5 h6 _ rfl
 ·exact fits_7 x l w hp hd h1 h2 h4 h5
def zk4 (hs:List Hav)(p:ByteArray):ByteArray:=((z6d hs p).map Hav.loc).getD z2l
section
variable {hs ws : List Hav} {op dt : List ByteArray}
theorem zk5 {l:List Hav}{p:ByteArray}{a:Hav}(h:z6d l p=some a):a∈l∧a.path=p:=z61 h
theorem getH_of {l:List Hav}(h:zf0 l){a:Hav}(ha:a∈l):z6d l a.path=some a:=z65 h.srt ha
theorem zk6 {b:ByteArray→Bool}{x:Syn}(h:z3o (zef b x).kind=false):b x.path=false∧z3o x.kind=false:=by
 rw[zej] at h;cases e:b x.path <;> cases e2:z3o x.kind <;> simp_all
theorem zk7 (h1:zf0 hs)(h2:zf0 ws){x:Syn}(hx:x∈zf9 hs ws op dt)(hd:z3o x.kind=false):
  ∃ y,z6i (z6d hs x.path) (z6d ws x.path)=some y∧y.path=x.path∧x=zf7 op dt y∧x∈zf8 hs ws op dt∧blB hs (zf8 hs ws op dt) x.path=false:=by
 obtain⟨y,e1,e2,e3⟩:=zfe h1 h2 hx;rw[e2] at hd;obtain⟨d1,d2⟩:=zk6 hd;have ek:(zf7 op dt y).path=x.path:=e3;rw[ek] at d1;have ex:x=zf7 op dt y:=by
  rw[e2];unfold zef
  rw[if_neg (by rw[ek,d1];decide)]
 refine⟨y,e1,e3,ex,?_,d1⟩;obtain⟨i1,i2⟩:=zfc (op:=op) (dt:=dt) h1 h2;have:=i2 x.path;rw[e1] at this;exact ex ▸ (z61 this).1
theorem zk8 (h1:zf0 hs)(h2:zf0 ws){a:Hav}(ha:a∈z4y hs (zf9 hs ws op dt)):
  (a∈hs∧(z6e (zf9 hs ws op dt) a.path=none∨∃ x,z6e (zf9 hs ws op dt) a.path=some x∧z3o x.kind=true)) ∨
  (a∈ws∧∃ x,x∈zf9 hs ws op dt∧z3o x.kind=false∧x.path=a.path∧x.dst=a.loc∧x.num=a.num):=by
 obtain⟨i1,i2⟩:=zfd (op:=op) (dt:=dt) h1 h2;have vp:∀ x∈zf9 hs ws op dt,z2s x.path=true:=fun x hx=>by
  obtain⟨y,e1,-,e3⟩:=zfe h1 h2 hx;rcases zfb e1 with⟨a,ea,-,-⟩ | ⟨b,-,eb,-⟩ | ⟨a,b,ea,-,-,-⟩
  ·obtain⟨m1,m2⟩:=zk5 ea;rw[← m2];exact h1.valid _ m1
  ·obtain⟨m1,m2⟩:=zk5 eb;rw[← m2];exact h2.valid _ m1
  ·obtain⟨m1,m2⟩:=zk5 ea;rw[← m2];exact h1.valid _ m1
 obtain⟨r1,-,r3⟩:=zez _ hs (zf9 hs ws op dt) (Nat.le_refl _) h1.srt i1 h1.valid vp;have hg:z6d (z4y hs (zf9 hs ws op dt)) a.path=some a:=z65 r1 ha;rw[r3] at hg;cases hs2:z6e (zf9 hs ws op dt) a.path with
 | none=>rw[hs2] at hg;exact .inl ⟨(zk5 hg).1,.inl rfl⟩
 | some x =>
  rw[hs2] at hg;cases hst:z3o x.kind with
  | true =>
   simp only[zeo,hst,if_true] at hg
   exact .inl ⟨(zk5 hg).1,.inr ⟨x,rfl,hst⟩⟩
  | false =>
   simp only[zeo,hst,Bool.false_eq_true,if_false] at hg
   obtain⟨hx,ep⟩:=z61 hs2;by_cases hd:x.dst=z2l
   ·rw[if_pos hd] at hg;cases hg
   ·rw[if_neg hd] at hg;have ea:=Option.some.inj hg;obtain⟨y,e1,e3,ex,-,-⟩:=zk7 h1 h2 hx hst;have hw:∃ b,z6d ws x.path=some b∧b.path=x.path∧b.num=x.num∧b.loc=x.dst:=by
     rcases zfb e1 with⟨c,-,-,rfl⟩ | ⟨b,-,eb,rfl⟩ | ⟨c,b,-,eb,-,rfl⟩
     ·exact absurd (by rw[ex];rfl) hd
     ·exact⟨b,eb,(zk5 eb).2,by rw[ex];rfl,by rw[ex];rfl⟩
     ·exact⟨b,eb,(zk5 eb).2,by rw[ex];rfl,by rw[ex];rfl⟩
    obtain⟨b,eb,b1,b2,b3⟩:=hw;have hab:a=b:=by
     rw[← ea];cases b
     simp only at b1 b2 b3
     rw[b1,b2,b3]
    refine .inr ⟨hab ▸ (zk5 eb).1,x,hx,hst,by rw[hab,b1],by rw[hab,b3],by rw[hab,b2]⟩
theorem res_srt (h1:zf0 hs)(h2:zf0 ws):z6b (z4y hs (zf9 hs ws op dt))∧(∀ p,z6d (z4y hs (zf9 hs ws op dt)) p=zeo (z6d hs p) (z6e (zf9 hs ws op dt) p)):=by
 obtain⟨i1,i2⟩:=zfd (op:=op) (dt:=dt) h1 h2;have vp:∀ x∈zf9 hs ws op dt,z2s x.path=true:=fun x hx=>by
  obtain⟨y,e1,-,e3⟩:=zfe h1 h2 hx;rcases zfb e1 with⟨a,ea,-,-⟩ | ⟨b,-,eb,-⟩ | ⟨a,b,ea,-,-,-⟩
  ·obtain⟨m1,m2⟩:=zk5 ea;rw[← m2];exact h1.valid _ m1
  ·obtain⟨m1,m2⟩:=zk5 eb;rw[← m2];exact h2.valid _ m1
  ·obtain⟨m1,m2⟩:=zk5 ea;rw[← m2];exact h1.valid _ m1
 obtain⟨r1,-,r3⟩:=zez _ hs (zf9 hs ws op dt) (Nat.le_refl _) h1.srt i1 h1.valid vp;exact⟨r1,r3⟩
theorem zk9 (h1:zf0 hs)(h2:zf0 ws){x:Syn}(hx:x∈zf9 hs ws op dt)(hd:z3o x.kind=false)(hne:x.dst≠z2l){h:Hav}(hh:h∈hs)(hl:h.loc=x.dst)
  (hst:z6e (zf9 hs ws op dt) h.path=none∨∃ y,z6e (zf9 hs ws op dt) h.path=some y∧z3o y.kind=true):h.path=x.path:=by
 refine Classical.byContradiction fun hp=>?_;obtain⟨y,e1,e3,ex,m0,b0⟩:=zk7 h1 h2 hx hd;have hS:zem (zf8 hs ws op dt) (blB hs (zf8 hs ws op dt)) h.path:=by
  have e:z6e (zf9 hs ws op dt) h.path=(z6e (zf8 hs ws op dt) h.path).map (zef (blB hs (zf8 hs ws op dt))):=zek _ _ _;rcases hst with hn | ⟨z,hz,hzs⟩
  ·rw[e,Option.map_eq_none_iff] at hn;exact .inl hn
  ·rw[e,Option.map_eq_some_iff] at hz;obtain⟨u,hu,rfl⟩:=hz;rw[zej,Bool.or_eq_true] at hzs;have hup:=(z61 hu).2;rw[hup] at hzs;exact .inr ⟨u,hu,hzs.symm⟩
 have:=zen (fun p hp=>zee.1 hp) m0 hd hne hh hl hp hS;rw[zee.2 this] at b0;cases b0
theorem res_ok (h1:zf0 hs)(h2:zf0 ws):zf0 (z4y hs (zf9 hs ws op dt)):=by
 refine⟨(res_srt h1 h2).1,fun a ha=>?_,fun a ha b hb e=>?_⟩
 ·rcases zk8 h1 h2 ha with⟨m,-⟩ | ⟨m,-⟩
  ·exact h1.ok a m
  ·exact h2.ok a m
 ·rcases zk8 h1 h2 ha with⟨m1,s1⟩ | ⟨m1,x,hx,sx,px,dx,-⟩
  ·rcases zk8 h1 h2 hb with⟨m2,s2⟩ | ⟨m2,y,hy,sy,py,dy,-⟩
   ·exact h1.loc a m1 b m2 e
   ·rw[← py];exact zk9 h1 h2 hy sy (by rw[dy];exact h2.locNe m2) m1 (by rw[dy,e]) s1
  ·rcases zk8 h1 h2 hb with⟨m2,s2⟩ | ⟨m2,-⟩
   ·rw[← px];exact (zk9 h1 h2 hx sx (by rw[dx];exact h2.locNe m1) m2 (by rw[dx,e]) s2).symm
   ·exact h2.loc a m1 b m2 e
theorem zka (h1:zf0 hs)(h2:zf0 ws){x:Syn}(hx:x∈zf9 hs ws op dt):zik x (zk4 hs x.path)=true:=by
 obtain⟨y,e1,e2,e3⟩:=zfe h1 h2 hx;have hr:=zei (blB hs (zf8 hs ws op dt)) (zf7 op dt y);rw[← e2] at hr;obtain⟨r1,r2,r3⟩:=hr;have hk:z3o x.kind=true∨x.kind=z3p x.frm x.dst:=by
  cases hst:z3o x.kind with
  | true=>exact .inl rfl
  | false =>
   right
   obtain⟨z,z1,-,zx,-,-⟩:=zk7 h1 h2 hx hst;rw[zx] at hst ⊢;show zf6 op dt z=z3p z.frm z.dst
   have hst':z3o (zf6 op dt z)=false:=hst;unfold zf6 at hst' ⊢
   split at hst'
   ·exact absurd hst' (by decide)
   ·rename_i c1
    rw[if_neg c1];split at hst'
    ·exact absurd hst' (by decide)
    ·rename_i c2
     rw[if_neg c2]
 have f1:x.num=y.num:=r1;have f2:x.frm=y.frm:=r2;have f3:x.dst=y.dst:=r3;have key:z3q x.path=true∧x.frm=zk4 hs x.path∧¬(x.frm=z2l∧x.dst=z2l)∧(x.dst=z2l→x.num=0)∧(x.dst≠z2l→1≤x.num∧z3q x.dst=true):=by
  unfold zk4;rcases zfb e1 with⟨a,ea,ew,rfl⟩ | ⟨b,eh,eb,rfl⟩ | ⟨a,b,ea,eb,-,rfl⟩
  ·obtain⟨m,mp⟩:=zk5 ea;have g1:x.frm=a.loc:=f2;have g2:x.dst=z2l:=f3;have g3:x.num=0:=f1;rw[g1,g2,g3,ea];exact⟨mp ▸ (zf1 (h1.ok a m)).1,rfl,fun h=>h1.locNe m h.1,fun _=>rfl,fun h=>absurd rfl h⟩
  ·obtain⟨m,mp⟩:=zk5 eb;have g1:x.frm=z2l:=f2;have g2:x.dst=b.loc:=f3;have g3:x.num=b.num:=f1;rw[g1,g2,g3,eh];exact⟨mp ▸ (zf1 (h2.ok b m)).1,rfl,fun h=>h2.locNe m h.2,fun h=>absurd h (h2.locNe m),fun _=>⟨(zf1 (h2.ok b m)).2.2,(zf1 (h2.ok b m)).2.1⟩⟩
  ·obtain⟨m,mp⟩:=zk5 ea;obtain⟨m2,-⟩:=zk5 eb;have g1:x.frm=a.loc:=f2;have g2:x.dst=b.loc:=f3;have g3:x.num=b.num:=f1;rw[g1,g2,g3,ea];exact⟨mp ▸ (zf1 (h1.ok a m)).1,rfl,fun h=>h1.locNe m h.1,fun h=>absurd h (h2.locNe m2),fun _=>⟨(zf1 (h2.ok b m2)).2.2,(zf1 (h2.ok b m2)).2.1⟩⟩
 obtain⟨k1,k2,k3,k4,k5⟩:=key;unfold zik;rw[k1,← k2];simp only[Bool.true_and,decide_true,Bool.and_eq_true,Bool.or_eq_true,Bool.not_eq_true',Bool.and_eq_false_iff,decide_eq_false_iff_not,beq_iff_eq]
 refine⟨⟨?_,?_⟩,hk⟩
 ·by_cases c:x.frm=z2l
  ·exact .inr fun c2=>k3 ⟨c,c2⟩
  ·exact .inl c
 ·by_cases c:x.dst=z2l
  ·rw[if_pos c];simpa using k4 c
  ·rw[if_neg c];obtain⟨q1,q2⟩:=k5 c;rw[q2];simpa using q1
end
end Go.Proofs.YtegeboijhifmcaaGreatDoor
