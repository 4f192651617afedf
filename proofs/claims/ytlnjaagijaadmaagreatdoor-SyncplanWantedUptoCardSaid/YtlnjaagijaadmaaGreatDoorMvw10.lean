/- A part. -/
import Derived.Test.YtlnjaagijaadmaaGreatDoorMvw9
set_option linter.unusedVariables false
set_option linter.unusedSimpArgs false
set_option maxHeartbeats 8000000
set_option maxRecDepth 100000
namespace Go.Proofs.YtlnjaagijaadmaaGreatDoor
open Go.RowKit
theorem zao {p:Pat}{s:zA}(h:z2w s.data.toList 2=none):zaj p s=none:=by unfold zaj;rw[h]
theorem zap {p:Pat}{s:zA}{cs:List (List UInt8)}(h:z2w s.data.toList 2=some cs)(hn:¬(z8w p=0/\zah p cs=true/\zaf p.kp cs p.kp.length=true)):zaj p s=none:=by unfold zaj;rw[h];exact if_neg hn
theorem zaq {p:Pat}{s:zA}{cs:List (List UInt8)}(h:z2w s.data.toList 2=some cs)(h1:z8w p=0)(h2:zah p cs=true)(h3:zaf p.kp cs p.kp.length=true):zaj p s=some (zai p cs):=by unfold zaj;rw[h];exact if_pos ⟨h1,h2,h3⟩
theorem zar {w w':zW}{p:Pat}{s:zA}(h:zaj p s=none)(hb:zB w w'):zam w p s (.returned (.tuple #[zL none 0 0,.bool false])) w':=
 ⟨none,0,0,by rw[h];rfl,hb,fun l hl=>by rw[h] at hl;cases hl⟩
theorem zas {l:List zA}{k:Nat}(h:k<l.length):zad l k=l[k]:=by unfold zad;rw[Ze h];rfl
theorem zat {cs:List (List UInt8)}{k:Nat}(h:k<cs.length):zae cs k=baL cs[k]:=by unfold zae;rw[Ze h];rfl
theorem zau {s:zA}{cs:List (List UInt8)}(h:z2w s.data.toList 2=some cs):(∀ p∈cs,p.length<=s.size)/\cs.length<=s.size+1/\(Lib.join cs [47]).length<=s.size:=by
 unfold z2w at h;split at h
 ·injection h with h
  subst h;have hl:(s.data.toList.drop 2).length<=s.size:=by rw[Zu];have:s.data.toList.length=s.size:=rfl;omega
  refine⟨fun p hp=>by have:=(z1i hp).2;omega,by have:=z1k (s.data.toList.drop 2);omega,by rw[z1m];exact hl⟩
 ·cases h
theorem zav:∀(cs:List (List UInt8)) (n:Nat),(Lib.join (cs.drop n) [47]).length<=(Lib.join cs [47]).length
 | [],n=>by rw[List.drop_nil];exact Zd _
 | c :: cs,0=>Zd _
 | c :: cs,n+1=>by
  rw[List.drop_succ_cons];refine Zf (zav cs n) ?_;by_cases h:cs=[]
  ·subst h;rw[Lib.join_nil];exact Zg _
  ·rw[z1l c cs h,Zc,Zc];omega
theorem zaw (p:Pat)(s:zA)(A:zP)(c:Nat)(w:zW)(he:Env w)(hs:s.size<=1000000)(hS:z20 w (zL A p.kp.length c) p.kp)(hz:∀ x∈p.kp,x.size<=maxLen):
  Calls Tryz.prog 58 #[.agg #[zL A p.kp.length c,.bool p.kr],zS s] w (zam w p s):=by
 obtain⟨A',c',e',hcc,hmm,-⟩:=id hS;injection e' with e1 e2 e3
 subst e1 e3;unfold maxLen at hmm;have HS:=hd_ hS;have HZ:=hd_ hz;have HND:=hd_ (@zao p s);have HNO:=hd_ (fun cs=>@zap p s cs);have HYE:=hd_ (fun cs=>@zaq p s cs);have HPN:=hd_ (fun X (h:zaj p s=none) (hb:zB w X)=>zar h hb);have hB:=z0l w [zL A p.kp.length c,.bool p.kr] 56;have hA:zB w (w.alloc (zC #[zL A p.kp.length c,.bool p.kr] 56)):=zR;have HSP:=hd_ (fun X (hX:zB w X)=>zan s X (he.kw hX) (by omega))
 have HCK:=hd_ (fun X (hX:zB w X)=>z99 p A c X (hS.kw hX) hz);have HSZ:=hd_ hs;clear hS hz he e2 hs;go_enter Tryz.func58,Tryz.ntmps58;go_upto_region 1 with fail;generalize w.alloc (zC #[zL A p.kp.length c,.bool p.kr] 56)=W1 at hB hA |-;have HB:=hd_ hB;have HA:=hd_ hA;clear hB hA;go_wp2_with fail;refine (HSP W1 HA).mono ?_;rintro e w2 (⟨hd,rfl,hb2⟩ | ⟨cs,hd,rfl,hw2⟩)
 ·have HB2:=hd_ (z0r HA hb2);have HR:=hd_ (HND hd);clear hd hb2;go_wp2_with fail;go_ret2;exact HPN _ HR HB2
 have hK2:=z0l W1 (z9a cs) 9;have hb2:zB W1 (W1.alloc (.cells (z9a cs).toArray 9)):=zR;rw[hw2] at hK2 hb2;have HD:=hd_ hd;have HDP:=hd_ (zau hd);have HK2:=hd_ hK2;have HB2:=hd_ (z0r HA hb2);have d0:w2.cell? ⟨w.heap.size,0,none⟩=some (.slice A p.kp.length c):=(HB.kw hb2 HB.lt).cell 0;have d1:w2.cell? ⟨w.heap.size,1,none⟩=some (.bool p.kr):=(HB.kw hb2 HB.lt).cell 1;have HBW:=hd_ (HB.kw hb2 HB.lt);clear hd hw2 hK2 hb2 HSP HND;have hcl:cs.length<=1000001:=by have:=HDP.out.2.1;have:=HSZ.out;omega
 generalize hg2:W1.heap.size=g2 at HK2 |-;clear hg2;have HC2:=hd_ (HCK w2 HB2);generalize hpe:z8w p=pe at HC2;have HPE:=hd_ hpe;clear hpe HCK;by_cases h0:pe=0
 case neg =>
  have q:(pe != 0)=true:=by simpa using h0
  have HR:=hd_ (HNO _ HD (fun h=>h0 (HPE ▸ h.1)));clear h0;go_wp2_with fail;refine HC2.mono ?_;rintro e w3 ⟨rfl,hb3⟩;have HB3:=hd_ (z0r HB2 hb3);clear hb3 d0 d1;go_wp2_with fail;go_ret2;exact HPN _ HR HB3
 have q:(pe != 0)=false:=by simpa using h0
 have HP0:Hid (z8w p=0):=hd_ (HPE.trans h0);clear h0;go_wp2_with fail;refine HC2.mono ?_;rintro e w3 ⟨rfl,hb3⟩;have HB3:=hd_ (z0r HB2 hb3);have HK3:=hd_ (HK2.kw hb3 HK2.lt);have HBW3:=hd_ (HBW.kw hb3 HBW.lt);clear hb3 d0 d1 HC2 HK2 HBW;have d0:w3.cell? ⟨w.heap.size,0,none⟩=some (.slice A p.kp.length c):=HBW3.cell 0;have d1:w3.cell? ⟨w.heap.size,1,none⟩=some (.bool p.kr):=HBW3.cell 1;obtain⟨b,hb⟩:∃ b,zah p cs=b:=⟨_,rfl⟩;have HFB:=hd_ hb;have HFD:Hid (b=(decide (p.kp.length<=cs.length) && (decide (p.kp.length<cs.length) == p.kr))):=hd_ (by rw[<- hb];rfl)
 clear hb;go_upto_region 5 with fail;go_cut [41] (fun v wx=>v=.bool (!b)/\wx=w3)
 case first =>
  by_cases h1:cs.length<p.kp.length
  ·have hbf:b=false:=by rw[HFD.out,decide_eq_false (by omega)];rfl
   have q1:decide ((cs.length:Int)<(p.kp.length:Int))=true:=by simp;omega
   have q1':decide (cs.length<p.kp.length)=true:=by simp;omega
   subst hbf;clear h1 HFD;go_wp2_with fail;go_meet
   exact⟨by first | rfl | (rw[q1'];rfl),rfl⟩
  ·have q1:decide ((cs.length:Int)<(p.kp.length:Int))=false:=by simp;omega
   have q1':decide (cs.length<p.kp.length)=false:=by simp;omega
   by_cases h2:p.kp.length<cs.length
   ·have q2:decide ((p.kp.length:Int)<(cs.length:Int))=true:=by simp;omega
    have q2':decide (p.kp.length<cs.length)=true:=by simp;omega
    have HBB:Hid ((!b)=(!(true == p.kr))):=hd_ (by rw[HFD.out,decide_eq_true (show p.kp.length<=cs.length by omega),decide_eq_true h2];cases p.kr <;> rfl)
    clear h1 h2 HFD;go_wp2_with fail;go_meet
    exact⟨by rw[HBB.out];first | rfl | (rw[q1',q2'];rfl) | simp [q1',q2'],rfl⟩
   ·have q2:decide ((p.kp.length:Int)<(cs.length:Int))=false:=by simp;omega
    have q2':decide (p.kp.length<cs.length)=false:=by simp;omega
    have HBB:Hid ((!b)=(!(false == p.kr))):=hd_ (by rw[HFD.out,decide_eq_true (show p.kp.length<=cs.length by omega),decide_eq_false h2];cases p.kr <;> rfl)
    clear h1 h2 HFD;go_wp2_with fail;go_meet
    exact⟨by rw[HBB.out];first | rfl | (rw[q1',q2'];rfl) | simp [q1',q2'],rfl⟩
 case rest =>
  obtain⟨rfl,rfl⟩:=hcut;cases b with
  | false =>
   have HR:=hd_ (HNO _ HD (fun h=>by have:=h.2.1;rw[HFB.out] at this;cases this))
   go_wp2_with fail;go_ret2;exact HPN _ HR HB3
  | true =>
   rw[show (!true)=false from rfl];have hle:p.kp.length<=cs.length:=by
    have:=HFD.out;simp only[Bool.true_eq,Zw,decide_eq_true_eq] at this
    exact this.1
   clear HFD;have HNZ:=hd_ (fun k (hk:k<p.kp.length) (h:za7 (zad p.kp k) (zae cs k)=false)=>HNO _ HD (fun hh=>by have:=hh.2.2;rw[zal hk h] at this;cases this))
   have HYY:=hd_ (fun(h:zaf p.kp cs p.kp.length=true)=>HYE _ HD HP0 HFB h);have HCL:=hd_ hcl;have HLE:=hd_ hle;go_wp2_with fail;clear d0 d1;go_loopw [9,45] (fun u s wr=>∃(k m:Nat) (A2:zP) (c2:Nat),s=zI k/\u=zL A2 m c2/\k<=p.kp.length/\m<=k/\Hid (m=(zag p.kp cs k).length/\zaf p.kp cs k=true/\zB wc wr/\wr.ownsRow wc.heap.size 9 1 (zL A2 m c2) m ((zag p.kp cs k).map .string))) (fun _ s _=>p.kp.length - (intOf s).toNat)
   exact⟨0,0,none,0,rfl,rfl,Zg _,Zd _,rfl,rfl,Zb _ _,Zv _ _ _ _⟩
   obtain⟨k,m,A2,c2,rfl,rfl,hk,hmk,HI⟩:=hrel;by_cases hlt:k<p.kp.length
   ·have hkc:k<cs.length:=by omega
    have hz1:(k:Int)<(cs.length:Int):=by omega
    have hbw:=z0r HB3.out HI.out.2.2.1;obtain⟨ad,rfl,hab,x0⟩:=z20.at_ (HS.out.kw hbw) hlt;have x1:=(HK3.out.kw HI.out.2.2.1 HK3.out.lt).strs k hkc;have HX:=hd_ (zas hlt);have HY:=hd_ (zat hkc);have hps:(p.kp[k]).size<=9223372036854775807:=by have:=HZ.out _ (Za hlt);unfold maxLen at this;omega
    have hcz:(baL cs[k]).size<=9223372036854775807:=by rw[z9c];have:=HDP.out.1 _ (Za hkc);have:=HSZ.out;omega
    generalize p.kp[k]=part at x0 HX hps;generalize baL cs[k]=comp at x1 HY hcz;have HM:=hd_ (fun X=>zab part comp X hps hcz);have HT:=hd_ (fun X=>z92 part X);have HNK:Hid (za7 part comp=false->zaj p s=none):=hd_ (fun h=>HNZ k hlt (by rw[HX.out,HY.out];exact h))
    have HZB:Hid (za7 part comp=true->zaf p.kp cs (k+1)=true):=hd_ (fun h=>by rw[zak,HI.out.2.1,HX.out,HY.out,h];rfl)
    have HZC:Hid (zag p.kp cs (k+1)=zag p.kp cs k++(if z8r part then [za6 part comp] else [])):=hd_ (by rw[<- HX.out,<- HY.out];rfl)
    generalize za6 part comp=x at HM HZC;generalize za7 part comp=b at HM HNK HZB;generalize z8r part=st at HT HZC;clear hbw hps hcz hab;cases b with
    | false =>
     have HR:=hd_ (HNK rfl);have HBI:=hd_ (z0r HB3 HI.2.2.1);go_wp2_with (first
      | (go_at_call 109;refine (HM _).mono ?_;rintro e w' ⟨rfl,rfl⟩))
     go_ret2;exact HPN _ HR HBI
    | true =>
     have HB:=hd_ (HZB rfl);cases st with
     | false =>
      have HN:Hid (m=(zag p.kp cs (k+1)).length/\zaf p.kp cs (k+1)=true/\zB wc wr/\wr.ownsRow wc.heap.size 9 1 (zL A2 m c2) m ((zag p.kp cs (k+1)).map .string)):=hd_ (by
       have e:zag p.kp cs (k+1)=zag p.kp cs k:=by rw[HZC.out];simp
       rw[e];exact⟨HI.1,HB,HI.2.2.1,HI.2.2.2⟩)
      go_wp2_with (first
       | (go_at_call 109;refine (HM _).mono ?_;rintro e w' ⟨rfl,rfl⟩)
       | (go_at_call 110;refine (HT _).mono ?_;rintro e w' ⟨rfl,rfl⟩))
      go_roundw
      exact⟨k+1,m,A2,c2,by go_num,rfl,by omega,by omega,HN⟩
      simp [intOf];omega
     | true =>
      have HOW:=hd_ HI.2.2.2;have HBI:=hd_ HI.2.2.1;go_wp2_with (first
       | (go_at_call 109;refine (HM _).mono ?_;rintro e w' ⟨rfl,rfl⟩)
       | (go_at_call 110;refine (HT _).mono ?_;rintro e w' ⟨rfl,rfl⟩)
       | (at_builtin;refine z0k rfl rfl zac (z0n HOW (zR)) rfl (z0i _ [zS x] _ 1 1 rfl (by decide) _ (by simp)) rfl (HBI.alloc HBI.size _) (HBI.alloc HBI.size _).size (by simp [Value.oneCell']) (by omega) (by unfold maxLen;omega) ?_;intro A' c' w5 hown5 hbl5))
      have HN:Hid (m+1=(zag p.kp cs (k+1)).length/\zaf p.kp cs (k+1)=true/\zB wc w5/\w5.ownsRow wc.heap.size 9 1 (zL A' (m+1) c') (m+1) ((zag p.kp cs (k+1)).map .string)):=hd_ (by
       have e:zag p.kp cs (k+1)=zag p.kp cs k++[x]:=by rw[HZC.out];rfl
       rw[e];refine⟨by rw[Zc,ZL,HI.out.1],HB,hbl5,?_⟩
       rw[Zs];exact hown5)
      clear hown5 hbl5;go_wp2_with fail;go_roundw
      exact⟨k+1,m+1,A',c',by go_num,rfl,by omega,by omega,HN⟩
      simp [intOf];omega
   ·have hke:k=p.kp.length:=by omega
    have HF:Hid (m=(zag p.kp cs p.kp.length).length/\zaj p s=some (zai p cs)/\zB wc wr/\wr.ownsRow wc.heap.size 9 1 (zL A2 m c2) m ((zag p.kp cs p.kp.length).map .string)):=hd_ (by
     have h:=HI.out;rw[hke] at h;exact⟨h.1,HYY h.2.1,h.2.2.1,h.2.2.2⟩)
    have d1:wr.cell? ⟨w.heap.size,1,none⟩=some (.bool p.kr):=(HBW3.kw HI.2.2.1 HBW3.lt).cell 1;have hge:¬((k:Int)<(p.kp.length:Int)):=by omega
    clear HI hke;cases hr:p.kr with
    | false =>
     rw[hr] at d1;have HRS:=hd_ hr;clear hr;go_wp2_with fail;go_ret2;refine⟨A2,m,c2,by rw[HF.out.2.1];rfl,z0r HB3 HF.2.2.1,fun l hl=>?_⟩
     rw[HF.out.2.1] at hl;injection hl with hl
     have e:zai p cs=zag p.kp cs p.kp.length:=by unfold zai;rw[HRS.out];simp
     rw[e] at hl;subst hl;refine⟨HF.1,?_⟩;have:=Row.of_own HF.out.2.2.2;rw[HF.out.1] at this |-;exact this
    | true =>
     rw[hr] at d1;have HRS:=hd_ hr;clear hr;have hnc:p.kp.length<cs.length:=by
      have h:=HFB.out;unfold zah at h;rw[HRS.out] at h;simp only[Zw,beq_iff_eq,decide_eq_true_eq] at h
      exact h.2
     have hK:=HK3.out.kw HF.out.2.2.1 HK3.out.lt;have hat:z9l wr g2 p.kp.length (cs.drop p.kp.length):=fun j hj=>by
      rw[Zu] at hj;rw[List.getElem_drop];exact hK.strs _ (by omega)
     have hJ:=z9o (cs.drop p.kp.length) g2 p.kp.length (cs.length - p.kp.length) wr hat (by rw[Zu];omega) (by rw[Zu];omega) (by rw[Zu];omega) (by have:=zav cs p.kp.length;have:=HDP.out.2.2;have:=HSZ.out;omega)
     rw[Zu] at hJ;have HJ:=hd_ hJ;have HCP:Hid (zai p cs=zag p.kp cs p.kp.length++[baL (Lib.join (cs.drop p.kp.length) [47])]):=hd_ (by unfold zai;rw[HRS.out];rfl)
     generalize baL (Lib.join (cs.drop p.kp.length) [47])=x at HJ HCP;clear hJ hat hK;go_wp2_with fail;refine HJ.mono ?_;rintro e w6 ⟨rfl,hb6⟩;have HOW:=hd_ (z0n HF.2.2.2 hb6);have HBI:=hd_ (z0r HF.2.2.1 hb6);clear hb6;go_wp2_with (first
      | (at_builtin;refine z0k rfl rfl zac (z0n HOW (zR)) rfl (z0i _ [zS x] _ 1 1 rfl (by decide) _ (by simp)) rfl (HBI.alloc HBI.size _) (HBI.alloc HBI.size _).size (by simp [Value.oneCell']) (by omega) (by unfold maxLen;omega) ?_;intro A' c' w7 hown7 hbl7))
     have HO7:=hd_ hown7;have HB7:=hd_ hbl7;clear hown7 hbl7;go_wp2_with fail;go_ret2;refine⟨A',m+1,c',by rw[HF.out.2.1];rfl,z0r HB3 HB7,fun l hl=>?_⟩
     rw[HF.out.2.1] at hl;injection hl with hl
     rw[HCP.out] at hl;subst hl;have hm:=HF.out.1;refine⟨by rw[Zc,ZL,hm],?_⟩
     have h7:=Row.of_own HO7.out;show Row w7 1 _ (zag p.kp cs p.kp.length++[x]).length _
     rw[Zc,ZL,<- hm,Zs];exact h7
def zhk (p:Pat)(n:Nat):Bool:=if p.kr then decide (p.kp.length<n) else decide (n=p.kp.length)
structure Wi (p q:Pat):Prop where
 le:q.kp.length<=p.kp.length
 reach:∀ n,zhk p n=true->zhk q n=true
 all:∀(k:Nat) (h:k<q.kp.length),zbl (p.kp[k]'(Zq h le)) q.kp[k]=true
theorem zhl {p:Pat}(h:p.kr=true)(n:Nat):zhk p n=decide (p.kp.length<n):=by unfold zhk;rw[h];rfl
theorem zhm {p:Pat}(h:p.kr=false)(n:Nat):zhk p n=decide (n=p.kp.length):=by unfold zhk;rw[h];rfl
theorem zhn (p:Pat):Wi p p:=⟨Zd _,fun _ h=>h,fun k _=>zha _⟩
theorem zho {p q r:Pat}(h1:Wi p q)(h2:Wi q r):Wi p r:=
 ⟨Zf h2.le h1.le,fun n h=>h2.reach n (h1.reach n h),fun k h=>zhe (h1.all k (Zq h h2.le)) (h2.all k h)⟩
theorem zhp {p q:Pat}(h:Wi p q):(q.kr=true/\(p.kr=true\/q.kp.length<p.kp.length))\/(q.kr=false/\p.kr=false/\p.kp.length=q.kp.length):=by
 cases hq:q.kr with
 | true =>
  refine .inl ⟨rfl,?_⟩;cases hp:p.kr with
  | true=>exact .inl rfl
  | false =>
   have:=h.reach p.kp.length (by rw[zhm hp];exact decide_eq_true rfl)
   rw[zhl hq] at this;exact .inr (of_decide_eq_true this)
 | false =>
  refine .inr ⟨rfl,?_⟩;cases hp:p.kr with
  | true =>
   have h1:=h.reach (p.kp.length+1) (by rw[zhl hp];exact decide_eq_true (by omega))
   have h2:=h.reach (p.kp.length+2) (by rw[zhl hp];exact decide_eq_true (by omega))
   rw[zhm hq] at h1 h2;have h1:=of_decide_eq_true h1;have h2:=of_decide_eq_true h2;omega
  | false =>
   have:=h.reach p.kp.length (by rw[zhm hp];exact decide_eq_true rfl)
   rw[zhm hq] at this;exact⟨rfl,of_decide_eq_true this⟩
theorem zhq {p q:Pat}(le:q.kp.length<=p.kp.length)(hr:(q.kr=true/\(p.kr=true\/q.kp.length<p.kp.length))\/(q.kr=false/\p.kr=false/\p.kp.length=q.kp.length))(all:∀(k:Nat) (h:k<q.kp.length),zbl (p.kp[k]'(Zq h le)) q.kp[k]=true):Wi p q:=by
 refine⟨le,fun n h=>?_,all⟩;rcases hr with⟨hq,hp⟩ | ⟨hq,hp,hl⟩
 ·rw[zhl hq];refine decide_eq_true ?_;cases hpr:p.kr with
  | true =>
   rw[zhl hpr] at h;have:=of_decide_eq_true h;omega
  | false =>
   rw[zhm hpr] at h;have:=of_decide_eq_true h;rcases hp with hp | hp
   ·rw[hpr] at hp;cases hp
   ·omega
 ·rw[zhm hp] at h;rw[zhm hq];have:=of_decide_eq_true h;exact decide_eq_true (by omega)
theorem zhr {p q:Pat}(h1:p.kp=q.kp)(h2:p.kr=q.kr):p=q:=by cases p;cases q;simp_all
theorem wi_anti {p q:Pat}(h1:Wi p q)(h2:Wi q p):p=q:=by
 have hl:p.kp.length=q.kp.length:=Nat.le_antisymm h2.le h1.le;refine zhr (List.ext_getElem hl fun k hk hk2=>zhf (h1.all k hk2) (h2.all k hk)) ?_;rcases zhp h1 with⟨a,b⟩ | ⟨a,b,-⟩
 ·rcases b with b | b
  ·rw[a,b]
  ·omega
 ·rw[a,b]
theorem zhs:∀ {xs ys l:List zA},zc3 xs ys=some l->l.length=xs.length/\ys.length<=xs.length
 | xs,[],l,h=>by
  unfold zc3 at h;cases h
  exact⟨rfl,Zg _⟩
 | [],_ :: _,l,h=>by unfold zc3 at h;cases h
 | x :: xs,y :: ys,l,h=>by
  unfold zc3 at h;cases e:zbm x y with
  | none=>rw[e] at h;cases h
  | some z =>
   rw[e] at h;cases e2:zc3 xs ys with
   | none=>rw[e2] at h;cases h
   | some r =>
    rw[e2] at h;cases h
    obtain⟨a,b⟩:=zhs e2;exact⟨by simp [a],by simpa using b⟩
theorem zht:∀ {xs ys l:List zA},zc3 xs ys=some l->∀(k:Nat) (h:k<l.length) (hx:k<xs.length),(∀ hy:k<ys.length,zbm xs[k] ys[k]=some l[k])/\(ys.length<=k->l[k]=xs[k])
 | xs,[],l,h,k,hk,hx=>by
  unfold zc3 at h;cases h
  exact⟨fun hy=>absurd hy (by simp),fun _=>rfl⟩
 | [],_ :: _,l,h,k,hk,hx=>by unfold zc3 at h;cases h
 | x :: xs,y :: ys,l,h,k,hk,hx=>by
  unfold zc3 at h;cases e:zbm x y with
  | none=>rw[e] at h;cases h
  | some z =>
   rw[e] at h;cases e2:zc3 xs ys with
   | none=>rw[e2] at h;cases h
   | some r =>
    rw[e2] at h;cases h
    cases k with
    | zero=>exact⟨fun _=>e,fun h=>by simp at h⟩
    | succ k =>
     obtain⟨a,b⟩:=zht e2 k (by simpa using hk) (by simpa using hx)
     exact⟨fun hy=>a (by simpa using hy),fun h=>b (by simpa using h)⟩
theorem zhu:∀(xs ys:List zA),ys.length<=xs.length->(∀(k:Nat) (hx:k<xs.length) (hy:k<ys.length),zbl xs[k] ys[k]=true)->zc3 xs ys=some xs
 | xs,[],_,_=>by unfold zc3;rfl
 | [],_ :: _,h,_=>by simp at h
 | x :: xs,y :: ys,h,ha=>by
  unfold zc3;have h0:=ha 0 (by simp) (by simp)
  have h0:zbl x y=true:=h0;rw[zhh h0,zhu xs ys (by simpa using h) (fun k hx hy=>ha (k+1) (by simpa using hx) (by simpa using hy))]
  rfl
theorem zhv:∀(xs ys:List zA),ys.length=xs.length->(∀(k:Nat) (hx:k<xs.length) (hy:k<ys.length),zbl xs[k] ys[k]=true)->zc3 ys xs=some xs
 | [],[],_,_=>by unfold zc3;rfl
 | [],_ :: _,h,_=>by simp at h
 | _ :: _,[],h,_=>by simp at h
 | x :: xs,y :: ys,h,ha=>by
  have h0:zbl x y=true:=ha 0 (by simp) (by simp)
  unfold zc3;rw[zhj h0,zhv xs ys (by simpa using h) (fun k hx hy=>ha (k+1) (by simpa using hx) (by simpa using hy))]
  rfl
theorem meet_wi {n r:Pat}(h:Wi n r)(h1:z8w n=0)(h2:z8w r=0):zc6 r n=some n:=by
 have hc:zc1 r.kp.length r.kr n.kp.length n.kr=true:=by
  unfold zc1;rcases zhp h with⟨a,b⟩ | ⟨a,b,c⟩
  ·rw[a];cases hn:n.kr with
   | true=>rfl
   | false =>
    rcases b with b | b
    ·rw[hn] at b;cases b
    ·simp [b]
  ·rw[a,b];simp [c]
 have hr:(r.kr && n.kr)=n.kr:=by
  rcases zhp h with⟨a,b⟩ | ⟨a,b,c⟩
  ·rw[a];rfl
  ·rw[a,b];rfl
 unfold zc6;rw[if_pos ⟨h2,h1,hc⟩,hr];unfold zc4 zc5;by_cases hl:r.kp.length<n.kp.length
 ·rw[if_pos hl,if_pos hl,zhu n.kp r.kp (by omega) (fun k _ hy=>h.all k hy)]
  rfl
 ·rw[if_neg hl,if_neg hl];have hle:=h.le;have he:r.kp.length=n.kp.length:=by omega
  have:zc3 r.kp n.kp=some n.kp:=zhv _ _ he (fun k _ hy=>h.all k hy);rw[this];rfl
theorem big_in {x y:Pat}{l:List zA}(e:zc3 x.kp y.kp=some l)(hc:(x.kr=true/\y.kr=true)\/(x.kr=false/\y.kr=true/\y.kp.length<x.kp.length)\/(x.kr=false/\y.kr=false/\x.kp.length=y.kp.length)):Wi ⟨l,x.kr && y.kr⟩ x/\Wi ⟨l,x.kr && y.kr⟩ y:=by
 obtain⟨l1,l2⟩:=zhs e;have hat:=zht e;refine⟨zhq (by show x.kp.length<=l.length;omega) ?_ (fun k hk=>?_),zhq (by show y.kp.length<=l.length;omega) ?_ (fun k hk=>?_)⟩
 ·rcases hc with⟨a,b⟩ | ⟨a,b,c⟩ | ⟨a,b,c⟩
  ·exact .inl ⟨a,.inl (by show (x.kr && y.kr)=true;rw[a,b];rfl)⟩
  ·exact .inr ⟨a,by show (x.kr && y.kr)=false;rw[a];rfl,l1⟩
  ·exact .inr ⟨a,by show (x.kr && y.kr)=false;rw[a];rfl,l1⟩
 ·have hk2:k<l.length:=by rw[l1];exact hk
  obtain⟨a,b⟩:=hat k hk2 hk;show zbl l[k] x.kp[k]=true
  by_cases hy:k<y.kp.length
  ·exact (zhg (a hy)).1
  ·rw[b (by omega)];exact zha _
 ·rcases hc with⟨a,b⟩ | ⟨a,b,c⟩ | ⟨a,b,c⟩
  ·exact .inl ⟨b,.inl (by show (x.kr && y.kr)=true;rw[a,b];rfl)⟩
  ·exact .inl ⟨b,.inr (by show y.kp.length<l.length;omega)⟩
  ·exact .inr ⟨b,by show (x.kr && y.kr)=false;rw[a];rfl,by show l.length=_;omega⟩
 ·have hk2:k<l.length:=by omega
  obtain⟨a,b⟩:=hat k hk2 (by omega)
  exact (zhg (a hk)).2.1
theorem zhw {p q m:Pat}(h:zc6 p q=some m):Wi m p/\Wi m q/\z8w p=0/\z8w q=0:=by
 unfold zc6 at h;split at h
 ·rename_i hc
  obtain⟨c1,c2,c3⟩:=hc;cases e:zc3 (zc4 p q).kp (zc5 p q).kp with
  | none=>rw[e] at h;cases h
  | some l =>
   rw[e] at h;cases h
   unfold zc1 at c3;by_cases hl:p.kp.length<q.kp.length
   ·have e1:zc4 p q=q:=if_pos hl;have e2:zc5 p q=p:=if_pos hl;rw[e1,e2] at e;have h2:=big_in e (by
     cases hp:p.kr <;> cases hq:q.kr <;> rw[hp,hq] at c3 <;> simp at c3
     ·omega
     ·omega
     ·exact .inr (.inl ⟨rfl,rfl,hl⟩)
     ·exact .inl ⟨rfl,rfl⟩)
    rw[Bool.and_comm] at h2;exact⟨h2.2,h2.1,c1,c2⟩
   ·have e1:zc4 p q=p:=if_neg hl;have e2:zc5 p q=q:=if_neg hl;rw[e1,e2] at e;have h2:=big_in e (by
     cases hp:p.kr <;> cases hq:q.kr <;> rw[hp,hq] at c3 <;> simp at c3
     ·exact .inr (.inr ⟨rfl,rfl,c3⟩)
     ·exact .inr (.inl ⟨rfl,rfl,c3⟩)
     ·omega
     ·exact .inl ⟨rfl,rfl⟩)
    exact⟨h2.1,h2.2,c1,c2⟩
 ·cases h
theorem zcz {j:Nat}{x:zA}(hj:0<j):z8u j x=zay x:=by
 unfold z8u;rw[zb5,decide_eq_false (by omega:¬ j=0)]
 simp
theorem zd0 {p:Pat}(h:0<p.kp.length)(hc:z0z p.kp[0]=false):z8w p=30:=by
 by_cases h1:p.kp.length=1/\p.kr=false
 ·exact z95 h1.1 h1.2
 ·exact z96 (z8x h (by rw[zb6,hc]))
theorem zd1 {p:Pat}{j:Nat}(hj:j+1<p.kp.length)(hc:zay p.kp[j+1]=false):z8w p=30:=z96 (z8x hj (by rw[zcz (by omega),hc]))
theorem zd2 {p:Pat}(h1:¬(p.kp.length=0\/(p.kp.length=1/\p.kr=false)))(h0:∀ h:0<p.kp.length,z0z p.kp[0]=true)(h:∀ j (hj:j+1<p.kp.length),zay p.kp[j+1]=true):z8w p=if 12<p.kp.length then 31 else 0:=by
 refine z97 h1 (z8y fun j hj=>?_);cases j with
 | zero=>rw[zb6];exact h0 hj
 | succ j=>rw[zcz (by omega)];exact h j hj
theorem zd3 (p:Pat)(A:zP)(c:Nat)(w:zW)(hS:z20 w (zL A p.kp.length c) p.kp)(hz:∀ x∈p.kp,x.size<=maxLen):
  Calls Tryz.prog 40 #[.agg #[zL A p.kp.length c,.bool p.kr]] w fun e w'=>e=.returned (zI (z8w p))/\zB w w':=by
 obtain⟨A',c',e',hcc,hmm,-⟩:=id hS;injection e' with e1 e2 e3
 subst e1 e3;unfold maxLen at hmm;have HS:=hd_ hS;have HZ:=hd_ hz;have HCO:=hd_ (fun x (hx:x.size<=maxLen) X=>z9t x X hx);have HPA:=hd_ (fun x (hx:x.size<=maxLen) X=>zbh x X hx);obtain⟨parts,rest⟩:=p;dsimp only at hcc hmm HS HZ |-
 have HE0:=hd_ (@z94 ⟨parts,rest⟩);have HE1:=hd_ (@z95 ⟨parts,rest⟩);have HEC:=hd_ (@zd0 ⟨parts,rest⟩);have HEP:=hd_ (fun j hj hc=>@zd1 ⟨parts,rest⟩ j hj hc);have HEE:=hd_ (@zd2 ⟨parts,rest⟩);have hB:=z0l w [zL A parts.length c,.bool rest] 56;have hA:zB w (w.alloc (zC #[zL A parts.length c,.bool rest] 56)):=zR;clear hS hz e2;go_enter Tryz.func40,Tryz.ntmps40;go_upto_region 1 with fail;generalize w.alloc (zC #[zL A parts.length c,.bool rest] 56)=W1 at hB hA |-;have d0:W1.cell? ⟨w.heap.size,0,none⟩=some (.slice A parts.length c):=hB.cell 0;have d1:W1.cell? ⟨w.heap.size,1,none⟩=some (.bool rest):=hB.cell 1;have HB:=hd_ hB;have HA:=hd_ hA;clear hB hA;by_cases h0:parts.length=0
 ·have q0:((parts.length:Int) == 0)=true:=by rw[beq_iff_eq];omega
  have HR:=hd_ (HE0 h0);clear h0;go_wp2_with fail;go_ret;exact⟨z91 HR.symm,HA⟩
 ·have q0:((parts.length:Int) == 0)=false:=by rw[beq_eq_false_iff_ne];omega
  by_cases h1:parts.length=1/\rest=false
  ·have q1:((parts.length:Int) == 1)=true:=by rw[beq_iff_eq];omega
   have HR:=hd_ (HE1 h1.1 h1.2);obtain⟨h1,rfl⟩:=h1;clear h0 h1;go_wp2_with fail;go_ret;exact⟨z91 HR.symm,HA⟩
  ·have hpos:0<parts.length:=by omega
   have HN1:=hd_ (show ¬(parts.length=0\/(parts.length=1/\rest=false)) from fun h=>h.elim h0 h1);obtain⟨ad,rfl,hab,x0⟩:=z20.at_ (HS.out.kw HA.out) hpos;have hadd:(ad.add 0)=ad:=by unfold Addr.add;cases ad;simp
   have HX0:=hd_ (HCO _ (HZ _ (Za hpos)));have HNC:=hd_ (fun h=>HEC hpos h);obtain⟨fst,hfst⟩:∃ x,parts[0]=x:=⟨_,rfl⟩;rw[hfst] at x0;have HF:Hid (∀ X,Calls Tryz.prog 83 #[zS fst] X fun e w'=>e=.returned (.bool (z0z fst))/\X=w'):=hd_ (fun X=>by rw[<- hfst];exact HX0 X)
   have HNC2:Hid (z0z fst=false->z8w ⟨parts,rest⟩=30):=hd_ (fun h=>HNC (by dsimp only;rw[hfst];exact h))
   have HYC2:Hid (z0z fst=true->∀ h:0<parts.length,z0z parts[0]=true):=hd_ (fun h _=>by rw[hfst];exact h)
   clear hfst HX0 HNC;clear h0 hab;have hone:((parts.length:Int) == 1)=true->rest=true:=fun h=>by
    cases rest with
    | true=>rfl
    | false=>exact absurd ⟨by rw[beq_iff_eq] at h;omega,rfl⟩ h1
   clear h1;rw[hadd] at x0;clear hadd;have hp0:(0:Int)<(parts.length:Int):=by omega
   go_cut [27] (fun v wx=>v=.bool (!z0z fst)/\wx=W1)
   case first =>
    have HON:=hd_ hone;clear hone;cases q1:((parts.length:Int) == 1) with
    | true =>
     obtain rfl:=HON q1
     go_wp2_with fail;refine (HF _).mono ?_;rintro e w' ⟨rfl,rfl⟩;go_wp2_with fail;go_meet
     exact⟨rfl,rfl⟩
    | false =>
     go_wp2_with fail;refine (HF _).mono ?_;rintro e w' ⟨rfl,rfl⟩;go_wp2_with fail;go_meet
     exact⟨rfl,rfl⟩
   case rest =>
    obtain⟨rfl,rfl⟩:=hcut;have HNO:=hd_ hone;clear hone x0 hp0 q0;cases hc:z0z fst with
    | false =>
     have HR:=hd_ (HNC2 hc);clear hc;go_wp2_with fail;go_ret;exact⟨z91 HR.symm,HA⟩
    | true =>
     have HYC:=hd_ (HYC2 hc);obtain⟨A2,c2,hrun,hrow⟩:=z0b (P:=Tryz.prog) (t:=29) (lo:=1) (x:=1) (kx:=.i64) Tryz.underlying29 Tryz.sizeOf9 (HS.out.kw HA.out) (by omega) rfl
     rw[Nat.one_mul,<- List.map_drop] at hrow;obtain⟨l2,hl2⟩:∃ l2,parts.drop 1=l2:=⟨_,rfl⟩;have hlen:parts.length - 1=l2.length:=by rw[<- hl2,Zu]
     rw[hl2] at hrow;rw[hlen] at hrow hrun;have HS2:Hid (z20 wc (zL A2 l2.length c2) l2):=hd_ hrow;have HGT:Hid (∀ j (hj:j<l2.length),∃ h:j+1<parts.length,parts[j+1]=l2[j]):=hd_ (fun j hj=>⟨by omega,by subst hl2;rw[List.getElem_drop];congr 1;omega⟩)
     have HLN:=hd_ hlen;have hl2b:l2.length<=9223372036854775806:=by omega
     clear hrow hl2 hlen hc;go_wp2_with fail;clear hrun;go_loop [32] (fun i=>∃ k:Nat,k<=l2.length/\i=zI k/\Hid (∀ j (hj:j<l2.length),j<k->zay l2[j]=true)) (fun i=>l2.length - (intOf i).toNat)
     exact⟨0,Zg _,rfl,fun j _ h=>by omega⟩
     obtain⟨k,hk,rfl,HI⟩:=hrel;by_cases hlt:k<l2.length
     ·obtain⟨ad2,rfl,hab2,x1⟩:=z20.at_ HS2.out hlt;have HPX:=hd_ (fun X=>HPA l2[k] (by obtain⟨h,e⟩:=HGT.out k hlt;rw[<- e];exact HZ _ (Za h)) X)
      have HBD:Hid (zay l2[k]=false->z8w ⟨parts,rest⟩=30):=hd_ (fun h=>by obtain⟨h1,e⟩:=HGT.out k hlt;exact HEP k h1 (by rw[e];exact h))
      have HGD:Hid (zay l2[k]=true->∀ j (hj:j<l2.length),j<k+1->zay l2[j]=true):=hd_ (fun h j hj a=>by
       by_cases e:j=k
       ·subst e;exact h
       ·exact HI j hj (by omega))
      generalize hx:l2[k]=x at x1 HPX HBD HGD;clear hx HI;cases hb:zay x with
      | false =>
       have HR:=hd_ (HBD hb);rw[hb] at HPX;clear hb;go_wp2_with fail;refine (HPX _).mono ?_;rintro e w' ⟨rfl,rfl⟩;go_wp2_with fail;go_ret;exact⟨z91 HR.symm,HA⟩
      | true =>
       have HJ:=hd_ (HGD hb);rw[hb] at HPX;clear hb;go_wp2_with fail;refine (HPX _).mono ?_;rintro e w' ⟨rfl,rfl⟩;go_wp2_with fail;go_round
       exact⟨k+1,by omega,by go_num,HJ⟩
       simp [intOf];omega
     ·have HR:=hd_ (HEE HN1 (fun h=>HYC h) (fun j hj=>by
       obtain⟨h,e⟩:=HGT.out j (by have:=HLN.out;omega)
       rw[e];exact HI j _ (by have:=HLN.out;omega)))
      clear HI;by_cases h12:12<parts.length
      ·have q12:decide ((12:Int)<(parts.length:Int))=true:=by simp;omega
       have HR2:Hid (z8w ⟨parts,rest⟩=31):=hd_ (by rw[HR.out];exact if_pos h12)
       clear h12;go_wp2_with fail;go_ret;exact⟨z91 HR2.symm,HA⟩
      ·have q12:decide ((12:Int)<(parts.length:Int))=false:=by simp;omega
       have HR2:Hid (z8w ⟨parts,rest⟩=0):=hd_ (by rw[HR.out];exact if_neg h12)
       clear h12;go_wp2_with fail;go_ret;exact⟨z91 HR2.symm,HA⟩
