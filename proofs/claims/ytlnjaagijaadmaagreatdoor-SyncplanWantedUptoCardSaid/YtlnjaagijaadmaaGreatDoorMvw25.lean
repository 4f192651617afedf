/- A part. -/
import Derived.Test.YtlnjaagijaadmaaGreatDoorMvw24
import Derived.DataReads
set_option linter.unusedVariables false
set_option linter.unusedSimpArgs false
set_option maxHeartbeats 8000000
set_option maxRecDepth 100000
namespace Go.Proofs.YtlnjaagijaadmaaGreatDoor
open Go.Proofs.Tryz
open Go.RowKit
open Go.Sort (grow)
def zo3 (w:zW)(B:Nat)(l:List zA):Prop:=z2l zS z5z w B (z5y l)
theorem zo4 (l:List zA)(v:zV)(w:zW)(hl:z20 w v l)(hn:l.length<=1000000):
  Calls prog 71 #[v] w fun e w'=>e=.returned (.map (some w.heap.size))/\zo3 w' w.heap.size l/\zB w w':=by
 obtain⟨A,c,rfl,-⟩:=id hl;have hmk:=fun X=>z2k (P:=prog) 118 9 119 .i64 (l.length:Int) underlying118 X;have HL:=hd_ hl;have HM0:Hid (zo3 (w.alloc (.map #[] 0)) w.heap.size []/\zB w (w.alloc (.map #[] 0))):=hd_ ⟨z2l.new zS z5z w,zR⟩;clear hl;go_enter func71,ntmps71;go_upto_region 2 with fail;generalize w.alloc (.map #[] 0)=W1 at HM0 |-;clear hmk;go_wp2_with fail;go_loopw [11] (fun i wr=>∃ k:Nat,i=zI k/\k<=l.length/\Hid (zo3 wr w.heap.size (l.take k)/\zB w wr)) (fun i _=>l.length - (intOf i).toNat)
 exact⟨0,rfl,Zg _,HM0⟩
 obtain⟨k,rfl,hk,HI⟩:=hrel;by_cases hlt:k<l.length
 ·obtain⟨ad,rfl,hab,s0⟩:=z20.at_ (HL.out.kw HI.out.2) hlt;have HT:Hid (l.take (k+1)=l.take k++[l[k]]):=hd_ (Zr hlt);generalize l[k]=p at s0 HT;have hX:zB wr wr:=Zb _ _;obtain⟨w3,hup,hM3,hg3,-⟩:=z2l.update (w:=wr) HI.out.1 (z2j underlying9) underlying118 p ();have hup':(Instr.mapUpdate 118 (.map (some w.heap.size)) (zS p) (.agg #[])).run prog wr=.ok () w3:=hup;have HN:Hid (zo3 w3 w.heap.size (l.take (k+1))/\zB w w3):=hd_ ⟨by unfold zo3;rw[HT.out,zk4];exact hM3,HI.2.grown hg3 HI.2.size (fun k e=>by injection e with e;omega)⟩
  have HLT:=hd_ hlt;clear hab hup hM3 hg3 hX;go_wp2_with fail;go_roundw
  exact⟨k+1,by go_num,by omega,HN⟩
  simp [intOf];omega
 ·have hke:k=l.length:=by omega
  subst hke;rw[ZH] at HI;have hge:¬((l.length:Int)<(l.length:Int)):=by omega
  go_wp2_with fail;go_ret;exact⟨rfl,HI⟩
theorem zo5 (l:List zA)(B:Nat)(p:zA)(w:zW)(h:zo3 w B l):
  Calls prog 72 #[.map (some B),zS p] w fun e w'=>e=.returned (.bool (decide (p∈l)))/\zB w w':=by
 have hlk:=z2l.lookup (w:=w) h (z2j underlying9) underlying118 (z:=.agg #[]) (by rfl) p true
 have hA:zB w (w.alloc (zC #[] 119)):=zR;have HA:=hd_ hA;clear h hA;by_cases hin:p∈l
 all_goals
  have hv:z2n z5z (.agg #[]) true (z5y l p)=.tuple #[.agg #[],.bool (decide (p∈l))]:=by unfold z5y;first | (rw[if_pos hin,decide_eq_true hin];rfl) | (rw[if_neg hin,decide_eq_false hin];rfl)
  rw[hv] at hlk;generalize decide (p∈l)=b at hlk |-;clear hin hv;go_enter func72,ntmps72;go_wp2_with fail;go_ret;exact⟨rfl,HA⟩
def zog (w:zW)(pl:List Syn)(e:Ending)(w':zW):Prop:=∃ v,e=.returned (.tuple #[v,zI 0])/\z6d w' v pl/\zB w w'
theorem zoh:∀(n:Nat) (hs ws:List Hav),(z7n n hs ws).length<=n:=by
 intro n;induction n with
 | zero=>intro hs ws;exact Zd _
 | succ n ih =>
  intro hs ws;cases hs with
  | nil =>
   cases ws with
   | nil=>exact Zg _
   | cons y ws=>exact Nat.succ_le_succ (ih [] ws)
  | cons x hs =>
   cases ws with
   | nil=>exact Nat.succ_le_succ (ih hs [])
   | cons y ws =>
    unfold z7n;split
    ·exact Nat.succ_le_succ (ih _ _)
    ·split
     ·exact Nat.succ_le_succ (ih _ _)
     ·split
      ·exact Nat.le_succ_of_le (ih _ _)
      ·exact Nat.succ_le_succ (ih _ _)
theorem zoi {hs ws:List Hav}{op dt:List zA}(h1:z81 hs)(h2:z81 ws):∀ x∈z89 hs ws op dt,x.frm=zk9 hs x.kt:=by
 intro x hx;obtain⟨i1,i2⟩:=z8d (op:=op) (dt:=dt) h1 h2;have hg:z7k (z89 hs ws op dt) x.kt=some x:=z7b i1 hx;rw[i2,Yg] at hg;obtain⟨y,e1,e2⟩:=hg;have e3:x.frm=y.frm:=by rw[<- e2];rfl
 rw[e3];unfold zk9;rcases z8c e1 with⟨a,e4,-,rfl⟩ | ⟨b,e4,-,rfl⟩ | ⟨a,b,e4,-,-,rfl⟩
 ·rw[e4];rfl
 ·rw[e4];rfl
 ·rw[e4];rfl
theorem zoj {hs:List Hav}(h:z81 hs):∀ x∈hs,x.kt.size<=200/\x.loc.size<=200:=fun x hx=>by
 obtain⟨h1,h2,-⟩:=z82 (h.ok x hx);exact⟨(z83 h1).2.1,(z83 h2).2.1⟩
def zqz (b:Pat)(hs:List PatM)(p:zA):Bool:=(zaj b p).isSome && !zdu hs p
theorem zr0 (b:Pat)(hs:List PatM)(A H:zP)(a hc:Nat)(p:zA)(w:zW)(he:Env w)(hb:zbx w (zL A b.kp.length a) b)(hh:HolesIn w (zL H hs.length hc) hs)(hz:p.size<=1000000)(hn:hs.length<=1000000):
  Calls prog 112 #[.agg #[zL A b.kp.length a,.bool b.kr,zL H hs.length hc],zS p] w fun e w'=>e=.returned (.bool (zqz b hs p))/\zB w w':=by
 have hB:=z0l w [zL A b.kp.length a,.bool b.kr,zL H hs.length hc] 66;have hA:zB w (w.alloc (zC #[zL A b.kp.length a,.bool b.kr,zL H hs.length hc] 66)):=zR;have HM:=hd_ (fun X (hX:zB w X)=>zd6 b p A a X (he.kw hX) hz (hb.kw hX).1 hb.small);have HMQ:=hd_ (fun(q:Pat) (Q:zP) (c:Nat) X (hX:zB w X) (hq:zbx X (zL Q q.kp.length c) q)=>zd6 q p Q c X (he.kw hX) hz hq.1 hq.small);have HNO:Hid (∀ k (hk:k<hs.length),(zaj hs[k].1 p).isSome=true->zdu hs p=true):=hd_ (fun k hk h=>List.any_eq_true.2 ⟨_,Za hk,h⟩);have HYE:Hid ((∀ k (hk:k<hs.length),(zaj hs[k].1 p).isSome=false)->zdu hs p=false):=hd_ (fun h=>by
  unfold zdu;rw[List.any_eq_false];intro q hq;obtain⟨k,hk,rfl⟩:=ZF hq;rw[h k hk];decide)
 have HHB:Hid (zqz b hs p=((zaj b p).isSome && !zdu hs p)):=hd_ rfl;generalize zdu hs p=r at HNO HYE HHB;have HH:=hd_ hh;clear he hb hh;go_enter func112,ntmps112;go_upto_region 1 with fail;generalize w.alloc (zC #[zL A b.kp.length a,.bool b.kr,zL H hs.length hc] 66)=W1 at hA hB |-;obtain⟨d0,d1⟩:=(⟨hB.cell 0,hB.cell 1⟩:W1.cell? ⟨w.heap.size,0,none⟩=some (.slice A b.kp.length a)/\W1.cell? ⟨w.heap.size,1,none⟩=some (.bool b.kr));have HB:=hd_ hB;have HA:=hd_ hA;have HC1:=hd_ (HM W1 hA);clear hA hB HM;go_wp2_with fail;refine HC1.mono ?_;rintro e w2 ⟨A',n,c',rfl,hb2,-⟩;dsimp only;have HB2:=hd_ (z0r HA hb2);have HX2:=hd_ (HB.kw hb2 HB.lt);clear hb2 d0 d1 HC1;generalize (zaj b p).isSome=o at HHB |-;cases o with
 | false =>
  have HF:Hid (zqz b hs p=false):=hd_ (by rw[HHB.out];rfl)
  go_wp2_with fail;go_ret;exact⟨z12 HF.symm,HB2⟩
 | true =>
  have HF:Hid (zqz b hs p=!r):=hd_ (by rw[HHB.out];rfl)
  have d2:w2.cell? ⟨w.heap.size,2,none⟩=some (.slice H hs.length hc):=HX2.cell 2;go_wp2_with fail;clear d2;go_loopw [23] (fun i wr=>∃ k:Nat,i=zI k/\k<=hs.length/\Hid ((∀ j (hj:j<hs.length),j<k->(zaj hs[j].1 p).isSome=false)/\zB w2 wr)) (fun i _=>hs.length - (intOf i).toNat)
  exact⟨0,rfl,Zg _,hd_ ⟨fun j _ h=>by omega,Zb _ _⟩⟩
  obtain⟨k,rfl,hk,HI⟩:=hrel;by_cases hlt:k<hs.length
  ·have HHX:=hd_ (HH.kw (z0r HB2 HI.2));obtain⟨ad,rfl,hab,s0,s1⟩:=HHX.out.at_ hlt;have HPK:=hd_ (HHX.2 hs[k] (Za hlt));have HY:=hd_ (HNO k hlt);have HN:Hid ((zaj hs[k].1 p).isSome=false->∀ j (hj:j<hs.length),j<k+1->(zaj hs[j].1 p).isSome=false):=hd_ (fun h j hj hjk=>by
    by_cases e:j=k
    ·subst e;exact h
    ·exact HI.1 j hj (by omega))
   have HBI:=hd_ HI.2;have HLT:=hd_ hlt;generalize hs[k]=q at s0 s1 HPK HY HN;obtain⟨q,Aq,cq⟩:=q;change wr.cell? _=some (.slice Aq q.kp.length cq) at s0;change wr.cell? _=some (.bool q.kr) at s1;have hX:zB wr (wr.alloc (zC #[zL Aq q.kp.length cq,.bool q.kr] 56)):=zR;have HBX:=hd_ (z0r HBI hX);have HCQ:=hd_ (HMQ q Aq cq _ (z0r HB2 HBX) (HPK.kw hX));clear hab hX HI;dsimp only at HY HN
   go_wp2_with fail;refine HCQ.mono ?_;rintro e w4 ⟨A4,n4,c4,rfl,hb4,-⟩;dsimp only;have HB4:=hd_ (z0r HBX hb4);clear hb4 s0 s1;generalize (zaj q p).isSome=oq at HY HN |-;cases oq with
   | false =>
    have HN2:=hd_ (HN rfl);go_wp2_with fail;go_roundw
    exact⟨k+1,by go_num,by have:=HLT.out;omega,hd_ ⟨HN2,HB4⟩⟩
    have:=HLT.out;simp [intOf];omega
   | true =>
    have HR:=hd_ (HY rfl);have HB5:=hd_ (z0r HB2 HB4);go_wp2_with fail;go_ret;exact⟨z12 (by rw[HF.out,HR.out];rfl),HB5⟩
  ·have hke:k=hs.length:=by omega
   have HR:=hd_ (HYE (fun j hj=>HI.1 j hj (by omega)))
   have HB5:=hd_ (z0r HB2 HI.2);clear HI;subst hke;go_wp2_with fail;go_ret;exact⟨z12 (by rw[HF.out,HR.out];rfl),HB5⟩
theorem lens_le {ps:List (List UInt8)}{B:Nat}(h:∀ p∈ps,p.length<=B):Lib.lens ps<=ps.length * B:=by
  induction ps with
  | nil=>simp [Lib.lens]
  | cons x ps ih =>
    have h1:=ih (fun p hp=>h p (Zh _ hp));have h2:=h x (Zj ..);have h3:Lib.lens (x :: ps)=x.length+Lib.lens ps:=by simp [Lib.lens]
    rw[h3,Zz,Nat.add_mul];omega
theorem join_le {ps:List (List UInt8)}{B:Nat}(h:∀ p∈ps,p.length<=B):(Lib.join ps [47]).length<=ps.length * B+ps.length:=by
  cases ps with
  | nil=>rw[Lib.join_nil];simp
  | cons x r =>
    have h1:=lens_le h;rw[Lib.join_length];simp at h1 |-
    omega
theorem zsa {w:zW}{A:zP}{c:Nat}{l:List zA}(h:z20 w (zL A l.length c) l)(h0:0<l.length):∃ bk o,A=some ⟨bk,o,none⟩/\z9l w bk o (l.map (·.data.toList))/\l.length<=c:=by
  obtain⟨A',c',e,hc,-,-,-,hx⟩:=id h;injection e with e1 e2 e3
  obtain⟨ad,e4,hb,hcell⟩:=hx (by omega)
  have hget:∀ k (hk:k<l.length),w.cell? (ad.add k)=some (zS l[k]):=fun k hk=>hcell k _ (by rw[ZA,Ze hk];rfl)
  have h1:w.cell? ad=some (zS l[0]):=hget 0 h0;have hs:=World.cell?_spot h1;obtain⟨bk,o,sp⟩:=ad;have hs:sp=none:=hs;subst hs;refine⟨bk,o,e1.trans e4,fun k hk=>?_,by omega⟩
  rw[Zk] at hk;have h2:=hget k hk;have e5:(⟨bk,o,none⟩:Addr).add k=⟨bk,o+k,none⟩:=by unfold Addr.add;split <;> simp_all
  rw[e5] at h2;rw[h2,List.getElem_map];rfl
def zsb (p:Pat):zA:=if p.kr then (⟨#[47,47]⟩++baL (Lib.join (p.kp.map (·.data.toList)) [47]))++⟨#[47,46,46,46]⟩ else ⟨#[47,47]⟩++baL (Lib.join (p.kp.map (·.data.toList)) [47])
theorem rTextW (p:Pat)(A:zP)(a:Nat)(w:zW)(hp:zbx w (zL A p.kp.length a) p)(h0:0<p.kp.length)(h12:p.kp.length<=12):
    Calls prog 88 #[.agg #[zL A p.kp.length a,.bool p.kr]] w fun e w'=>e=.returned (zS (zsb p))/\zB w w':=by
  have hA:zB w (w.alloc (zC #[zL A p.kp.length a,.bool p.kr] 56)):=zR;have h2:zch (w.alloc (zC #[zL A p.kp.length a,.bool p.kr] 56)) w.heap.size (zL A p.kp.length a) p.kr:=z0l w [zL A p.kp.length a,.bool p.kr] 56;obtain⟨bk,o,rfl,hat,hc⟩:=zsa (hp.kw hA).1 h0;have hjl:(Lib.join (p.kp.map (·.data.toList)) [47]).length<=360000012:=by
    have h1:=join_le (ps:=p.kp.map (·.data.toList)) (B:=30000000) (fun q hq=>by
      obtain⟨x,hx,rfl⟩:=ZD.1 hq;have:=hp.2 x hx;have e:x.data.toList.length=x.size:=Array.length_toList;rw[e];exact this)
    rw[Zk] at h1;omega
  have HJ:=z9o (p.kp.map (·.data.toList)) bk o a _ hat (by rw[Zk];exact h0) (by rw[Zk];exact hc) (by rw[Zk];omega) (by omega)
  rw[Zk] at HJ;have HT:Hid (zsb p=if p.kr then (⟨#[47,47]⟩++baL (Lib.join (p.kp.map (·.data.toList)) [47]))++⟨#[47,46,46,46]⟩ else ⟨#[47,47]⟩++baL (Lib.join (p.kp.map (·.data.toList)) [47])):=hd_ rfl;have hz:(baL (Lib.join (p.kp.map (·.data.toList)) [47])).size<=360000012:=by rw[z9c];exact hjl
  generalize baL (Lib.join (p.kp.map (·.data.toList)) [47])=tx at HJ HT hz;have HJ:=hd_ HJ;clear hp hat hjl hc;go_enter func88,ntmps88;go_upto_region 1 with fail;generalize w.alloc (zC #[zL (some ⟨bk,o,none⟩) p.kp.length a,.bool p.kr] 56)=W1 at hA h2 HJ |-;have x0:=h2.c0;have HA:=hd_ hA;have H2:=hd_ h2;clear hA h2;have z2:¬ 9223372036854775807<2+tx.size:=by omega
  go_wp2_with fail;refine HJ.mono ?_;rintro e w2 ⟨rfl,hb⟩;have HB:=hd_ (z0r HA hb);have x1:=(H2.out.low hb).c1;clear hb x0;cases hpr:p.kr with
  | false =>
    rw[hpr] at x1 HT;go_wp2_with fail;go_ret;exact⟨by rw[HT.out];rfl,HB⟩
  | true =>
    rw[hpr] at x1 HT;have z3:¬ 9223372036854775807<2+tx.size+4:=by omega
    have z4:(⟨#[47,47]⟩++tx:zA).size=2+tx.size:=by rw[ByteArray.size_append];rfl
    go_wp2_with fail;go_ret;exact⟨by rw[HT.out];rfl,HB⟩
def SamW (w:zW)(p q:Pat)(e:Ending)(w':zW):Prop:=∃ r:Bool,e=.returned (.bool r)/\(r=true↔p=q)/\zB w w'
theorem rSameW (p q:Pat)(A B:zP)(a b:Nat)(w:zW)(hp:zbx w (zL A p.kp.length a) p)(hq:zbx w (zL B q.kp.length b) q):
    Calls prog 90 #[.agg #[zL A p.kp.length a,.bool p.kr],.agg #[zL B q.kp.length b,.bool q.kr]] w (SamW w p q):=by
  have hA:zB w ((w.alloc (zC #[zL A p.kp.length a,.bool p.kr] 56)).alloc (zC #[zL B q.kp.length b,.bool q.kr] 56)):=(zR).alloc (by simp) _
  have h2:zch ((w.alloc (zC #[zL A p.kp.length a,.bool p.kr] 56)).alloc (zC #[zL B q.kp.length b,.bool q.kr] 56)) w.heap.size (zL A p.kp.length a) p.kr:=(z0l w [zL A p.kp.length a,.bool p.kr] 56).alloc _;have h3:zch ((w.alloc (zC #[zL A p.kp.length a,.bool p.kr] 56)).alloc (zC #[zL B q.kp.length b,.bool q.kr] 56)) (w.heap.size+1) (zL B q.kp.length b) q.kr:=by
    have:=z0l (w.alloc (zC #[zL A p.kp.length a,.bool p.kr] 56)) [zL B q.kp.length b,.bool q.kr] 56;rw[Zl] at this;exact this
  have hlp:p.kp.length<=9223372036854775807:=by
    obtain⟨A',c',e',hcc,hmm,-⟩:=id hp.1;injection e' with e1 e2 e3
    unfold maxLen at hmm;omega
  have HNO:Hid (∀(h:¬ p=q),(false=true↔p=q)):=hd_ (fun h=>⟨fun e=>(by cases e),fun e=>absurd e h⟩)
  have HP:=hd_ hp;have HQ:=hd_ hq;clear hp hq;go_enter func90,ntmps90;go_upto_region 1 with fail;generalize (w.alloc (zC #[zL A p.kp.length a,.bool p.kr] 56)).alloc (zC #[zL B q.kp.length b,.bool q.kr] 56)=W1 at hA h2 h3 |-;have x0:=h2.c0;have x1:=h2.c1;have y0:=h3.c0;have y1:=h3.c1;have H:=hd_ (Zi hA (Zi h2 h3));clear hA h2 h3;obtain⟨b1,hb1⟩:∃ b,p.kr=b:=⟨_,rfl⟩;obtain⟨b2,hb2⟩:∃ b,q.kr=b:=⟨_,rfl⟩;rw[hb1] at x1;rw[hb2] at y1;by_cases hr:b1=b2
  case neg =>
    have HN:=hd_ (HNO (fun e=>hr (by rw[<- hb1,<- hb2,e])))
    have HR:=hd_ hr;clear hr hb1 hb2;cases b1 <;> cases b2
    all_goals
      first
        | exact absurd rfl HR.out
        | (go_wp2_with fail
           go_ret;exact⟨_,rfl,HN,H.1⟩)
  have HR:Hid (p.kr=q.kr):=hd_ (by rw[hb1,hb2,hr])
  subst hr;clear hb1 hb2;by_cases hl:p.kp.length=q.kp.length
  case neg =>
    have q2:((p.kp.length:Int) != (q.kp.length:Int))=true:=by simp;omega
    have HN:=hd_ (HNO (fun e=>hl (by rw[e])))
    cases b1
    all_goals
      go_wp2_with fail;go_ret;exact⟨_,rfl,HN,H.1⟩
  have q2:((p.kp.length:Int) != (q.kp.length:Int))=false:=by simp;omega
  have HL:=hd_ hl;cases b1
  all_goals
    go_wp2_with fail;clear x0 x1 y0 y1 q2;go_loopw [24] (fun i wr=>∃ k:Nat,i=zI k/\k<=p.kp.length/\Hid (zB W1 wr/\∀ j (hj:j<p.kp.length) (hj2:j<q.kp.length),j<k->p.kp[j]=q.kp[j])) (fun i _=>p.kp.length - (intOf i).toNat)
    exact⟨0,rfl,Zg _,hd_ ⟨Zb _ _,fun j _ _ h=>by omega⟩⟩
    obtain⟨k,rfl,hk,HI⟩:=hrel;by_cases hlt:k<p.kp.length
    · have hlq:k<q.kp.length:=by omega
      obtain⟨ad,rfl,hab,s0⟩:=z20.at_ (HP.out.kw (z0r H.out.1 HI.out.1)).1 hlt;obtain⟨ae,rfl,hae,r0⟩:=z20.at_ (HQ.out.kw (z0r H.out.1 HI.out.1)).1 hlq;have y0:=(H.out.2.2.low HI.out.1).c0;have HJ:Hid (p.kp[k]=q.kp[k]->∀ j (hj:j<p.kp.length) (hj2:j<q.kp.length),j<k+1->p.kp[j]=q.kp[j]):=hd_ (fun h j hj hj2 hjk=>by
        by_cases e:j=k
        · subst e;exact h
        · exact HI.2 j hj hj2 (by omega))
      have HN:Hid (¬ p.kp[k]=q.kp[k]->¬ p=q):=hd_ (fun h e=>h (by subst e;rfl))
      generalize p.kp[k]=s at s0 HJ HN;generalize q.kp[k]=t at r0 HJ HN;have hz:(k:Int)<(q.kp.length:Int):=by omega
      have HLT:=hd_ hlt;have HE:=hd_ (za9 s t);clear hab hae;by_cases hst:s=t
      · have q3:(s.toList == t.toList)=true:=by rw[hst];simp
        have HJ2:=hd_ (HJ hst);clear hst;go_wp2_with fail;go_roundw
        exact⟨k+1,by go_num,by omega,hd_ ⟨HI.1,HJ2⟩⟩
        simp [intOf];omega
      · have q3:(s.toList == t.toList)=false:=by rw[HE.out];exact decide_eq_false hst
        have HN2:=hd_ (HNO (HN hst));have HB:=hd_ (z0r H.1 HI.1);clear hst;go_wp2_with fail;go_ret;exact⟨_,rfl,HN2,HB⟩
    · have hke:k=p.kp.length:=by omega
      subst hke;have HB:=hd_ (z0r H.1 HI.1);have HEQ:Hid (p=q):=hd_ (zhr (List.ext_getElem hl (fun j h1 h2=>HI.2 j h1 h2 h1)) HR);have hge:¬((p.kp.length:Int)<(p.kp.length:Int)):=by omega
      go_wp2_with fail;go_ret;exact⟨_,rfl,⟨fun _=>HEQ,fun _=>rfl⟩,HB⟩
