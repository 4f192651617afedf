/- A part of the proof. -/
import Derived.Test.YtegeboijhifmcaaGreatDoorMgw12
import Derived.Test.YtegeboijhifmcaaGreatDoorMzAlF
set_option linter.unusedVariables false
set_option linter.unusedSimpArgs false
set_option maxHeartbeats 8000000
set_option maxRecDepth 100000
namespace Go.Proofs.YtegeboijhifmcaaGreatDoor
open Go.Proofs.Tryz
open Go.RowKit
section
variable {hs ws : List Hav} {op dt : List ByteArray}
theorem zq7 {α:Type}{f:α→Bool}{a:α}(h:f a=true):(some a).filter f=some a:=by
 show (if f a=true then some a else none)=_
 rw[if_pos h]
theorem zq8 {α:Type}{f:α→Bool}{a:α}(h:¬ f a=true):(some a).filter f=none:=by
 show (if f a=true then some a else none)=_
 rw[if_neg h]
theorem zq9 {α:Type}{k:α→ByteArray}{l:List α}(h:z5x k l)(f:α→Bool)(p:ByteArray):z5y k (l.filter f) p=(z5y k l p).filter f:=by
 induction l with
 | nil=>rfl
 | cons a l ih =>
  rw[z63,List.filter_cons];by_cases e:k a=p
  ·rw[if_pos e];by_cases fa:f a=true
   ·rw[if_pos fa,z63,if_pos e,zq7 fa]
   ·rw[if_neg fa,ih h.tail];have:z5y k l p=none:=z62.2 fun b hb eb=>z5z (h.head b hb) (e.trans eb.symm);rw[this,zq8 fa];rfl
  ·rw[if_neg e];by_cases fa:f a=true
   ·rw[if_pos fa,z63,if_neg e];exact ih h.tail
   ·rw[if_neg fa];exact ih h.tail
theorem zqa (h1:zf0 hs)(h2:zf0 ws):zf9 (z4y hs (zf9 hs ws op dt)) ws op dt=(zf9 hs ws op dt).filter (fun x=>z3o x.kind):=by
 have hr:=zpy (op:=op) (dt:=dt) h1 h2;obtain⟨i1,i2⟩:=zfd (op:=op) (dt:=dt) h1 h2;obtain⟨j1,j2⟩:=zfd (op:=op) (dt:=dt) hr h2;obtain⟨k1,k2⟩:=zfc (op:=op) (dt:=dt) h1 h2;obtain⟨l1,l2⟩:=zfc (op:=op) (dt:=dt) hr h2;have same:∀ p,(z6e (zf9 hs ws op dt) p=none∨∃ x,z6e (zf9 hs ws op dt) p=some x∧z3o x.kind=true)→z6e (zf8 (z4y hs (zf9 hs ws op dt)) ws op dt) p=z6e (zf8 hs ws op dt) p:=fun p hp=>by
  rw[l2,k2,zq5 h1 h2 hp]
 have idle:=fun p hp=>zql (op:=op) (dt:=dt) h1 h2 (p:=p) hp;have up:∀ p,Bl hs (zf8 hs ws op dt) p→Bl (z4y hs (zf9 hs ws op dt)) (zf8 (z4y hs (zf9 hs ws op dt)) ws op dt) p:=by
  intro p hp;have mem:∀ {x:Syn},x∈zf8 hs ws op dt→Bl hs (zf8 hs ws op dt) x.path→x∈zf8 (z4y hs (zf9 hs ws op dt)) ws op dt:=fun {x} hx hb=>by
   have g1:z6e (zf8 hs ws op dt) x.path=some x:=z65 k1 hx;rw[← same _ (idle _ (.inr (.inr hb)))] at g1;exact (z61 g1).1
  have keep:∀ {h:Hav},h∈hs→(z6e (zf8 hs ws op dt) h.path=none∨(∃ y,z6e (zf8 hs ws op dt) h.path=some y∧z3o y.kind=true)∨Bl hs (zf8 hs ws op dt) h.path)→h∈z4y hs (zf9 hs ws op dt):=fun {h} hh hc=>by
   have:=zq5 h1 h2 (idle _ hc);rw[zpw h1 hh] at this;exact (zk5 this).1
  induction hp with
  | free a1 a2 a3 a4 a5 a6 a7 =>
   exact .free (mem a1 (.free a1 a2 a3 a4 a5 a6 a7)) a2 a3 (keep a4 (.inl a7)) a5 a6 (by rw[same _ (idle _ (.inl a7))];exact a7)
  | stay a1 a2 a3 a4 a5 a6 a7 a8 =>
   exact .stay (mem a1 (.stay a1 a2 a3 a4 a5 a6 a7 a8)) a2 a3 (keep a4 (.inr (.inl ⟨_,a7,a8⟩))) a5 a6 (by rw[same _ (idle _ (.inr (.inl ⟨_,a7,a8⟩)))];exact a7) a8
  | next a1 a2 a3 a4 a5 a6 a7 ih =>
   exact .next (mem a1 (.next a1 a2 a3 a4 a5 a6 a7)) a2 a3 (keep a4 (.inr (.inr a7))) a5 a6 ih
 refine zpu j1 (z6a i1 _) fun p=>?_;show z6e _ p=z5y Syn.path _ p
 rw[zq9 i1];show _=(z6e (zf9 hs ws op dt) p).filter _
 cases hg:z6e (zf9 hs ws op dt) p with
 | none =>
  rw[j2,zq5 h1 h2 (.inl hg)];have:z6i (z6d hs p) (z6d ws p)=none:=by
   rw[i2,Option.map_eq_none_iff] at hg;exact hg
  rw[this];rfl
 | some x =>
  obtain⟨hx,hp⟩:=z61 hg;have hg2:=hg;rw[i2,Option.map_eq_some_iff] at hg2;obtain⟨y,e1,e2⟩:=hg2;have yp:y.path=p:=by
   have:=congrArg Syn.path e2;rw[zeh] at this;exact (show y.path=x.path from this).trans hp
  cases hst:z3o x.kind with
  | true =>
   rw[j2,zq5 h1 h2 (.inr ⟨x,hg,hst⟩),e1];have em:zef (blB (z4y hs (zf9 hs ws op dt)) (zf8 (z4y hs (zf9 hs ws op dt)) ws op dt)) (zf7 op dt y)=x:=by
    rw[← e2];unfold zef;show (if blB _ _ y.path=true then _ else _)=(if blB _ _ y.path=true then _ else _)
    rw[yp];by_cases hb:blB hs (zf8 hs ws op dt) p=true
    ·rw[if_pos hb,if_pos (zee.2 (up p (zee.1 hb)))]
    ·rw[if_neg hb];have hb0:blB hs (zf8 hs ws op dt) p=false:=by simpa using hb
     have hk:z3o (zf6 op dt y)=true:=by
      rw[← e2,zej] at hst;have:blB hs (zf8 hs ws op dt) (zf7 op dt y).path=false:=by show blB _ _ y.path=false;rw[yp];exact hb0
      rw[this,Bool.false_or] at hst;exact hst
     rw[if_neg];intro hb2;have hbl:=zee.1 hb2;have g0:z6e (zf8 (z4y hs (zf9 hs ws op dt)) ws op dt) p=some (zf7 op dt y):=by
      rw[same p (.inr ⟨x,hg,hst⟩),k2,e1];rfl
     have key:∀ q,Bl (z4y hs (zf9 hs ws op dt)) (zf8 (z4y hs (zf9 hs ws op dt)) ws op dt) q→∃ z,z∈zf8 (z4y hs (zf9 hs ws op dt)) ws op dt∧z.path=q∧z3o z.kind=false:=by
      intro q hq;cases hq with
      | free a1 a2=>exact⟨_,a1,rfl,a2⟩
      | stay a1 a2=>exact⟨_,a1,rfl,a2⟩
      | next a1 a2=>exact⟨_,a1,rfl,a2⟩
     obtain⟨z,z1,z2,z3⟩:=key p hbl;have g1:z6e (zf8 (z4y hs (zf9 hs ws op dt)) ws op dt) z.path=some z:=z65 l1 z1;rw[z2,g0] at g1;have:=Option.some.inj g1;rw[← this] at z3;have hk2:z3o (zf6 op dt y)=false:=z3;rw[hk] at hk2;cases hk2
   show some (zef _ _)=_
   rw[em,zq7 (f:=fun x:Syn=>z3o x.kind) hst]
  | false =>
   have hrp:z6d (z4y hs (zf9 hs ws op dt)) p=z6d ws p:=by
    rw[(zpx h1 h2).2,hg];simp only[zeo,hst,Bool.false_eq_true,if_false]
    obtain⟨y',y1,y2,y3,-,-⟩:=zk7 h1 h2 hx hst;rw[hp] at y1;rw[e1] at y1;have:=Option.some.inj y1;subst this;have d1:x.dst=y.dst:=by rw[y3];rfl
    have d2:x.num=y.num:=by rw[y3];rfl
    rw[d1,d2];rcases zfb e1 with⟨a,ea,ew,rfl⟩ | ⟨b,eh,eb,rfl⟩ | ⟨a,b,ea,eb,-,rfl⟩
    ·rw[ew];rfl
    ·rw[eb];show (if b.loc=z2l then _ else _)=_
     rw[if_neg (h2.locNe (zk5 eb).1),hp,← yp];rfl
    ·rw[eb];show (if b.loc=z2l then _ else _)=_
     rw[if_neg (h2.locNe (zk5 eb).1),hp,← yp];rfl
   rw[j2,hrp,zq1.2 rfl,zq8 (f:=fun x:Syn=>z3o x.kind) (by rw[hst];decide)]
   rfl
theorem z6m {α β:Type}{f g:α→Option β}:∀ {l:List α},(∀ x∈l,f x=g x)→l.filterMap f=l.filterMap g
 | [],_=>rfl
 | a :: l,h=>by
  rw[List.filterMap_cons,List.filterMap_cons,h a (List.mem_cons_self ..),z6m fun x hx=>h x (List.mem_cons_of_mem _ hx)]
theorem zqp {α:Type}{k:α→ByteArray}:∀ {qs:List ByteArray} {l:List α},z5x (fun q=>q) qs→z5x k l→(∀ a∈l,k a∈qs)→qs.filterMap (z5y k l)=l
 | [],l,_,_,h=>by
  cases l with
  | nil=>rfl
  | cons a l=>exact absurd (h a (List.mem_cons_self ..)) (by simp)
 | q :: qs,l,hq,hl,h=>by
  cases l with
  | nil=>simp [z5y]
  | cons a l =>
   have hm:=h a (List.mem_cons_self ..);by_cases e:k a=q
   ·rw[List.filterMap_cons];have:z5y k (a :: l) q=some a:=by rw[z63,if_pos e]
    rw[this];have hne:∀ p∈qs,z5y k (a :: l) p=z5y k l p:=fun p hp=>by
     rw[z63,if_neg (by rw[e];exact z5z (hq.head p hp))]
    rw[z6m hne];show a :: _=_
    congr 1
    refine zqp hq.tail hl.tail fun b hb=>?_;rcases List.mem_cons.1 (h b (List.mem_cons_of_mem _ hb)) with e2 | h3
    ·exact absurd (e.trans e2.symm) (z5z (hl.head b hb))
    ·exact h3
   ·rw[List.filterMap_cons];have hlow:z2u q (k a)<0:=by
     rcases List.mem_cons.1 hm with e2 | h3
     ·exact absurd e2 e
     ·exact hq.head _ h3
    have hno:∀ b∈a :: l,k b≠q:=fun b hb e2=>by
     rcases List.mem_cons.1 hb with rfl | hb'
     ·exact e e2
     ·have:=hl.head b hb';rw[e2] at this;exact z60 hlow this
    rw[z62.2 hno];refine zqp hq.tail hl fun b hb=>?_;rcases List.mem_cons.1 (h b hb) with e2 | h3
    ·exact absurd e2 (hno b hb)
    ·exact h3
end
structure WiOk (p q:Pat):Prop where
 le:q.parts.length≤p.parts.length
 all:∀ k (h:k<q.parts.length),z9s (p.parts[k]'(Nat.lt_of_lt_of_le h le)) q.parts[k]=true
theorem zcj (p q:Pat)(A B:Option Addr)(a b:Nat)(w:World)(hp:za9 w (.slice A p.parts.length a) p)(hq:za9 w (.slice B q.parts.length b) q)(hw:WiOk p q):
  Calls prog 249 #[.agg #[.slice A p.parts.length a,.bool true],.agg #[.slice B q.parts.length b,.bool true]] w fun e w'=>e=.returned (.bool true)∧Below w.heap.size w w':=by
 have hA:Below w.heap.size w ((w.alloc (.cells #[.slice A p.parts.length a,.bool true] 97)).alloc (.cells #[.slice B q.parts.length b,.bool true] 97)):=((Below.refl _ _).alloc (Nat.le_refl _) _).alloc (by simp) _
 have h2:zbo ((w.alloc (.cells #[.slice A p.parts.length a,.bool true] 97)).alloc (.cells #[.slice B q.parts.length b,.bool true] 97)) w.heap.size (.slice A p.parts.length a) true:=(z0l w [.slice A p.parts.length a,.bool true] 97).alloc _;have h3:zbo ((w.alloc (.cells #[.slice A p.parts.length a,.bool true] 97)).alloc (.cells #[.slice B q.parts.length b,.bool true] 97)) (w.heap.size+1) (.slice B q.parts.length b) true:=by
  have:=z0l (w.alloc (.cells #[.slice A p.parts.length a,.bool true] 97)) [.slice B q.parts.length b,.bool true] 97;rw[World.size_alloc] at this;exact this
 have q1:decide (p.parts.length<q.parts.length)=false:=by have:=hw.le;simp;omega
 have hlq:q.parts.length≤9223372036854775807:=by
  obtain⟨A',c',e',hcc,hmm,-⟩:=id hq.1;injection e' with e1 e2 e3
  unfold maxLen at hmm;omega
 have HP:=hd_ hp;have HQ:=hd_ hq;have HW:=hd_ hw;clear hp hq hw;go_enter func249,ntmps249;go_upto_region 1 with fail;generalize (w.alloc (.cells #[.slice A p.parts.length a,.bool true] 97)).alloc (.cells #[.slice B q.parts.length b,.bool true] 97)=W1 at hA h2 h3 ⊢;have x0:=h2.c0;have x1:=h2.c1;have y0:=h3.c0;have y1:=h3.c1;have H:=hd_ (And.intro hA (And.intro h2 h3));clear hA h2 h3;go_quiet (fail)
 go_wp2_with fail;go_loopw [50] (fun i wr=>∃ k:Nat,i=.int .i64 k∧k≤q.parts.length∧Hid (Below W1.heap.size W1 wr)) (fun i _=>q.parts.length - (intOf i).toNat)
 case atStart=>exact⟨0,rfl,Nat.zero_le _,hd_ (zqq _ _)⟩
 case round =>
  obtain⟨k,rfl,hk,HI⟩:=hrel;clear x0 x1 y0 y1;by_cases hlt:k<q.parts.length
  ·have hlp:k<p.parts.length:=Nat.lt_of_lt_of_le hlt HW.out.le;obtain⟨ad,rfl,hab,s0⟩:=Strs.at_ (HQ.out.below (z0r H.out.1 HI.out)).1 hlt;obtain⟨ae,rfl,hae,r0⟩:=Strs.at_ (HP.out.below (z0r H.out.1 HI.out)).1 hlp;have x0:=(H.out.2.1.low HI.out).c0;have HC:=hd_ (fun X=>z9u p.parts[k] q.parts[k] X (HP.out.2 _ (List.getElem_mem _)) (HQ.out.2 _ (List.getElem_mem _)));rw[HW.out.all k hlt] at HC;generalize p.parts[k]=s at r0 HC;generalize q.parts[k]=t at s0 HC;have HLT:=hd_ hlt;have hz:(k:Int)<(p.parts.length:Int):=by omega
   clear hab hae;go_wp2_with fail;refine (HC.out _).mono ?_;rintro e w3 ⟨rfl,hb3⟩;have HB:=hd_ (z0r HI.out hb3);clear hb3 x0 s0 r0;go_wp2_with fail;go_roundw
   case rel=>exact⟨k+1,by go_num,by omega,HB⟩
   case measure=>simp [intOf];omega
  ·have hke:k=q.parts.length:=by omega
   subst hke;have HB:=hd_ (z0r H.out.1 HI.out);have hge:¬((q.parts.length:Int)<(q.parts.length:Int)):=by omega
   go_wp2_with fail;go_ret;exact⟨rfl,HB.out⟩
theorem zck (p q:Pat)(A B:Option Addr)(a b:Nat)(w:World)(hp:za9 w (.slice A p.parts.length a) p)(hq:za9 w (.slice B q.parts.length b) q)(hpr:p.rest=true)(hqr:q.rest=true)(hpe:z7e p=0)(hqe:z7e q=0)(hw:WiOk p q):
  Calls prog 227 #[.agg #[.slice A p.parts.length a,.bool true],.agg #[.slice B q.parts.length b,.bool true]] w fun e w'=>e=.returned (.bool true)∧Below w.heap.size w w':=by
 have hA:Below w.heap.size w ((w.alloc (.cells #[.slice A p.parts.length a,.bool true] 97)).alloc (.cells #[.slice B q.parts.length b,.bool true] 97)):=((Below.refl _ _).alloc (Nat.le_refl _) _).alloc (by simp) _
 have h2:zbo ((w.alloc (.cells #[.slice A p.parts.length a,.bool true] 97)).alloc (.cells #[.slice B q.parts.length b,.bool true] 97)) w.heap.size (.slice A p.parts.length a) true:=(z0l w [.slice A p.parts.length a,.bool true] 97).alloc _;have h3:zbo ((w.alloc (.cells #[.slice A p.parts.length a,.bool true] 97)).alloc (.cells #[.slice B q.parts.length b,.bool true] 97)) (w.heap.size+1) (.slice B q.parts.length b) true:=by
  have:=z0l (w.alloc (.cells #[.slice A p.parts.length a,.bool true] 97)) [.slice B q.parts.length b,.bool true] 97;rw[World.size_alloc] at this;exact this
 have HCP:=hd_ (fun X (hX:Below w.heap.size w X)=>za0 p A a X (hp.below hX).1 hp.small);have HCQ:=hd_ (fun X (hX:Below w.heap.size w X)=>za0 q B b X (hq.below hX).1 hq.small);rw[hpe,hpr] at HCP;rw[hqe,hqr] at HCQ;have HIN:=hd_ (fun X (hX:Below w.heap.size w X)=>zcj p q A B a b X (hp.below hX) (hq.below hX) hw);clear hp hq hw hpe hqe hpr hqr;go_enter func227,ntmps227;go_upto_region 1 with fail;generalize (w.alloc (.cells #[.slice A p.parts.length a,.bool true] 97)).alloc (.cells #[.slice B q.parts.length b,.bool true] 97)=W1 at hA h2 h3 ⊢;have x0:=h2.c0;have x1:=h2.c1;have H:=hd_ (And.intro hA (And.intro h2 h3));have HC1:=hd_ (HCP.out W1 hA);clear hA h2 h3;go_wp2_with fail;refine HC1.out.mono ?_;rintro e w2 ⟨rfl,hb⟩;have HB:=hd_ (z0r H.out.1 hb);have HG:=hd_ (And.intro (H.out.2.1.low hb) (H.out.2.2.low hb));have y0:=HG.out.2.c0;have y1:=HG.out.2.c1;have HC2:=hd_ (HCQ.out w2 HB.out);clear hb x0 x1;go_wp2_with fail;refine HC2.out.mono ?_;rintro e w3 ⟨rfl,hb⟩;have HB3:=hd_ (z0r HB.out hb);have x0:=(HG.out.1.low hb).c0;have x1:=(HG.out.1.low hb).c1;have z0:=(HG.out.2.low hb).c0;have z1:=(HG.out.2.low hb).c1;have HC3:=hd_ (HIN.out w3 HB3.out);clear hb y0 y1;go_wp2_with fail;refine HC3.out.mono ?_;rintro e w4 ⟨rfl,hb⟩;have HB4:=hd_ (z0r HB3.out hb);clear hb x0 x1 z0 z1;go_wp2_with fail;go_ret;exact⟨rfl,HB4.out⟩
theorem zcl (l:List ByteArray)(A:Option Addr)(c:Nat)(w:World)(hS:Strs w (.slice A l.length c) l)(hz:∀ x∈l,x.size≤maxLen)(hf:∀ x∈l,z7b x≠0):
  Calls prog 229 #[.agg #[.slice A l.length c,.bool true],.bool true] w fun e w'=>e=.returned (.bool true)∧Below w.heap.size w w':=by
 have hB:=z0l w [.slice A l.length c,.bool true] 282;have hA:Below w.heap.size w (w.alloc (.cells #[.slice A l.length c,.bool true] 282)):=(Below.refl _ _).alloc (Nat.le_refl _) _;obtain⟨A',c',e',hcc,hmm,-⟩:=id hS;injection e' with e1 e2 e3
 subst e1 e3;have HS:=hd_ hS;have HF:=hd_ (fun x (hx:x∈l) X=>z7l x X (hz x hx));have HN:=hd_ hf;clear hS hz hf;unfold maxLen at hmm;go_enter func229,ntmps229;go_upto_region 1 with fail;generalize w.alloc (.cells #[.slice A l.length c,.bool true] 282)=W1 at hB hA ⊢;have d0:W1.cell? ⟨w.heap.size,0,none⟩=some (.slice A l.length c):=hB.cell 0;have d1:W1.cell? ⟨w.heap.size,1,none⟩=some (.bool true):=hB.cell 1;have HA:=hd_ hA;clear hB hA;by_cases h0:l.length=0
 all_goals
  have q0:((l.length:Int) == 0)=decide (l.length=0):=by rw[Bool.eq_iff_iff,beq_iff_eq,decide_eq_true_eq];omega
  first
   | rw[decide_eq_true h0] at q0
   | rw[decide_eq_false h0] at q0
  have H0:=hd_ h0;clear h0;go_wp2_with fail;go_loopw [33] (fun i wr=>∃ k:Nat,i=.int .i64 k∧k≤l.length∧Hid (Below W1.heap.size W1 wr)) (fun i _=>l.length - (intOf i).toNat)
  case atStart=>exact⟨0,rfl,Nat.zero_le _,hd_ (Below.refl _ _)⟩
  case round =>
   obtain⟨k,rfl,hk,HI⟩:=hrel;clear d0 d1;by_cases hlt:k<l.length
   ·obtain⟨ad,rfl,hab,s0⟩:=Strs.at_ (HS.out.below (z0r HA.out HI.out)) hlt;have HC:=hd_ (HF.out l[k] (List.getElem_mem _));have hn:=HN.out l[k] (List.getElem_mem _);generalize l[k]=s at s0 HC hn;have qn:(z7b s == 0)=false:=by simpa using hn
    have HLT:=hd_ hlt;clear hab hn;generalize z7b s=fi at HC qn;go_wp2_with (go_at_call 161;refine (HC.out _).mono ?_;rintro e w' ⟨rfl,rfl⟩)
    go_roundw
    case rel=>exact⟨k+1,by go_num,by omega,HI⟩
    case measure=>simp [intOf];omega
   ·have hke:k=l.length:=by omega
    subst hke;have HB:=hd_ (z0r HA.out HI.out);have hge:¬((l.length:Int)<(l.length:Int)):=by omega
    go_wp2_with fail;go_ret;exact⟨rfl,HB.out⟩
structure zcm (p:Pat):Prop where
 rest:p.rest=true
 pat:z7e p=0
 star:∀ x∈p.parts,z79 x=false
theorem Row.capTo {w:World}{size n c:Nat}{A:Option Addr}{xs:List Value}(h:Row w size (.slice A n c) n xs):Row w size (.slice A n n) n xs:=by
 obtain⟨A',c',e,hc,hm,hl,h0,hx⟩:=h;injection e with e1 e2 e3
 subst e1 e3;exact⟨A,n,rfl,Nat.le_refl _,by omega,hl,fun e=>by have:=h0 e;omega,hx⟩
theorem zcn {P:Program}{w:World}{t e:TypeId}{size n c lo:Nat}{A:Option Addr}{xs:List Value}(ht:P.underlying t=some (.slice e))(hs:∀ w,(sizeOf e).run P w=.ok size w)
  (h:Row w size (.slice A n c) n xs) (h1:lo≤n):
  ∃ A',(∀ X,(Instr.sliceAt t (.slice A n c) (some (.int .i64 lo)) (some (.int .i64 n)) (some (.int .i64 n))).run P X=.ok (.slice A' (n - lo) (n - lo)) X)∧Row w size (.slice A' (n - lo) (n - lo)) (n - lo) (xs.drop (lo * size)):=by
 have he:P.elem t=e:=by simp [Program.elem,ht]
 have hc:n≤c:=by obtain⟨A',c',e,hc,-⟩:=id h;injection e with e1 e2 e3;omega
 have hr:=Row.slice (Row.capTo h) h1 (Nat.le_refl _);rw[List.take_of_length_le (by rw[List.length_drop,h.len,← Nat.sub_mul];exact Nat.le_refl _)] at hr
 refine⟨_,fun X=>?_,hr⟩;have ht':P.underlying t=some (.slice (P.elem t)):=by rw[he];exact ht
 rw[run_sliceAt_slice X t _ _ _ _ ht',run_slice_lhm X t A n c ht' _ _ _ _ _ _ (by omega) (by omega) (by omega) (by omega),he,hs]
 simp [Result.andThen,sliced]
theorem zco:z0e prog 257 282 2 32:=z0f underlying257 (z:=.agg #[.slice none 0 0,.bool false]) (by kernel_rfl) rfl (by decide)
def zcp (w:World)(p q:Pat)(e:Ending)(w':World):Prop:=Below w.heap.size w w'∧∃ B1 c1 A c,e=.returned (.tuple #[.slice (some B1) 1 c1,.bool true])∧Row w' 2 (.slice (some B1) 1 c1) 1 [.slice A (q.parts.length - p.parts.length) c,.bool true]∧Strs w' (.slice A (q.parts.length - p.parts.length) c) (q.parts.drop p.parts.length)
theorem zcq (p q:Pat)(A B:Option Addr)(a b:Nat)(w:World)(hp:za9 w (.slice A p.parts.length a) p)(hq:za9 w (.slice B q.parts.length b) q)(hn:zcm p)(hqr:q.rest=true)(hqe:z7e q=0)(hw:WiOk q p):
  Calls prog 189 #[.agg #[.slice A p.parts.length a,.bool true],.agg #[.slice B q.parts.length b,.bool true]] w (zcp w p q):=by
 have hA:Below w.heap.size w ((w.alloc (.cells #[.slice A p.parts.length a,.bool true] 97)).alloc (.cells #[.slice B q.parts.length b,.bool true] 97)):=((Below.refl _ _).alloc (Nat.le_refl _) _).alloc (by simp) _
 have h2:zbo ((w.alloc (.cells #[.slice A p.parts.length a,.bool true] 97)).alloc (.cells #[.slice B q.parts.length b,.bool true] 97)) w.heap.size (.slice A p.parts.length a) true:=(z0l w [.slice A p.parts.length a,.bool true] 97).alloc _;have h3:zbo ((w.alloc (.cells #[.slice A p.parts.length a,.bool true] 97)).alloc (.cells #[.slice B q.parts.length b,.bool true] 97)) (w.heap.size+1) (.slice B q.parts.length b) true:=by
  have:=z0l (w.alloc (.cells #[.slice A p.parts.length a,.bool true] 97)) [.slice B q.parts.length b,.bool true] 97;rw[World.size_alloc] at this;exact this
 have HWI:=hd_ (fun X (hX:Below w.heap.size w X)=>zck q p B A b a X (hq.below hX) (hp.below hX) hqr hn.rest hqe hn.pat hw);have HCL:=hd_ (fun X (hX:Below w.heap.size w X)=>zap q.parts _ X (hq.below hX).1 (by have:=zao hqe;omega))
 have hlq:=zao hqe;have hle:=hw.le;have HP:=hd_ hp;have HST:=hd_ hn.star;clear hp hq hw hn hqe hqr;go_enter func189,ntmps189;go_upto_region 1 with fail;generalize (w.alloc (.cells #[.slice A p.parts.length a,.bool true] 97)).alloc (.cells #[.slice B q.parts.length b,.bool true] 97)=W1 at hA h2 h3 ⊢;have x0:=h2.c0;have x1:=h2.c1;have y0:=h3.c0;have y1:=h3.c1;have H:=hd_ (And.intro hA (And.intro h2 h3));have HC1:=hd_ (HWI.out W1 hA);clear hA h2 h3 HWI;go_wp2_with fail;refine HC1.out.mono ?_;rintro e w2 ⟨rfl,hb⟩;have HB:=hd_ (z0r H.out.1 hb);have HG:=hd_ (And.intro (H.out.2.1.low hb) (H.out.2.2.low hb));clear hb x0 x1 y0 y1 H HC1;have y0:=HG.out.2.c0;have HC2:=hd_ (HCL.out w2 HB.out);clear HCL;go_wp2_with fail;refine HC2.out.mono ?_;rintro e w3 ⟨v',rfl,hown,hb⟩;have HB3:=hd_ (z0r HB.out hb);have HG:=hd_ (And.intro (HG.out.1.low hb) (HG.out.2.low hb));have hlow:w.heap.size≤w2.heap.size:=HB.out.size;have HO:=hd_ hown;obtain⟨Av,cv,rfl⟩:=z0o hown;obtain⟨A',hcut,hrow⟩:=zcn (P:=prog) (t:=29) underlying29 zby (Row.of_own hown) hle;rw[Nat.mul_one] at hrow;have HR:=hd_ hrow;clear hb y0 hown hrow HC2;have x0:=HG.out.1.c0;go_wp2_with fail;go_loopw [7,21] (fun bv i wr=>∃ k:Nat,bv=.slice none 0 0∧i=.int .i64 k∧k≤p.parts.length∧Hid (Below w3.heap.size w3 wr)) (fun _ i _=>p.parts.length - (intOf i).toNat)
 case atStart=>exact⟨0,rfl,rfl,Nat.zero_le _,hd_ (Below.refl _ _)⟩
 case round =>
  obtain⟨k,rfl,rfl,hk,HI⟩:=hrel;clear x0;by_cases hlt:k<p.parts.length
  ·obtain⟨ad,rfl,hab,s0⟩:=Strs.at_ (HP.out.below (z0r HB3.out HI.out)).1 hlt;have HC:=hd_ (fun X=>z7k p.parts[k] X);rw[HST.out _ (List.getElem_mem _)] at HC;generalize p.parts[k]=s at s0 HC;have HLT:=hd_ hlt;clear hab;go_wp2_with (go_at_call 110;refine (HC.out _).mono ?_;rintro e w' ⟨rfl,rfl⟩)
   go_roundw
   case rel=>exact⟨k+1,rfl,by go_num,by omega,HI⟩
   case measure=>simp [intOf];omega
  ·have hke:k=p.parts.length:=by omega
   subst hke;have HG4:=hd_ (And.intro (HG.out.1.low HI.out) (HG.out.2.low HI.out));have HB4:=hd_ (z0r HB3.out HI.out);have HR4:=hd_ (Row.below HR.out HI.out);have hge:¬((p.parts.length:Int)<(p.parts.length:Int)):=by omega
   have x0:=HG4.out.1.c0;have x1:=HG4.out.1.c1;have y1:=HG4.out.2.c1;clear HG HB3 HO HR HB;go_upto_region 14 with fail;refine wp_region_noPanic ?_;go_region_law (refine zce rfl rfl zco (World.ownsRow_nil _ wr.heap.size _ _) (by simp [Act.eval,Act.put]) (Row.drewN (z0i wr [.slice A' (q.parts.length - p.parts.length) (q.parts.length - p.parts.length),.bool true] _ 2 1 rfl (by decide) _ rfl) 1) (by simp [Act.eval,Act.put]) (by simp [Value.oneCell']) (by decide) (by decide) (by simp) ?_;intro A6 c6 w6 hO6 hG6 hw6)
   all_goals
    refine NoPanic.normal ?_;have HO6:=hd_ hO6;have HG6:=hd_ hG6;clear hO6 hG6 hw6;have hk:=‹∀(a:Act) (w:World),Code.wp _ _ _ a w→_›;refine hk _ _ ?_;clear hk;go_wp2_with fail;go_ret2;have hb6:Below wr.heap.size wr w6:=(((Below.refl _ _).alloc (Nat.le_refl _) _).drew).grown HG6.out (by simp) (fun k e=>by cases e)
    have hR6:=Row.of_own HO6.out;obtain⟨A9,c9,e9,-,-,-,-,hx9⟩:=id hR6;obtain⟨ad9,rfl,-⟩:=hx9 (by omega)
    injection e9 with e9 _ e10
    subst e9 e10;exact⟨z0r HB4.out hb6,ad9,_,A',_,rfl,hR6,by
     show Row w6 1 _ (List.drop p.parts.length q.parts).length _
     rw[List.length_drop,List.map_drop];exact Row.below HR4.out hb6⟩
open Go.Sort (grow)
section
variable {u0 u1 u2 u3 u4 u5 u6 u7 u8 u9 gn gt gu gx gy gz gA gC gD gE gF gG gH gI gJ gK gL gM gN gO gP gQ gR gT gV gW gX gY gZ i6 i7 i8 ia ib ic ie ig ii ij ik il im io ip iq ir iu iv iw ix iy iz iA iB iC iD iE iF iG iH iI iJ iK iL iM iN iO iP iQ iR iS iT iU iV iW : Value}
theorem zio (w:World):(sizeOf 44).run prog w=.ok 3 w:=by kernel_rfl
theorem z4b.head {w:World}{A:Option Addr}{c n:Nat}{x:Hav}{r:List Hav}(h:z4b w (.slice A n c) (x :: r)):
  n=r.length+1∧∃ ad,A=some ad∧ad.block<w.heap.size∧z4c w ad x:=by
 have hn:n=(x :: r).length:=by obtain⟨A',c',e,-⟩:=id h;injection e
 subst hn;obtain⟨ad,e,hb,hc⟩:=z4b.at_ (k:=0) h (by simp)
 refine⟨rfl,ad,e,hb,?_⟩;have:ad.add (0 * 3)=ad:=by unfold Addr.add;simp
 rw[this] at hc;exact hc
theorem z4b.tail {w:World}{A:Option Addr}{c n:Nat}{x:Hav}{r:List Hav}(h:z4b w (.slice A n c) (x :: r)):
  ∃ A' c',(∀ X,(Instr.sliceAt 28 (.slice A n c) (some (.int .i64 1)) none none).run prog X=.ok (.slice A' r.length c') X)∧z4b w (.slice A' r.length c') r:=by
 have hn:n=(x :: r).length:=by obtain⟨A',c',e,-⟩:=id h;injection e
 subst hn;obtain⟨A',c',h1,h2⟩:=zbz (P:=prog) (w:=w) underlying28 zio h (by simp)
 exact⟨A',c',h1,h2⟩
theorem ziq (x y:Hav)(W:World):(binOp .eql 44 (.agg #[.string x.path,.int .i64 x.num,.string x.loc]) (.agg #[.string y.path,.int .i64 y.num,.string y.loc])).run prog W=.ok (.bool (decide (x=y))) W:=by
 obtain⟨a,b,c⟩:=x;obtain⟨d,e,f⟩:=y;rw[run_eql_struct,run_equalIn_agg W 9999 44 _ _ (by kernel_rfl) (by kernel_rfl)]
 simp [go_sem,Op.eqFields,ze7]
 by_cases h1:a=d <;> by_cases h2:b=e <;> by_cases h3:c=f <;> simp [h1,h2,h3]
theorem z6t.set (w:World)(g i:Nat)(u:Value):z6t [g] w (w.setCell ⟨g,i,none⟩ u):=z6t.grown (z6u w g i u) (by simp)
theorem z6t.drew {S:List Nat}{w w':World}(h:z6t S w w'):z6t S w w'.drew:=h.trans (z6t.below (Below.refl _ _).drew)
theorem zir (ops:Array Oper)(hops:Tryz.f34.body.bind (zci 12)=some ops)(Q:Exit→Act→World→Prop)(V1:World)(ad:Addr)(n c g7:Nat)(h:Hav)(v0 v1 v2 v3 v4:Value)(hh:z4c V1 ad h)(hB:Blk V1 g7 48 [v0,v1,v2,v3,v4])(hn:0<n)
  (hQ:∀(eY eZ fa fd fe ff fg fh fj fk:Value) (w':World),z6t [g7] V1 w'→Blk w' g7 48 [v0,.string h.path,v2,.string h.loc,v4]→Q .normal ⟨#[.slice (some ad) n c,u1,u2,u3,u4,u5,u6,.pointer (some ⟨g7,0,none⟩),u8,u9,gn,gt,gu,gx,gy,gz,gA,gC,gD,gE,gF,gG,gH,gI,gJ,gK,gL,gM,gN,gO,gP,gQ,gR,gT,gV,gW,gX,gY,gZ,i6,i7,i8,ia,ib,ic,ie,ig,eY,eZ,fa,fd,fe,ff,fg,fh,fj,fk,iv,iw,ix,iy,iz,iA,iB,iC,iD,iE,iF,iG,iH,iI,iJ,iK,iL,iM,iN,iO,iP,iQ,iR,iS,iT,iU,iV,iW],[]⟩ w'):
  (Code.region 12 ops true).wp prog Q ⟨#[.slice (some ad) n c,u1,u2,u3,u4,u5,u6,.pointer (some ⟨g7,0,none⟩),u8,u9,gn,gt,gu,gx,gy,gz,gA,gC,gD,gE,gF,gG,gH,gI,gJ,gK,gL,gM,gN,gO,gP,gQ,gR,gT,gV,gW,gX,gY,gZ,i6,i7,i8,ia,ib,ic,ie,ig,ii,ij,ik,il,im,io,ip,iq,ir,iu,iv,iw,ix,iy,iz,iA,iB,iC,iD,iE,iF,iG,iH,iI,iJ,iK,iL,iM,iN,iO,iP,iQ,iR,iS,iT,iU,iV,iW],[]⟩ V1:=by
 simp only[Tryz.f34,Option.bind_some,zci] at hops
 simp at hops
 subst hops;obtain⟨x0,x1,x2⟩:=hh;have y1:V1.cell? ⟨g7,1,none⟩=some v1:=hB.cell 1;have y3:V1.cell? ⟨g7,3,none⟩=some v3:=hB.cell 3;have f1:V1.frozen? ⟨g7,1,none⟩=false:=hB.frozen 1;have f3:V1.frozen? ⟨g7,3,none⟩=false:=hB.frozen 3;have hz:(0:Int)<(n:Int):=by omega
 have HQ:=hd_ hQ;have HB:=hd_ hB;clear hQ hB;refine wp_region_noPanic ?_;go_region_law (fail)
 all_goals exact NoPanic.normal (HQ.out _ _ _ _ _ _ _ _ _ _ _ (((z6t.set V1 g7 1 (.string h.path)).trans (z6t.set _ g7 3 (.string h.loc))).drew) ((HB.out.set_ 1 (.string h.path)).set_ 3 (.string h.loc)))
theorem zis (ops:Array Oper)(hops:Tryz.f34.body.bind (zci 15)=some ops)(Q:Exit→Act→World→Prop)(V1:World)(ad:Addr)(n c g7:Nat)(h:Hav)(v0 v1 v2 v3 v4:Value)(hh:z4c V1 ad h)(hB:Blk V1 g7 48 [v0,v1,v2,v3,v4])(hn:0<n)(hne:ad.block≠g7)
  (hQ:∀(fu fv fw fx fy fA fB fC fD fE fF fG fH fI fJ:Value) (w':World),z6t [g7] V1 w'→Blk w' g7 48 [v0,.string h.path,.int .i64 h.num,v3,.string h.loc]→Q .normal ⟨#[u0,.slice (some ad) n c,u2,u3,u4,u5,u6,.pointer (some ⟨g7,0,none⟩),u8,u9,gn,gt,gu,gx,gy,gz,gA,gC,gD,gE,gF,gG,gH,gI,gJ,gK,gL,gM,gN,gO,gP,gQ,gR,gT,gV,gW,gX,gY,gZ,i6,i7,i8,ia,ib,ic,ie,ig,ii,ij,ik,il,im,io,ip,iq,ir,iu,iv,iw,ix,iy,fu,fv,fw,fx,fy,fA,fB,fC,fD,fE,fF,fG,fH,fI,fJ,iO,iP,iQ,iR,iS,iT,iU,iV,iW],[]⟩ w'):
  (Code.region 15 ops true).wp prog Q ⟨#[u0,.slice (some ad) n c,u2,u3,u4,u5,u6,.pointer (some ⟨g7,0,none⟩),u8,u9,gn,gt,gu,gx,gy,gz,gA,gC,gD,gE,gF,gG,gH,gI,gJ,gK,gL,gM,gN,gO,gP,gQ,gR,gT,gV,gW,gX,gY,gZ,i6,i7,i8,ia,ib,ic,ie,ig,ii,ij,ik,il,im,io,ip,iq,ir,iu,iv,iw,ix,iy,iz,iA,iB,iC,iD,iE,iF,iG,iH,iI,iJ,iK,iL,iM,iN,iO,iP,iQ,iR,iS,iT,iU,iV,iW],[]⟩ V1:=by
 simp only[Tryz.f34,Option.bind_some,zci] at hops
 simp at hops
 subst hops;obtain⟨x0,x1,x2⟩:=hh;have y1:V1.cell? ⟨g7,1,none⟩=some v1:=hB.cell 1;have y2:V1.cell? ⟨g7,2,none⟩=some v2:=hB.cell 2;have y4:V1.cell? ⟨g7,4,none⟩=some v4:=hB.cell 4;have f1:V1.frozen? ⟨g7,1,none⟩=false:=hB.frozen 1;have f2:V1.frozen? ⟨g7,2,none⟩=false:=hB.frozen 2;have f4:V1.frozen? ⟨g7,4,none⟩=false:=hB.frozen 4;have hz:(0:Int)<(n:Int):=by omega
 have n1:¬(ad.block=g7):=hne;have n2:¬(g7=ad.block):=fun e=>hne e.symm;have HQ:=hd_ hQ;have HB:=hd_ hB;clear hQ hB;refine wp_region_noPanic ?_;go_region_law (fail)
 all_goals exact NoPanic.normal (HQ.out _ _ _ _ _ _ _ _ _ _ _ _ _ _ _ _ ((((z6t.set V1 g7 1 (.string h.path)).trans (z6t.set _ g7 2 (.int .i64 h.num))).trans (z6t.set _ g7 4 (.string h.loc))).drew) (((HB.out.set_ 1 (.string h.path)).set_ 2 (.int .i64 h.num)).set_ 4 (.string h.loc)))
end
section
variable {u0 u1 u2 u3 u4 u5 u6 u7 u8 u9 gn gt gu gx gy gz gA gC gD gE gF gG gH gI gJ gK gL gM gN gO gP gQ gR gT gV gW gX gY gZ i6 i7 i8 ia ib ic ie ig ii ij ik il im io ip iq ir iu iv iw ix iy iz iA iB iC iD iE iF iG iH iI iJ iK iL iM iN iO iP iQ iR iS iT iU iV iW : Value}
theorem zit:z0e prog 35 48 5 64:=z0f underlying35 (z:=.agg #[.int .i64 0,.string ⟨#[]⟩,.int .i64 0,.string ⟨#[]⟩,.string ⟨#[]⟩]) (by kernel_rfl) rfl (by decide)
theorem ziu (x:Syn):∀ v∈x.cells,v.oneCell'=true:=by
 intro v hv;simp only[Syn.cells,List.mem_cons,List.not_mem_nil,or_false] at hv
 rcases hv with rfl | rfl | rfl | rfl | rfl <;> rfl
theorem z6t.to_grown {g:Nat}{w w':World}(h:z6t [g] w w'):w.grownBy w' (some g):=⟨h.os,h.tape,h.output,h.size,fun k hk hne=>h.block k hk (by intro e;rw[List.mem_singleton] at e;exact hne (by rw[e]))⟩
def ziv:Value→Nat
 | .slice _ n _=>n
 | _=>0
structure DfSt (w wr:World)(hs ws:List Hav)(hv wv pv:Value)(hs' ws':List Hav)(done:List Syn):Prop where
 low:Below w.heap.size w wr
 h:z4b w hv hs'
 v:z4b w wv ws'
 own:wr.ownsRow w.heap.size 48 5 pv done.length (done.flatMap Syn.cells)
 sub:(∀ x∈hs',x∈hs)∧∀ x∈ws',x∈ws
 len:done.length+(hs'.length+ws'.length)≤hs.length+ws.length
 is:∃ n,hs'.length+ws'.length≤n∧done++z6h n hs' ws'=z6h (hs.length+ws.length) hs ws
theorem DfSt.next {w wr w8:World}{hs ws:List Hav}{hv wv pv hv' wv':Value}{hs' ws' hs2 ws2:List Hav}{done:List Syn}{x:Syn}{A':Option Addr}{c':Nat}(h:DfSt w wr hs ws hv wv pv hs' ws' done)
  (hb:Below w.heap.size w w8) (ho:w8.ownsRow w.heap.size 48 5 (.slice A' (done.length+1) c') (done.length+1) (done.flatMap Syn.cells++x.cells))
  (h2:z4b w hv' hs2) (v2:z4b w wv' ws2) (s1:∀ x∈hs2,x∈hs') (s2:∀ x∈ws2,x∈ws') (hl:hs2.length+ws2.length<hs'.length+ws'.length) (he:∀ n,z6h (n+1) hs' ws'=x :: z6h n hs2 ws2):
  DfSt w w8 hs ws hv' wv' (.slice A' (done.length+1) c') hs2 ws2 (done++[x]):=by
 refine⟨hb,h2,v2,?_,⟨fun y hy=>h.sub.1 y (s1 y hy),fun y hy=>h.sub.2 y (s2 y hy)⟩,by rw[List.length_append,List.length_singleton];have:=h.len;omega,?_⟩
 ·rw[List.length_append,List.length_singleton,z56];exact ho
 ·obtain⟨n,hn,e⟩:=h.is;cases n with
  | zero=>omega
  | succ n=>exact⟨n,by omega,by rw[← e,he,List.append_assoc];rfl⟩
theorem DfSt.same {w wr w8:World}{hs ws:List Hav}{hv wv pv hv' wv':Value}{hs' ws' hs2 ws2:List Hav}{done:List Syn}(h:DfSt w wr hs ws hv wv pv hs' ws' done)
  (hb:Below w.heap.size w w8) (ho:w8.ownsRow w.heap.size 48 5 pv done.length (done.flatMap Syn.cells))
  (h2:z4b w hv' hs2) (v2:z4b w wv' ws2) (s1:∀ x∈hs2,x∈hs') (s2:∀ x∈ws2,x∈ws') (hl:hs2.length+ws2.length<hs'.length+ws'.length) (he:∀ n,z6h (n+1) hs' ws'=z6h n hs2 ws2):
  DfSt w w8 hs ws hv' wv' pv hs2 ws2 done:=by
 refine⟨hb,h2,v2,ho,⟨fun y hy=>h.sub.1 y (s1 y hy),fun y hy=>h.sub.2 y (s2 y hy)⟩,by have:=h.len;omega,?_⟩
 obtain⟨n,hn,e⟩:=h.is;cases n with
 | zero=>omega
 | succ n=>exact⟨n,by omega,by rw[← e,he]⟩
theorem z4b.tail2 {w:World}{ad:Addr}{c n:Nat}{x:Hav}{r:List Hav}(h:z4b w (.slice (some ad) n c) (x :: r)):
  z4b w (.slice (if c=1 then some ad else some ⟨ad.block,ad.off+3,none⟩) r.length (c - 1)) r:=by
 obtain⟨A,c',e,h1,h2,h3,h4,h5⟩:=id h;injection e with e1 e2 e3
 subst e1 e3;rw[List.length_cons] at h1 h5;refine⟨_,_,rfl,by omega,by omega,by
  rw[List.flatMap_cons,List.length_append,List.length_cons] at h3;have h9:x.cells.length=3:=rfl;omega,?_,fun hr=>?_⟩
 ·intro hn;split at hn <;> cases hn
 obtain⟨ad',e',hb,hc⟩:=h5 (by omega)
 injection e' with e'
 subst e';rw[if_neg (by omega)]
 refine⟨_,rfl,hb,fun j u hj=>?_⟩;have:=hc (j+3) u (by
  rw[List.flatMap_cons,List.getElem?_append_right (by simp [Hav.cells])]
  simpa [Hav.cells] using hj)
 unfold Addr.add at this ⊢
 by_cases h0:j=0
 ·subst h0;simpa using this
 ·simpa [Nat.add_assoc,Nat.add_comm 3 j,h0] using this
theorem z4c.below {w w':World}{ad:Addr}{x:Hav}(h:z4c w ad x)(hab:ad.block<w.heap.size)(hb:Below w.heap.size w w'):z4c w' ad x:=
 ⟨(hb.cell hab).trans h.1,(hb.cell (p:=⟨ad.block,ad.off+1,none⟩) hab).trans h.2.1,(hb.cell (p:=⟨ad.block,ad.off+2,none⟩) hab).trans h.2.2⟩
theorem dfR4 (ops:Array Oper)(hops:Tryz.f34.body.bind (zci 4)=some ops)(Q:Exit→Act→World→Prop)(V1:World)(ad ad2:Addr)(n c n2 c2:Nat)(x y:Hav)(hx:z4c V1 ad x)(hy:z4c V1 ad2 y)(hn:0<n)(hn2:0<n2)(h1:x.path.size≤1000000)(h2:y.path.size≤1000000)
  (hQ:∀(en eo er et eu ez eA eB eC:Value) (w':World),Below V1.heap.size V1 w'→Q .normal ⟨#[.slice (some ad) n c,.slice (some ad2) n2 c2,u2,u3,u4,u5,.int .i64 (z2u x.path y.path),u7,u8,u9,gn,gt,gu,gx,gy,gz,gA,en,eo,er,et,eu,ez,eA,eB,eC,gL,gM,gN,gO,gP,gQ,gR,gT,gV,gW,gX,gY,gZ,i6,i7,i8,ia,ib,ic,ie,ig,ii,ij,ik,il,im,io,ip,iq,ir,iu,iv,iw,ix,iy,iz,iA,iB,iC,iD,iE,iF,iG,iH,iI,iJ,iK,iL,iM,iN,iO,iP,iQ,iR,iS,iT,iU,iV,iW],[]⟩ w'):
  (Code.region 4 ops true).wp prog Q ⟨#[.slice (some ad) n c,.slice (some ad2) n2 c2,u2,u3,u4,u5,u6,u7,u8,u9,gn,gt,gu,gx,gy,gz,gA,gC,gD,gE,gF,gG,gH,gI,gJ,gK,gL,gM,gN,gO,gP,gQ,gR,gT,gV,gW,gX,gY,gZ,i6,i7,i8,ia,ib,ic,ie,ig,ii,ij,ik,il,im,io,ip,iq,ir,iu,iv,iw,ix,iy,iz,iA,iB,iC,iD,iE,iF,iG,iH,iI,iJ,iK,iL,iM,iN,iO,iP,iQ,iR,iS,iT,iU,iV,iW],[]⟩ V1:=by
 simp only[Tryz.f34,Option.bind_some,zci] at hops
 simp at hops
 subst hops;obtain⟨x0,-,-⟩:=hx;obtain⟨y0,-,-⟩:=hy;have hz:(0:Int)<(n:Int):=by omega
 have hz2:(0:Int)<(n2:Int):=by omega
 have HQ:=hd_ hQ;have HC:=hd_ (fun X=>z41 x.path y.path X (by omega) (by omega))
 generalize x.path=a at x0 HC HQ;generalize y.path=b at y0 HC HQ;generalize z2u a b=cc at HC HQ;clear hQ h1 h2;refine wp_region_noPanic ?_;go_region_law (go_simp;go_at_call 45;refine (HC.out _).mono ?_;rintro e w5 ⟨rfl,n5,rfl⟩)
 all_goals exact NoPanic.normal (HQ.out _ _ _ _ _ _ _ _ _ _ (zqq V1 _))
theorem df7 {w WR:World}{v:Value}{n:Nat}{xs:List Value}(hl:Below w.heap.size w WR)(ho:WR.ownsRow w.heap.size 48 5 v n xs):
  ∃ W7 g7,WR.alloc (.cells #[.int .i64 0,.string ⟨#[]⟩,.int .i64 0,.string ⟨#[]⟩,.string ⟨#[]⟩] 48)=W7∧WR.heap.size=g7∧Hid (Below w.heap.size w W7)∧Hid (W7.ownsRow w.heap.size 48 5 v n xs)∧Hid (Blk W7 g7 48 [.int .i64 0,.string ⟨#[]⟩,.int .i64 0,.string ⟨#[]⟩,.string ⟨#[]⟩])∧Hid (w.heap.size≤g7∧∀ k,v.ownBlock=some k→k<g7):=
 ⟨_,_,rfl,rfl,hl.alloc hl.size _,z0n ho ((Below.refl WR.heap.size WR).alloc (Nat.le_refl _) _),z0l WR _ _,hl.size,fun k e=>(ho.lt k e).2⟩
theorem df8 {w W7:World}{v:Value}{n g7:Nat}{xs cs:List Value}(nq:Nat)(hl:Below w.heap.size w W7)(ho:W7.ownsRow w.heap.size 48 5 v n xs)(hb:Blk W7 g7 48 cs):
  ∃ W8,W7.drewN nq=W8∧Hid (Below w.heap.size w W8)∧Hid (W8.ownsRow w.heap.size 48 5 v n xs)∧Hid (Blk W8 g7 48 cs):=
 ⟨_,rfl,hl.trans ((zqq W7 nq).mono hl.size),ho,hb⟩
theorem df9 {w W8 W9:World}{v a b c d e:Value}{n g7:Nat}{xs:List Value}(hK:z6t [g7] W8 W9)(hB:Blk W9 g7 48 [a,b,c,d,e])(hg:w.heap.size≤g7∧∀ k,v.ownBlock=some k→k<g7)(hl:Below w.heap.size w W8)(ho:W8.ownsRow w.heap.size 48 5 v n xs):
  (W9.cell? ⟨g7,0,none⟩=some a∧W9.cell? ⟨g7,1,none⟩=some b∧W9.cell? ⟨g7,2,none⟩=some c∧W9.cell? ⟨g7,3,none⟩=some d∧W9.cell? ⟨g7,4,none⟩=some e)∧Hid ((W9.alloc (.cells #[a,b,c,d,e] 48)).ownsRow w.heap.size 48 5 v n xs)∧Hid (Below w.heap.size w (W9.alloc (.cells #[a,b,c,d,e] 48))) ∧
  Row (W9.alloc (.cells #[a,b,c,d,e] 48)) 5 (.slice (some ⟨W9.heap.size,0,none⟩) 1 1) 1 [a,b,c,d,e]:=by
 have h1:=z4q ho hK.to_grown (fun k e e2=>by injection e2 with e2;have:=hg.2 k e;omega)
 have h2:=hl.trans (hK.to_below (fun s hs=>by rw[List.mem_singleton] at hs;have:=hg.1;omega) hl.size)
 exact⟨⟨hB.cell 0,hB.cell 1,hB.cell 2,hB.cell 3,hB.cell 4⟩,z0n h1 ((Below.refl W9.heap.size W9).alloc (Nat.le_refl _) _),h2.alloc h2.size _,z0i W9 [a,b,c,d,e] 48 5 1 rfl (by decide) _ rfl⟩
theorem ziw (hs ws:List Hav)(hv wv:Value)(w:World)(hH:z4b w hv hs)(hW:z4b w wv ws)(hz:∀ x∈hs,x.path.size≤1000000)(hz2:∀ x∈ws,x.path.size≤1000000)(hl:hs.length+ws.length≤1000000):
  Calls prog 34 #[hv,wv] w fun e w'=>∃ v,e=.returned v∧w'.ownsRow w.heap.size 48 5 v (z6h (hs.length+ws.length) hs ws).length ((z6h (hs.length+ws.length) hs ws).flatMap Syn.cells)∧Below w.heap.size w w':=by
 have HZ:=hd_ hz;have HZ2:=hd_ hz2;have HS0:Hid (DfSt w w hs ws hv wv (.slice none 0 0) hs ws []):=hd_ ⟨Below.refl _ _,hH,hW,World.ownsRow_nil _ _ _ _,⟨fun _ h=>h,fun _ h=>h⟩,by simp,_,Nat.le_refl _,rfl⟩
 clear hH hW hz hz2;go_enter func34,ntmps34;go_wp2_with fail;go_loopw [0,1,5] (fun a b p wr=>∃(hs' ws':List Hav) (done:List Syn),Hid (DfSt w wr hs ws a b p hs' ws' done)) (fun a b _ _=>ziv a+ziv b)
 case atStart=>exact⟨hs,ws,[],HS0⟩
 case round =>
  obtain⟨hs',ws',done,HI⟩:=hrel;clear HS0;obtain⟨A1,c1,rfl,-⟩:=id HI.out.h;obtain⟨A2,c2,rfl,-⟩:=id HI.out.v;obtain⟨A3,c3,rfl⟩:=z0o HI.out.own;have hdl:done.length+(hs'.length+ws'.length)≤1000000:=by have:=HI.out.len;omega
  have HSZ:=hd_ (Nat.le_trans HI.out.low.size (Nat.le_refl _));cases hs' with
  | nil =>
   cases ws' with
   | nil =>
    have HEND:Hid (done=z6h (hs.length+ws.length) hs ws):=hd_ (by
     obtain⟨n,-,e⟩:=HI.out.is;rw[← e];cases n <;> simp [z6h])
    go_wp2_with fail;go_ret;refine⟨_,rfl,?_,HI.out.low⟩;rw[← HEND.out];exact HI.out.own
   | cons y yr =>
    obtain⟨-,ad2,rfl,hab2,hY⟩:=z4b.head HI.out.v;have hTY:=z4b.tail2 HI.out.v;have HYB:Hid (z4c w ad2 y∧ad2.block<w.heap.size):=hd_ ⟨hY,hab2⟩;have HTY:=hd_ hTY;clear hab2 hY hTY;have HLR:=hd_ HI.out.low;have HOR:=hd_ HI.out.own;obtain⟨WR,hWR⟩:∃ X,X=wr:=⟨_,rfl⟩;subst hWR;go_upto_region 10 with fail;obtain⟨W7,g7,e7,f7,HL7,HO7,HB7,HG7⟩:=df7 HLR.out HOR.out;rw[e7,f7];clear e7 f7;go_quiet (fail)
    go_upto_region 15 with fail;obtain⟨W8,e8,HL8,HO8,HB8⟩:=df8 nq HL7.out HO7.out HB7.out;rw[e8];clear e8;refine zis _ (by kernel_rfl) _ W8 ad2 (yr.length+1) c2 g7 y _ _ _ _ _ (HYB.out.1.below HYB.out.2 HL8.out) HB8.out (by omega) (fun e=>by have h1:ad2.block<w.heap.size:=HYB.out.2;have h2:=HG7.out.1;omega) ?_
    intro fu fv fw fx fy fA fB fC fD fE fF fG fH fI fJ W9 hK hB;obtain⟨⟨b0,b1,b2,b3,b4⟩,HOX,HLX,hrow⟩:=df9 hK hB HG7.out HL8.out HO8.out;clear hK hB;go_wp2_with (at_builtin;refine z0k rfl rfl zit HOX.out rfl hrow rfl HLX.out HLX.out.size (ziu (z6f y)) (by omega) (by unfold maxLen;omega) ?_;intro A9 c9 w9 hown9 hbl9)
    have HN:=hd_ (HI.out.next (x:=z6f y) hbl9 hown9 HI.out.h HTY.out (fun z hz=>hz) (fun z hz=>List.mem_cons_of_mem _ hz) (by simp only[List.length_cons,List.length_nil];omega) (fun n=>rfl))
    clear hown9 hbl9;go_wp2_with fail;go_roundw
    case rel=>exact⟨[],yr,done++[z6f y],HN⟩
    case measure=>first | (simp [ziv];done) | (simp [ziv];omega)
  | cons x hr =>
   cases ws' with
   | nil =>
    obtain⟨-,ad,rfl,hab,hX⟩:=z4b.head HI.out.h;have hTX:=z4b.tail2 HI.out.h;have HXB:Hid (z4c w ad x∧ad.block<w.heap.size):=hd_ ⟨hX,hab⟩;have HTX:=hd_ hTX;clear hab hX hTX;have HLR:=hd_ HI.out.low;have HOR:=hd_ HI.out.own;obtain⟨WR,hWR⟩:∃ X,X=wr:=⟨_,rfl⟩;subst hWR;go_upto_region 10 with fail;obtain⟨W7,g7,e7,f7,HL7,HO7,HB7,HG7⟩:=df7 HLR.out HOR.out;rw[e7,f7];clear e7 f7;go_quiet (fail)
    go_upto_region 12 with fail;obtain⟨W8,e8,HL8,HO8,HB8⟩:=df8 nq HL7.out HO7.out HB7.out;rw[e8];clear e8;refine zir _ (by kernel_rfl) _ W8 ad (hr.length+1) c1 g7 x _ _ _ _ _ (HXB.out.1.below HXB.out.2 HL8.out) HB8.out (by omega) ?_
    intro eY eZ fa fd fe ff fg fh fj fk W9 hK hB;obtain⟨⟨b0,b1,b2,b3,b4⟩,HOX,HLX,hrow⟩:=df9 hK hB HG7.out HL8.out HO8.out;clear hK hB;go_wp2_with (at_builtin;refine z0k rfl rfl zit HOX.out rfl hrow rfl HLX.out HLX.out.size (ziu (z6g x)) (by omega) (by unfold maxLen;omega) ?_;intro A9 c9 w9 hown9 hbl9)
    have HN:=hd_ (HI.out.next (x:=z6g x) hbl9 hown9 HTX.out HI.out.v (fun z hz=>List.mem_cons_of_mem _ hz) (fun z hz=>hz) (by simp only[List.length_cons,List.length_nil];omega) (fun n=>rfl))
    clear hown9 hbl9;go_wp2_with fail;go_roundw
    case rel=>exact⟨hr,[],done++[z6g x],HN⟩
    case measure=>first | (simp [ziv];done) | (simp [ziv];omega)
   | cons y yr =>
    obtain⟨-,ad,rfl,hab,hX⟩:=z4b.head HI.out.h;have hTX:=z4b.tail2 HI.out.h;have HXB:Hid (z4c w ad x∧ad.block<w.heap.size):=hd_ ⟨hX,hab⟩;have HTX:=hd_ hTX;clear hab hX hTX;obtain⟨-,ad2,rfl,hab2,hY⟩:=z4b.head HI.out.v;have hTY:=z4b.tail2 HI.out.v;have HYB:Hid (z4c w ad2 y∧ad2.block<w.heap.size):=hd_ ⟨hY,hab2⟩;have HTY:=hd_ hTY;clear hab2 hY hTY;have hzx:x.path.size≤1000000:=HZ.out x (HI.out.sub.1 x (List.mem_cons_self ..));have hzy:y.path.size≤1000000:=HZ2.out y (HI.out.sub.2 y (List.mem_cons_self ..));go_upto_region 4 with fail;refine dfR4 _ (by kernel_rfl) _ wr ad ad2 (hr.length+1) c1 (yr.length+1) c2 x y (HXB.out.1.below HXB.out.2 HI.out.low) (HYB.out.1.below HYB.out.2 HI.out.low) (by omega) (by omega) hzx hzy ?_
    intro en eo er et eu ez eA eB eC WR hb4;have HLR:=hd_ (z0r HI.out.low hb4);have HOR:=hd_ (z0n HI.out.own hb4);clear hb4 hzx hzy;obtain⟨cc,hcc⟩:∃ cc,z2u x.path y.path=cc:=⟨_,rfl⟩;rw[hcc];by_cases h1:cc<0
    ·have q1:(cc == 0)=false:=by rw[beq_eq_false_iff_ne];omega
     have q2:decide (cc≤0)=true:=by simp;omega
     have q3:decide (0≤cc)=false:=by simp;omega
     have HCC:Hid (z2u x.path y.path<0):=hd_ (by rw[hcc];exact h1)
     clear hcc h1;go_upto_region 10 with fail;obtain⟨W7,g7,e7,f7,HL7,HO7,HB7,HG7⟩:=df7 HLR.out HOR.out;rw[e7,f7];clear e7 f7;go_quiet (fail)
     go_upto_region 12 with fail;obtain⟨W8,e8,HL8,HO8,HB8⟩:=df8 nq HL7.out HO7.out HB7.out;rw[e8];clear e8;refine zir _ (by kernel_rfl) _ W8 ad (hr.length+1) c1 g7 x _ _ _ _ _ (HXB.out.1.below HXB.out.2 HL8.out) HB8.out (by omega) ?_
     intro eY eZ fa fd fe ff fg fh fj fk W9 hK hB;obtain⟨⟨b0,b1,b2,b3,b4⟩,HOX,HLX,hrow⟩:=df9 hK hB HG7.out HL8.out HO8.out;clear hK hB;go_wp2_with (at_builtin;refine z0k rfl rfl zit HOX.out rfl hrow rfl HLX.out HLX.out.size (ziu (z6g x)) (by omega) (by unfold maxLen;omega) ?_;intro A9 c9 w9 hown9 hbl9)
     have HN:=hd_ (HI.out.next (x:=z6g x) hbl9 hown9 HTX.out HI.out.v (fun z hz=>List.mem_cons_of_mem _ hz) (fun z hz=>hz) (by simp only[List.length_cons,List.length_nil];omega) (fun n=>by simp only[z6h];rw[if_pos HCC.out]))
     clear hown9 hbl9;go_wp2_with fail;go_roundw
     case rel=>exact⟨hr,(y :: yr),done++[z6g x],HN⟩
     case measure=>first | (simp [ziv];done) | (simp [ziv];omega)
    ·by_cases h2:0<cc
     ·have q1:(cc == 0)=false:=by rw[beq_eq_false_iff_ne];omega
      have q2:decide (cc≤0)=false:=by simp;omega
      have q3:decide (0≤cc)=true:=by simp;omega
      have HCC:Hid (¬ z2u x.path y.path<0∧0<z2u x.path y.path):=hd_ (by rw[hcc];exact⟨h1,h2⟩)
      clear hcc h1 h2;go_upto_region 10 with fail;obtain⟨W7,g7,e7,f7,HL7,HO7,HB7,HG7⟩:=df7 HLR.out HOR.out;rw[e7,f7];clear e7 f7;go_quiet (fail)
      go_upto_region 15 with fail;obtain⟨W8,e8,HL8,HO8,HB8⟩:=df8 nq HL7.out HO7.out HB7.out;rw[e8];clear e8;refine zis _ (by kernel_rfl) _ W8 ad2 (yr.length+1) c2 g7 y _ _ _ _ _ (HYB.out.1.below HYB.out.2 HL8.out) HB8.out (by omega) (fun e=>by have h1:ad2.block<w.heap.size:=HYB.out.2;have h2:=HG7.out.1;omega) ?_
      intro fu fv fw fx fy fA fB fC fD fE fF fG fH fI fJ W9 hK hB;obtain⟨⟨b0,b1,b2,b3,b4⟩,HOX,HLX,hrow⟩:=df9 hK hB HG7.out HL8.out HO8.out;clear hK hB;go_wp2_with (at_builtin;refine z0k rfl rfl zit HOX.out rfl hrow rfl HLX.out HLX.out.size (ziu (z6f y)) (by omega) (by unfold maxLen;omega) ?_;intro A9 c9 w9 hown9 hbl9)
      have HN:=hd_ (HI.out.next (x:=z6f y) hbl9 hown9 HI.out.h HTY.out (fun z hz=>hz) (fun z hz=>List.mem_cons_of_mem _ hz) (by simp only[List.length_cons,List.length_nil];omega) (fun n=>by simp only[z6h];rw[if_neg HCC.out.1,if_pos HCC.out.2]))
      clear hown9 hbl9;go_wp2_with fail;go_roundw
      case rel=>exact⟨(x :: hr),yr,done++[z6f y],HN⟩
      case measure=>first | (simp [ziv];done) | (simp [ziv];omega)
     ·have HCC:Hid (¬ z2u x.path y.path<0∧¬ 0<z2u x.path y.path):=hd_ (by rw[hcc];exact⟨h1,h2⟩)
      obtain rfl:cc=0:=by omega
      clear hcc h1 h2;by_cases hxy:x=y
      ·go_upto_region 10 with fail;obtain⟨W7,g7,e7,f7,HL7,HO7,HB7,HG7⟩:=df7 HLR.out HOR.out;rw[e7,f7];clear e7 f7;obtain⟨x0,x1,x2⟩:=HXB.out.1.below HXB.out.2 HL7.out;obtain⟨y0,y1,y2⟩:=HYB.out.1.below HYB.out.2 HL7.out;have heq:=fun W=>ziq x y W;have HXY:=hd_ hxy;rw[decide_eq_true hxy] at heq;have hzx:(0:Int)<((hr.length+1:Nat):Int):=by omega
       have hzy:(0:Int)<((yr.length+1:Nat):Int):=by omega
       clear hxy;go_quiet (fail)
       clear x0 x1 x2 y0 y1 y2 heq hzx hzy;go_upto_region 12 with fail;obtain⟨W8,e8,HL8,HO8,HB8⟩:=df8 nq HL7.out HO7.out HB7.out;rw[e8];clear e8;refine zir _ (by kernel_rfl) _ W8 ad (hr.length+1) c1 g7 x _ _ _ _ _ (HXB.out.1.below HXB.out.2 HL8.out) HB8.out (by omega) ?_
       intro eY eZ fa fd fe ff fg fh fj fk W9 hK hB;have HB8:=hd_ hB;have HO8:=hd_ (z4q HO8.out hK.to_grown (fun k e e2=>by injection e2 with e2;have:=HG7.out.2 k e;omega))
       have HL8:=hd_ (HL8.out.trans (hK.to_below (fun s hs=>by rw[List.mem_singleton] at hs;have:=HG7.out.1;omega) HL8.out.size))
       clear hK hB;go_upto_region 15 with fail;obtain⟨W8,rfl⟩:∃ X,X=W9:=⟨_,rfl⟩;refine zis _ (by kernel_rfl) _ W8 ad2 (yr.length+1) c2 g7 y _ _ _ _ _ (HYB.out.1.below HYB.out.2 HL8.out) HB8.out (by omega) (fun e=>by have h1:ad2.block<w.heap.size:=HYB.out.2;have h2:=HG7.out.1;omega) ?_
       intro fu fv fw fx fy fA fB fC fD fE fF fG fH fI fJ W9 hK hB;have HB8:=hd_ hB;have HO8:=hd_ (z4q HO8.out hK.to_grown (fun k e e2=>by injection e2 with e2;have:=HG7.out.2 k e;omega))
       have HL8:=hd_ (HL8.out.trans (hK.to_below (fun s hs=>by rw[List.mem_singleton] at hs;have:=HG7.out.1;omega) HL8.out.size))
       clear hK hB;have HN:=hd_ (HI.out.same HL8.out HO8.out HTX.out HTY.out (fun z hz=>List.mem_cons_of_mem _ hz) (fun z hz=>List.mem_cons_of_mem _ hz) (by simp only[List.length_cons,List.length_nil];omega) (fun n=>by simp only[z6h];rw[if_neg HCC.out.1,if_neg HCC.out.2];simp [HXY.out]))
       go_wp2_with fail;go_roundw
       case rel=>exact⟨hr,yr,done,HN⟩
       case measure=>first | (simp [ziv];done) | (simp [ziv];omega)
      ·go_upto_region 10 with fail;obtain⟨W7,g7,e7,f7,HL7,HO7,HB7,HG7⟩:=df7 HLR.out HOR.out;rw[e7,f7];clear e7 f7;obtain⟨x0,x1,x2⟩:=HXB.out.1.below HXB.out.2 HL7.out;obtain⟨y0,y1,y2⟩:=HYB.out.1.below HYB.out.2 HL7.out;have heq:=fun W=>ziq x y W;have HXY:=hd_ hxy;rw[decide_eq_false hxy] at heq;have hzx:(0:Int)<((hr.length+1:Nat):Int):=by omega
       have hzy:(0:Int)<((yr.length+1:Nat):Int):=by omega
       clear hxy;go_quiet (fail)
       clear x0 x1 x2 y0 y1 y2 heq hzx hzy;go_upto_region 12 with fail;obtain⟨W8,e8,HL8,HO8,HB8⟩:=df8 nq HL7.out HO7.out HB7.out;rw[e8];clear e8;refine zir _ (by kernel_rfl) _ W8 ad (hr.length+1) c1 g7 x _ _ _ _ _ (HXB.out.1.below HXB.out.2 HL8.out) HB8.out (by omega) ?_
       intro eY eZ fa fd fe ff fg fh fj fk W9 hK hB;have HB8:=hd_ hB;have HO8:=hd_ (z4q HO8.out hK.to_grown (fun k e e2=>by injection e2 with e2;have:=HG7.out.2 k e;omega))
       have HL8:=hd_ (HL8.out.trans (hK.to_below (fun s hs=>by rw[List.mem_singleton] at hs;have:=HG7.out.1;omega) HL8.out.size))
       clear hK hB;go_upto_region 15 with fail;obtain⟨W8,rfl⟩:∃ X,X=W9:=⟨_,rfl⟩;refine zis _ (by kernel_rfl) _ W8 ad2 (yr.length+1) c2 g7 y _ _ _ _ _ (HYB.out.1.below HYB.out.2 HL8.out) HB8.out (by omega) (fun e=>by have h1:ad2.block<w.heap.size:=HYB.out.2;have h2:=HG7.out.1;omega) ?_
       intro fu fv fw fx fy fA fB fC fD fE fF fG fH fI fJ W9 hK hB;obtain⟨⟨b0,b1,b2,b3,b4⟩,HOX,HLX,hrow⟩:=df9 hK hB HG7.out HL8.out HO8.out;clear hK hB;go_wp2_with (at_builtin;refine z0k rfl rfl zit HOX.out rfl hrow rfl HLX.out HLX.out.size (ziu (updT x y)) (by omega) (by unfold maxLen;omega) ?_;intro A9 c9 w9 hown9 hbl9)
       have HN:=hd_ (HI.out.next (x:=updT x y) hbl9 hown9 HTX.out HTY.out (fun z hz=>List.mem_cons_of_mem _ hz) (fun z hz=>List.mem_cons_of_mem _ hz) (by simp only[List.length_cons,List.length_nil];omega) (fun n=>by simp only[z6h];rw[if_neg HCC.out.1,if_neg HCC.out.2];simp [HXY.out]))
       clear hown9 hbl9;go_wp2_with fail;go_roundw
       case rel=>exact⟨hr,yr,done++[updT x y],HN⟩
       case measure=>first | (simp [ziv];done) | (simp [ziv];omega)
end
end Go.Proofs.YtegeboijhifmcaaGreatDoor
