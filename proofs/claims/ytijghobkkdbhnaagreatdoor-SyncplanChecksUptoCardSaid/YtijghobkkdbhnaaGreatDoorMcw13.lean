/- A part. -/
import Derived.Test.YtijghobkkdbhnaaGreatDoorMcw11
set_option linter.unusedVariables false
set_option linter.unusedSimpArgs false
set_option maxHeartbeats 8000000
set_option maxRecDepth 100000
namespace Go.Proofs.YtijghobkkdbhnaaGreatDoor
open Go.RowKit
abbrev zco:=Pat×Option Addr×Nat
def zco.v (q:zco):Value:=.slice q.2.1 q.1.parts.length q.2.2
def zco.cells (q:zco):List Value:=[q.v,.bool q.1.rest]
def zcp (w:World)(v:Value)(hs:List zco):Prop:=Row w 2 v hs.length (hs.flatMap zco.cells)∧∀ q∈hs,z9j w q.v q.1
theorem zcp.below {w w':World}{v:Value}{hs:List zco}(h:zcp w v hs)(hb:zB w w'):zcp w' v hs:=⟨Row.below h.1 hb,fun q hq=>(h.2 q hq).below hb⟩
theorem zcp.at_ {w:World}{A:Option Addr}{c:Nat}{hs:List zco}(h:zcp w (.slice A hs.length c) hs){k:Nat}(hk:k<hs.length):
  ∃ ad,A=some ad∧ad.block<w.heap.size∧w.cell? (ad.add (k * 2))=some hs[k].v∧w.cell? ⟨(ad.add (k * 2)).block,(ad.add (k * 2)).off+1,none⟩=some (.bool hs[k].1.rest):=by
 obtain⟨ad,e,hb,hc⟩:=z4f (f:=zco.cells) (n:=2) (fun _=>rfl) h.1 hk;exact⟨ad,e,hb,hc 0 _ (by rfl),hc 1 _ (by rfl)⟩
def zcq (b:Pat)(hs:List zco):Int:=if z7g b≠0 then 50 else if (hs.all fun q=>decide (z7g q.1=0))=false then 51 else if 64<hs.length then 52 else 0
theorem zcr {b:Pat}{hs:List zco}(h:z7g b≠0):zcq b hs=50:=if_pos h
theorem zcs {b:Pat}{hs:List zco}{k:Nat}(hb:z7g b=0)(hk:k<hs.length)(h:z7g hs[k].1≠0):zcq b hs=51:=by
 unfold zcq;rw[if_neg (by rw[hb];simp),if_pos]
 rw[Bool.eq_false_iff];intro ha;exact h (by simpa using List.all_eq_true.1 ha _ (List.getElem_mem hk))
theorem zct {b:Pat}{hs:List zco}(hb:z7g b=0)(h:∀ j (hj:j<hs.length),z7g hs[j].1=0):zcq b hs=if 64<hs.length then 52 else 0:=by
 unfold zcq;rw[if_neg (by rw[hb];simp),if_neg]
 rw[Bool.not_eq_false];refine List.all_eq_true.2 fun q hq=>?_;obtain⟨j,hj,rfl⟩:=List.getElem_of_mem hq;simpa using h j hj
theorem zcu (b:Pat)(hs:List zco)(A H:Option Addr)(a c:Nat)(w:World)(hb:z9j w (.slice A b.parts.length a) b)(hh:zcp w (.slice H hs.length c) hs)(hl:hs.length≤1000000):
  Calls Tryz.prog 121 #[.agg #[.slice A b.parts.length a,.bool b.rest,.slice H hs.length c]] w fun e w'=>e=.returned (.int .i64 (zcq b hs))∧zB w w':=by
 have hB:=z0l w [.slice A b.parts.length a,.bool b.rest,.slice H hs.length c] 78;have hA:zB w (w.alloc (.cells #[.slice A b.parts.length a,.bool b.rest,.slice H hs.length c] 78)):=(Below.refl _ _).alloc (Nat.le_refl _) _;have HC:=hd_ (fun X (hX:zB w X)=>z8p b A a X (hb.below hX).1 hb.small);have HH:=hd_ hh;have HN1:=hd_ (@zcr b hs);have HN2:=hd_ (fun k=>@zcs b hs k);have HN3:=hd_ (@zct b hs);clear hb hh;go_enter Tryz.func121,Tryz.ntmps121;go_upto_region 1 with fail;generalize w.alloc (.cells #[.slice A b.parts.length a,.bool b.rest,.slice H hs.length c] 78)=W1 at hA hB ⊢;obtain⟨d0,d1⟩:=(⟨hB.cell 0,hB.cell 1⟩:W1.cell? ⟨w.heap.size,0,none⟩=some (.slice A b.parts.length a)∧W1.cell? ⟨w.heap.size,1,none⟩=some (.bool b.rest));have HB:=hd_ hB;have HA:=hd_ hA;have HC1:=hd_ (HC.out W1 hA);clear hA hB HC;obtain⟨pe,hpe⟩:∃ pe,z7g b=pe:=⟨_,rfl⟩;have HPE:=hd_ hpe;rw[hpe] at HC1;clear hpe;by_cases h0:pe=0
 case neg =>
  have q:(pe != 0)=true:=by simpa using h0
  have HR:=hd_ (HN1.out (by rw[HPE.out];exact h0))
  clear h0;go_wp2_with fail;refine HC1.out.mono ?_;rintro e w2 ⟨rfl,hb⟩;have HB2:=hd_ (z0r HA.out hb);clear hb d0 d1;go_wp2_with fail;go_ret;exact⟨z7l HR.out.symm,HB2.out⟩
 subst h0;go_wp2_with fail;refine HC1.out.mono ?_;rintro e w2 ⟨rfl,hb⟩;have HA:=hd_ (z0r HA.out hb);have HB:=hd_ (HB.out.below hb HB.out.lt);clear hb d0 d1 HC1;have d2:w2.cell? ⟨w.heap.size,2,none⟩=some (.slice H hs.length c):=HB.out.cell 2;go_wp2_with fail;go_loopw [12] (fun i wr=>∃ k:Nat,i=.int .i64 k∧k≤hs.length∧Hid ((∀ j (hj:j<hs.length),j<k→z7g hs[j].1=0)∧zB w2 wr)) (fun i _=>hs.length - (intOf i).toNat)
 case atStart=>exact⟨0,rfl,Nat.zero_le _,hd_ ⟨fun j _ h=>by omega,Below.refl _ _⟩⟩
 case round =>
  obtain⟨k,rfl,hk,HI⟩:=hrel;clear d2;by_cases hlt:k<hs.length
  ·have HHX:=hd_ (HH.out.below (z0r HA.out HI.out.2));obtain⟨ad,rfl,hab,s0,s1⟩:=HHX.out.at_ hlt;have HPK:=hd_ (HHX.out.2 hs[k] (List.getElem_mem hlt));have HNO:=hd_ (HN2.out k HPE.out hlt);have HYE:Hid (z7g hs[k].1=0→∀ j (hj:j<hs.length),j<k+1→z7g hs[j].1=0):=hd_ (fun h j hj hjk=>by
    by_cases e:j=k
    ·subst e;exact h
    ·exact HI.out.1 j hj (by omega))
   generalize hs[k]=q at s0 s1 HPK HNO HYE;obtain⟨q,Aq,cq⟩:=q;change wr.cell? _=some (.slice Aq q.parts.length cq) at s0;change wr.cell? _=some (.bool q.rest) at s1;have hX:zB w2 (wr.alloc (.cells #[.slice Aq q.parts.length cq,.bool q.rest] 68)):=HI.out.2.alloc HI.out.2.size _;have hbq:zB wr (wr.alloc (.cells #[.slice Aq q.parts.length cq,.bool q.rest] 68)):=(Below.refl _ _).alloc (Nat.le_refl _) _;have HCQ:=hd_ (z8p q Aq cq (wr.alloc (.cells #[.slice Aq q.parts.length cq,.bool q.rest] 68)) (HPK.out.below hbq).1 HPK.out.small);have HX:=hd_ hX;clear hab hX hbq;obtain⟨qe,hqe⟩:∃ qe,z7g q=qe:=⟨_,rfl⟩;have HQE:=hd_ hqe;rw[hqe] at HCQ;clear hqe;have HLT:=hd_ hlt;by_cases h1:qe=0
   ·subst h1;have HN:=hd_ (HYE.out HQE.out);go_wp2_with fail;refine HCQ.out.mono ?_;rintro e w4 ⟨rfl,hb⟩;have HB4:=hd_ (z0r HX.out hb);clear hb s0 s1;go_wp2_with fail;go_roundw
    case rel=>exact⟨k+1,by go_num,by omega,hd_ ⟨HN.out,HB4.out⟩⟩
    case measure=>simp [intOf];omega
   ·have hq:(qe != 0)=true:=by simpa using h1
    have HR:=hd_ (HNO.out (by show z7g q≠0;rw[HQE.out];exact h1))
    clear h1;go_wp2_with fail;refine HCQ.out.mono ?_;rintro e w4 ⟨rfl,hb⟩;have HB4:=hd_ (z0r HA.out (z0r HX.out hb));clear hb s0 s1;go_wp2_with fail;go_ret;exact⟨z7l HR.out.symm,HB4.out⟩
  ·have hke:k=hs.length:=by omega
   subst hke;have HE:=hd_ (HN3.out HPE.out (fun j hj=>HI.out.1 j hj hj));have HBE:=hd_ (z0r HA.out HI.out.2);have d2:wr.cell? ⟨w.heap.size,2,none⟩=some (.slice H hs.length c):=(HB.out.below HI.out.2 HB.out.lt).cell 2;have hge:¬((hs.length:Int)<(hs.length:Int)):=by omega
   by_cases h6:64<hs.length
   ·have q6:decide ((64:Int)<(hs.length:Int))=true:=by simp;omega
    have q7:(64:Int)<(hs.length:Int):=by omega
    have HR:=hd_ (HE.out.trans (if_pos h6));clear h6;go_wp2_with fail;go_ret;exact⟨z7l HR.out.symm,HBE.out⟩
   ·have q6:decide ((64:Int)<(hs.length:Int))=false:=by simp;omega
    have q7:¬(64:Int)<(hs.length:Int):=by omega
    have HR:=hd_ (HE.out.trans (if_neg h6));clear h6;go_wp2_with fail;go_ret;exact⟨z7l HR.out.symm,HBE.out⟩
inductive Bl (hs:List Hav) (pl:List Syn):ByteArray→Prop
 | free {x:Syn} {h:Hav}:x∈pl→z3t x.kind=false→x.dst≠z2q→h∈hs→h.loc=x.dst→h.path≠x.path→z6l pl h.path=none→Bl hs pl x.path
 | stay {x y:Syn} {h:Hav}:x∈pl→z3t x.kind=false→x.dst≠z2q→h∈hs→h.loc=x.dst→h.path≠x.path→z6l pl h.path=some y→z3t y.kind=true→Bl hs pl x.path
 | next {x:Syn} {h:Hav}:x∈pl→z3t x.kind=false→x.dst≠z2q→h∈hs→h.loc=x.dst→h.path≠x.path→Bl hs pl h.path→Bl hs pl x.path
noncomputable def blB (hs:List Hav)(pl:List Syn)(p:ByteArray):Bool:=@decide (Bl hs pl p) (Classical.propDecidable _)
theorem zdx {hs:List Hav}{pl:List Syn}{p:ByteArray}:blB hs pl p=true↔Bl hs pl p:=by unfold blB;exact @decide_eq_true_iff _ (Classical.propDecidable _)
def zdy (b:ByteArray→Bool)(x:Syn):Syn:=if b x.path then { x with kind:=5 } else x
def zdz (b:ByteArray→Bool)(pl:List Syn):List Syn:=pl.map (zdy b)
theorem ze0 (b:ByteArray→Bool)(x:Syn):(zdy b x).path=x.path:=by unfold zdy;split <;> rfl
theorem ze1 (b:ByteArray→Bool)(x:Syn):(zdy b x).num=x.num∧(zdy b x).frm=x.frm∧(zdy b x).dst=x.dst:=by unfold zdy;split <;> exact⟨rfl,rfl,rfl⟩
theorem ze2 (b:ByteArray→Bool)(x:Syn):z3t (zdy b x).kind=(b x.path || z3t x.kind):=by
 unfold zdy;cases b x.path
 ·rfl
 ·rfl
theorem ze3 (b:ByteArray→Bool)(pl:List Syn)(p:ByteArray):z6l (zdz b pl) p=(z6l pl p).map (zdy b):=z6g (ze0 b) pl p
theorem ze4 {pl:List Syn}(h:z6j pl)(b:ByteArray→Bool):z6j (zdz b pl):=z6f h (ze0 b)
def ze5 (pl:List Syn)(b:ByteArray→Bool)(p:ByteArray):Prop:=z6l pl p=none∨∃ y,z6l pl p=some y∧(z3t y.kind=true∨b p=true)
theorem ze6 {hs:List Hav}{pl:List Syn}{b:ByteArray→Bool}(hs1:∀ p,b p=true→Bl hs pl p)
  (hc:∀ x∈pl,z3t x.kind=false→b x.path=false→x.dst≠z2q→∀ h∈hs,h.loc=x.dst→h.path≠x.path→¬ ze5 pl b h.path):b=blB hs pl:=by
 have key:∀ p,Bl hs pl p→b p=true:=by
  intro p hp;induction hp with
  | free h1 h2 h3 h4 h5 h6 h7 =>
   cases e:b _ with
   | true=>rfl
   | false=>exact absurd (.inl h7) (hc _ h1 h2 e h3 _ h4 h5 h6)
  | stay h1 h2 h3 h4 h5 h6 h7 h8 =>
   cases e:b _ with
   | true=>rfl
   | false=>exact absurd (.inr ⟨_,h7,.inl h8⟩) (hc _ h1 h2 e h3 _ h4 h5 h6)
  | @next x h h1 h2 h3 h4 h5 h6 h7 ih =>
   cases e:b x.path with
   | true=>rfl
   | false =>
    have hst:ze5 pl b h.path:=by
     cases hg:z6l pl h.path with
     | none=>exact .inl hg
     | some y=>exact .inr ⟨y,hg,.inr ih⟩
    exact absurd hst (hc _ h1 h2 e h3 _ h4 h5 h6)
 funext p
 rw[Bool.eq_iff_iff,zdx];exact⟨hs1 p,key p⟩
theorem ze7 {hs:List Hav}{pl:List Syn}{b:ByteArray→Bool}(hb:∀ p,b p=true→Bl hs pl p){x:Syn}{h:Hav}(h1:x∈pl)(h2:z3t x.kind=false)(h3:x.dst≠z2q)(h4:h∈hs)(h5:h.loc=x.dst)(h6:h.path≠x.path)(h7:ze5 pl b h.path):Bl hs pl x.path:=by
 rcases h7 with h7 | ⟨y,h7,h8 | h8⟩
 ·exact .free h1 h2 h3 h4 h5 h6 h7
 ·exact .stay h1 h2 h3 h4 h5 h6 h7 h8
 ·exact .next h1 h2 h3 h4 h5 h6 (hb _ h8)
def ze8 (ho:Option Hav)(so:Option Syn):Option Hav:=
 match so with
 | none=>ho
 | some x=>if z3t x.kind then ho else if x.dst=z2q then none else some ⟨x.path,x.num,x.dst⟩
theorem ze9 {x:Syn}{a:Hav}(h:a∈z4z x):a.path=x.path:=by
 unfold z4z at h;split at h
 ·cases h
 ·unfold z4y at h;split at h
  ·cases h
  ·rw[List.mem_singleton] at h;subst h;rfl
theorem zea {x:Syn}{a:Hav}(h:a∈z4y x):a.path=x.path:=by
 unfold z4y at h;split at h
 ·cases h
 ·rw[List.mem_singleton] at h;subst h;rfl
theorem zeb (x:Syn):z6i (z4z x):=by
 unfold z4z z4y;split
 ·exact List.Pairwise.nil
 ·split
  ·exact List.Pairwise.nil
  ·exact List.pairwise_singleton ..
theorem zec (x:Syn):z6i (z4y x):=by
 unfold z4y;split
 ·exact List.Pairwise.nil
 ·exact List.pairwise_singleton ..
theorem zed (x:Syn)(p:ByteArray):z6k (z4z x) p=if x.path=p then ze8 none (some x) else none:=by
 show z64 Hav.path _ p=_
 unfold z4z z4y ze8;by_cases h1:z3t x.kind=true
 ·rw[if_pos h1];simp [h1,z64]
 ·rw[if_neg h1];by_cases h2:x.dst=z2q
  ·rw[if_pos h2];simp [h1,h2,z64]
  ·rw[if_neg h2,z69];simp [h1,h2,z64]
theorem zee (x:Syn)(p:ByteArray):z6k (z4y x) p=if x.path=p then (if x.dst=z2q then none else some ⟨x.path,x.num,x.dst⟩) else none:=by
 show z64 Hav.path _ p=_
 unfold z4y;by_cases h2:x.dst=z2q
 ·rw[if_pos h2];simp [h2,z64]
 ·rw[if_neg h2,z69];simp [h2,z64]
theorem zef {h:Hav}{hs:List Hav}{x:Syn}{r:List Syn}(c:z2z x.path h.path<0):z56 (h :: hs) (x :: r)=z4z x++z56 (h :: hs) r:=by
 simp only[z56,z50,z52,if_pos c,List.append_assoc]
theorem zeg {h:Hav}{hs:List Hav}{x:Syn}{r:List Syn}(c:¬ z2z x.path h.path<0)(e:x.path=h.path):z56 (h :: hs) (x :: r)=(if z3t x.kind then [h] else z4y x)++z56 hs r:=by
 simp only[z56,z50,z52,if_neg c,z54,z55,if_pos e,List.nil_append]
theorem zeh {h:Hav}{hs:List Hav}{x:Syn}{r:List Syn}(c:¬ z2z x.path h.path<0)(e:¬ x.path=h.path):z56 (h :: hs) (x :: r)=h :: z56 hs (x :: r):=by
 simp only[z56,z50,z52,if_neg c,z54,z55,if_neg e,List.nil_append,List.singleton_append]
theorem zei {h:Hav}{hs:List Hav}:z56 (h :: hs) []=h :: z56 hs []:=by
 simp only[z56,z50,z52,z54,z55,List.nil_append,List.singleton_append]
theorem zej:∀(n:Nat) (hs:List Hav) (ps:List Syn),hs.length+ps.length≤n→z6i hs→z6j ps→(∀ x∈hs,z2x x.path=true)→(∀ x∈ps,z2x x.path=true) →
  z6i (z56 hs ps)∧(∀ a∈z56 hs ps,(∃ h∈hs,h.path=a.path)∨∃ x∈ps,x.path=a.path)∧∀ p,z6k (z56 hs ps) p=ze8 (z6k hs p) (z6l ps p)
 | 0,hs,ps,hn,_,_,_,_=>by
  have e1:hs=[]:=List.eq_nil_of_length_eq_zero (by omega)
  have e2:ps=[]:=List.eq_nil_of_length_eq_zero (by omega)
  subst e1 e2;exact⟨List.Pairwise.nil,(fun a ha=>by cases ha),fun p=>rfl⟩
 | _+1,[],[],_,_,_,_,_=>⟨List.Pairwise.nil,(fun a ha=>by cases ha),fun p=>rfl⟩
 | n+1,[],x :: r,hn,h1,h2,v1,v2=>by
  obtain⟨i1,i2,i3⟩:=zej n [] r (by simp at hn ⊢;omega) h1 h2.tail v1 (fun y hy=>v2 y (List.mem_cons_of_mem _ hy))
  have e:z56 [] (x :: r)=z4z x++z56 [] r:=by simp only[z56,List.flatMap_cons]
  rw[e];refine⟨z6e (zeb x) i1 fun a ha b hb=>?_,fun a ha=>?_,fun p=>?_⟩
  ·rw[ze9 ha];rcases i2 b hb with⟨y,hy,_⟩ | ⟨y,hy,e⟩
   ·cases hy
   ·rw[← e];exact h2.head y hy
  ·rcases List.mem_append.1 ha with ha | ha
   ·exact .inr ⟨x,List.mem_cons_self ..,(ze9 ha).symm⟩
   ·rcases i2 a ha with⟨y,hy,_⟩ | ⟨y,hy,e⟩
    ·cases hy
    ·exact .inr ⟨y,List.mem_cons_of_mem _ hy,e⟩
  ·show z64 Hav.path _ p=ze8 _ (z64 Syn.path _ p)
   rw[z6a,z69];have:=zed x p;show (z6k (z4z x) p).or (z6k (z56 [] r) p)=_
   rw[this,i3];by_cases e:x.path=p
   ·rw[if_pos e,if_pos e];have hno:z6l r p=none:=z68.2 fun y hy ey=>z65 (h2.head y hy) (e.trans ey.symm);rw[hno];show (ze8 none (some x)).or none=ze8 none (some x)
    cases ze8 none (some x) <;> rfl
   ·rw[if_neg e,if_neg e];rfl
 | n+1,h :: hs,[],hn,h1,h2,v1,v2=>by
  obtain⟨i1,i2,i3⟩:=zej n hs [] (by simp at hn ⊢;omega) h1.tail h2 (fun y hy=>v1 y (List.mem_cons_of_mem _ hy)) v2
  rw[zei];refine⟨List.pairwise_cons.2 ⟨fun b hb=>?_,i1⟩,fun a ha=>?_,fun p=>?_⟩
  ·rcases i2 b hb with⟨y,hy,e⟩ | ⟨y,hy,_⟩
   ·rw[← e];exact h1.head y hy
   ·cases hy
  ·rcases List.mem_cons.1 ha with rfl | ha
   ·exact .inl ⟨_,List.mem_cons_self ..,rfl⟩
   ·rcases i2 a ha with⟨y,hy,e⟩ | ⟨y,hy,_⟩
    ·exact .inl ⟨y,List.mem_cons_of_mem _ hy,e⟩
    ·cases hy
  ·show z64 Hav.path _ p=ze8 (z64 Hav.path _ p) _
   rw[z69,z69];split
   ·rfl
   ·exact i3 p
 | n+1,h :: hs,x :: r,hn,h1,h2,v1,v2=>by
  have vh:=v1 h (List.mem_cons_self ..);have vx:=v2 x (List.mem_cons_self ..);by_cases c1:z2z x.path h.path<0
  ·obtain⟨i1,i2,i3⟩:=zej n (h :: hs) r (by simp at hn ⊢;omega) h1 h2.tail v1 (fun y hy=>v2 y (List.mem_cons_of_mem _ hy))
   rw[zef c1];have lo:∀ y∈h :: hs,z2z x.path y.path<0:=fun y hy=>by
    rcases List.mem_cons.1 hy with rfl | hy'
    ·exact c1
    ·exact z5l vx vh (v1 y hy) c1 (h1.head y hy')
   refine⟨z6e (zeb x) i1 fun a ha b hb=>?_,fun a ha=>?_,fun p=>?_⟩
   ·rw[ze9 ha];rcases i2 b hb with⟨y,hy,e⟩ | ⟨y,hy,e⟩
    ·rw[← e];exact lo y hy
    ·rw[← e];exact h2.head y hy
   ·rcases List.mem_append.1 ha with ha | ha
    ·exact .inr ⟨x,List.mem_cons_self ..,(ze9 ha).symm⟩
    ·rcases i2 a ha with⟨y,hy,e⟩ | ⟨y,hy,e⟩
     ·exact .inl ⟨y,hy,e⟩
     ·exact .inr ⟨y,List.mem_cons_of_mem _ hy,e⟩
   ·show z64 Hav.path _ p=ze8 (z64 Hav.path (h :: hs) p) (z64 Syn.path (x :: r) p)
    rw[z6a,z69 (k:=Syn.path)];show (z6k (z4z x) p).or (z6k (z56 (h :: hs) r) p)=_
    rw[zed,i3];by_cases e:x.path=p
    ·rw[if_pos e,if_pos e];have hno:z6l r p=none:=z68.2 fun y hy ey=>z65 (h2.head y hy) (e.trans ey.symm);have hnh:z6k (h :: hs) p=none:=z68.2 fun y hy ey=>z65 (lo y hy) (e.trans ey.symm);rw[hno,hnh];show (ze8 none (some x)).or none=ze8 (z6k (h :: hs) p) (some x)
     rw[hnh];cases ze8 none (some x) <;> rfl
    ·rw[if_neg e,if_neg e];rfl
  ·by_cases c2:x.path=h.path
   ·obtain⟨i1,i2,i3⟩:=zej n hs r (by simp at hn ⊢;omega) h1.tail h2.tail (fun y hy=>v1 y (List.mem_cons_of_mem _ hy)) (fun y hy=>v2 y (List.mem_cons_of_mem _ hy))
    rw[zeg c1 c2];have lo:∀ b∈z56 hs r,z2z x.path b.path<0:=fun b hb=>by
     rcases i2 b hb with⟨y,hy,e⟩ | ⟨y,hy,e⟩
     ·rw[← e,c2];exact h1.head y hy
     ·rw[← e];exact h2.head y hy
    have hkp:∀ a∈(if z3t x.kind then [h] else z4y x),a.path=x.path:=fun a ha=>by
     split at ha
     ·rw[List.mem_singleton] at ha;subst ha;exact c2.symm
     ·exact zea ha
    refine⟨z6e ?_ i1 fun a ha b hb=>by rw[hkp a ha];exact lo b hb,fun a ha=>?_,fun p=>?_⟩
    ·split
     ·exact List.pairwise_singleton ..
     ·exact zec x
    ·rcases List.mem_append.1 ha with ha | ha
     ·exact .inr ⟨x,List.mem_cons_self ..,(hkp a ha).symm⟩
     ·rcases i2 a ha with⟨y,hy,e⟩ | ⟨y,hy,e⟩
      ·exact .inl ⟨y,List.mem_cons_of_mem _ hy,e⟩
      ·exact .inr ⟨y,List.mem_cons_of_mem _ hy,e⟩
    ·show z64 Hav.path _ p=ze8 (z64 Hav.path (h :: hs) p) (z64 Syn.path (x :: r) p)
     rw[z6a,z69 (k:=Syn.path),z69 (l:=hs)];have hr:z64 Hav.path (z56 hs r) p=ze8 (z6k hs p) (z6l r p):=i3 p;rw[hr];by_cases e:x.path=p
     ·rw[if_pos e,if_pos (c2.symm.trans e)];have hno:z6l r p=none:=z68.2 fun y hy ey=>z65 (h2.head y hy) (e.trans ey.symm);have hnh:z6k hs p=none:=z68.2 fun y hy ey=>z65 (h1.head y hy) ((c2.symm.trans e).trans ey.symm);rw[hno,hnh];show Option.or _ none=_
      rw[Option.or_none];by_cases st:z3t x.kind=true
      ·rw[if_pos st,z69,if_pos (c2.symm.trans e)];simp [ze8,st]
      ·rw[if_neg st];have:=zee x p;rw[if_pos e] at this;show z6k (z4y x) p=_
       rw[this];simp [ze8,st]
     ·rw[if_neg e,if_neg (fun e2=>e (c2.trans e2))];have hno:z64 Hav.path (if z3t x.kind then [h] else z4y x) p=none:=z68.2 fun a ha ea=>e ((hkp a ha).symm.trans ea);rw[hno];rfl
   ·obtain⟨i1,i2,i3⟩:=zej n hs (x :: r) (by simp at hn ⊢;omega) h1.tail h2 (fun y hy=>v1 y (List.mem_cons_of_mem _ hy)) v2
    rw[zeh c1 c2];have c3:z2z h.path x.path<0:=by
     have h0:¬ z2z x.path h.path=0:=fun e0=>c2 (z5x vx vh e0);rw[z5w];omega
    have lo:∀ y∈x :: r,z2z h.path y.path<0:=fun y hy=>by
     rcases List.mem_cons.1 hy with rfl | hy'
     ·exact c3
     ·exact z5l vh vx (v2 y hy) c3 (h2.head y hy')
    refine⟨List.pairwise_cons.2 ⟨fun b hb=>?_,i1⟩,fun a ha=>?_,fun p=>?_⟩
    ·rcases i2 b hb with⟨y,hy,e⟩ | ⟨y,hy,e⟩
     ·rw[← e];exact h1.head y hy
     ·rw[← e];exact lo y hy
    ·rcases List.mem_cons.1 ha with rfl | ha
     ·exact .inl ⟨_,List.mem_cons_self ..,rfl⟩
     ·rcases i2 a ha with⟨y,hy,e⟩ | ⟨y,hy,e⟩
      ·exact .inl ⟨y,List.mem_cons_of_mem _ hy,e⟩
      ·exact .inr ⟨y,hy,e⟩
    ·show z64 Hav.path _ p=ze8 (z64 Hav.path (h :: hs) p) (z64 Syn.path (x :: r) p)
     rw[z69,z69 (l:=hs)];by_cases e:h.path=p
     ·rw[if_pos e,if_pos e];have hno:z64 Syn.path (x :: r) p=none:=z68.2 fun y hy ey=>z65 (lo y hy) (e.trans ey.symm);rw[hno];rfl
     ·rw[if_neg e,if_neg e];exact i3 p
structure zek (l:List Hav):Prop where
 srt:z6i l
 ok:∀ x∈l,x.okB=true
 loc:∀ x∈l,∀ y∈l,x.loc=y.loc→x.path=y.path
theorem zel {x:Hav}(h:x.okB=true):z3v x.path=true∧z3v x.loc=true∧1≤x.num:=by
 unfold Hav.okB at h;simp only[Bool.and_eq_true,decide_eq_true_eq] at h
 exact⟨h.1.1,h.1.2,h.2⟩
theorem zem {p:ByteArray}(h:z3v p=true):z2x p=true∧p.size≤200∧p≠z2q:=by
 unfold z3v at h;simp only[Bool.and_eq_true,decide_eq_true_eq] at h
 refine⟨h.2,h.1,?_⟩;rintro rfl;exact absurd h.2 (by decide)
theorem zek.valid {l:List Hav}(h:zek l):∀ x∈l,z2x x.path=true:=fun x hx=>(zem (zel (h.ok x hx)).1).1
theorem zek.locNe {l:List Hav}(h:zek l){x:Hav}(hx:x∈l):x.loc≠z2q:=(zem (zel (h.ok x hx)).2.1).2.2
theorem zen:zek []:=⟨List.Pairwise.nil,(fun x hx=>by cases hx),(fun x hx=>by cases hx)⟩
theorem zeo:∀(l:List Hav) (p:Option Hav) (s:List ByteArray),(∀ q,p=some q→z2x q.path=true) →
  (z4l p s l=0↔zek l∧(∀ q,p=some q→∀ x∈l,z2z q.path x.path<0)∧∀ x∈l,x.loc∉s)
 | [],p,s,_=>⟨fun _=>⟨zen,(fun q _ x hx=>by cases hx),(fun x hx=>by cases hx)⟩,fun _=>rfl⟩
 | h :: r,p,s,hv=>by
  rw[z4l];by_cases h1:(!h.okB || z4j p h)=true
  ·rw[if_pos h1];refine⟨fun e=>absurd e (by decide),fun ⟨g1,g2,g3⟩=>?_⟩
   have o1:=g1.ok h (List.mem_cons_self ..);rw[o1] at h1;cases p with
   | none=>exact absurd h1 (by show ¬(false || false)=true;decide)
   | some q =>
    have:=g2 q rfl h (List.mem_cons_self ..);rw[z4k] at h1;simp at h1
    omega
  ·rw[if_neg h1];have o1:h.okB=true:=by cases e:h.okB;rw[e] at h1;exact absurd rfl h1;rfl
   have o2:z4j p h=false:=by cases e:z4j p h;rfl;rw[e,Bool.or_true] at h1;exact absurd rfl h1
   have vh:=(zem (zel o1).1).1;by_cases h2:h.loc∈s
   ·rw[if_pos h2];exact⟨fun e=>absurd e (by decide),fun ⟨g1,g2,g3⟩=>absurd h2 (g3 h (List.mem_cons_self ..))⟩
   ·rw[if_neg h2,zeo r (some h) (h.loc :: s) (fun q e=>by rw[← Option.some.inj e];exact vh)]
    constructor
    ·rintro⟨g1,g2,g3⟩;have g2':=g2 h rfl;refine⟨⟨List.pairwise_cons.2 ⟨g2',g1.srt⟩,fun x hx=>?_,fun x hx y hy e=>?_⟩,fun q e x hx=>?_,fun x hx=>?_⟩
     ·rcases List.mem_cons.1 hx with rfl | hx
      ·exact o1
      ·exact g1.ok x hx
     ·rcases List.mem_cons.1 hx with rfl | hx
      ·rcases List.mem_cons.1 hy with rfl | hy
       ·rfl
       ·exact absurd (by rw[← e];exact List.mem_cons_self ..) (g3 y hy)
      ·rcases List.mem_cons.1 hy with e2 | hy
       ·exact absurd (by rw[e,e2];exact List.mem_cons_self ..) (g3 x hx)
       ·exact g1.loc x hx y hy e
     ·subst e;have hq:z2z q.path h.path<0:=by rw[z4k] at o2;simp at o2;omega
      rcases List.mem_cons.1 hx with rfl | hx
      ·exact hq
      ·exact z5l (hv q rfl) vh (g1.valid x hx) hq (g2' x hx)
     ·rcases List.mem_cons.1 hx with rfl | hx
      ·exact h2
      ·exact fun hs=>g3 x hx (List.mem_cons_of_mem _ hs)
    ·rintro⟨g1,g2,g3⟩;refine⟨⟨g1.srt.tail,fun x hx=>g1.ok x (List.mem_cons_of_mem _ hx),fun x hx y hy=>g1.loc x (List.mem_cons_of_mem _ hx) y (List.mem_cons_of_mem _ hy)⟩,fun q e x hx=>?_,fun x hx hs=>?_⟩
     ·rw[← Option.some.inj e];exact g1.srt.head x hx
     ·rcases List.mem_cons.1 hs with e | hs
      ·exact z65 (g1.srt.head x hx) (g1.loc h (List.mem_cons_self ..) x (List.mem_cons_of_mem _ hx) e.symm)
      ·exact g3 x (List.mem_cons_of_mem _ hx) hs
theorem zep {l:List Hav}:z4m l=0↔zek l∧l.length≤1024:=by
 unfold z4m;by_cases h:1024<l.length
 ·rw[if_pos h];exact⟨fun e=>absurd e (by decide),fun ⟨_,h2⟩=>by omega⟩
 ·rw[if_neg h,zeo l none [] (fun q e=>by cases e)]
  exact⟨fun ⟨h1,_⟩=>⟨h1,by omega⟩,fun ⟨h1,_⟩=>⟨h1,(fun q e=>by cases e),(fun x _ hs=>by cases hs)⟩⟩
def zeq (op dt:List ByteArray)(x:Syn):Int:=if x.path∈op then 6 else if (x.frm≠z2q∧x.frm∈dt)∨(x.dst≠z2q∧x.dst∈dt) then 5 else z3u x.frm x.dst
def zer (op dt:List ByteArray)(x:Syn):Syn:={ x with kind:=zeq op dt x }
def zes (hs ws:List Hav)(op dt:List ByteArray):List Syn:=(z6o (hs.length+ws.length) hs ws).map (zer op dt)
noncomputable def zet (hs ws:List Hav)(op dt:List ByteArray):List Syn:=zdz (blB hs (zes hs ws op dt)) (zes hs ws op dt)
theorem zeu (f d:ByteArray):z3t (z3u f d)=false:=by unfold z3u;split;rfl;split;rfl;split <;> rfl
theorem zev (a b:Hav):z6p (some a) (some b)=if a=b then none else some (updT a b):=rfl
theorem zew {h w:Option Hav}{x:Syn}(e:z6p h w=some x):
  (∃ a,h=some a∧w=none∧x=z6n a)∨(∃ b,h=none∧w=some b∧x=z6m b)∨∃ a b,h=some a∧w=some b∧a≠b∧x=updT a b:=by
 cases h with
 | none =>
  cases w with
  | none=>cases e
  | some b=>exact .inr (.inl ⟨b,rfl,rfl,(Option.some.inj e).symm⟩)
 | some a =>
  cases w with
  | none=>exact .inl ⟨a,rfl,rfl,(Option.some.inj e).symm⟩
  | some b =>
   rw[zev] at e;by_cases eq:a=b
   ·rw[if_pos eq] at e;cases e
   ·rw[if_neg eq] at e;exact .inr (.inr ⟨a,b,rfl,rfl,eq,(Option.some.inj e).symm⟩)
section
variable {hs ws : List Hav} {op dt : List ByteArray}
theorem zex (h1:zek hs)(h2:zek ws):z6j (zes hs ws op dt)∧∀ p,z6l (zes hs ws op dt) p=(z6p (z6k hs p) (z6k ws p)).map (zer op dt):=by
 obtain⟨i1,i2⟩:=z6s (hs.length+ws.length) hs ws (Nat.le_refl _) h1.srt h2.srt h1.valid h2.valid;refine⟨z6f i1 fun _=>rfl,fun p=>?_⟩;show z64 Syn.path (List.map _ _) p=_
 rw[z6g (k:=Syn.path) (kb:=Syn.path) (f:=zer op dt) (fun _=>rfl)];exact congrArg _ (i2 p)
theorem zey (h1:zek hs)(h2:zek ws):z6j (zet hs ws op dt)∧∀ p,z6l (zet hs ws op dt) p=(z6p (z6k hs p) (z6k ws p)).map fun x=>zdy (blB hs (zes hs ws op dt)) (zer op dt x):=by
 obtain⟨i1,i2⟩:=zex (op:=op) (dt:=dt) h1 h2;refine⟨ze4 i1 _,fun p=>?_⟩;show z6l (zdz _ _) p=_
 rw[ze3,i2,Option.map_map];rfl
theorem zez (h1:zek hs)(h2:zek ws){x:Syn}(hx:x∈zet hs ws op dt):
  ∃ y,z6p (z6k hs x.path) (z6k ws x.path)=some y∧x=zdy (blB hs (zes hs ws op dt)) (zer op dt y)∧y.path=x.path:=by
 obtain⟨i1,i2⟩:=zey (op:=op) (dt:=dt) h1 h2;have h:=z6b i1 hx;have h':z6l (zet hs ws op dt) x.path=some x:=h;rw[i2,Option.map_eq_some_iff] at h';obtain⟨y,e1,e2⟩:=h';refine⟨y,e1,e2.symm,?_⟩;have:=congrArg Syn.path e2;rw[ze0] at this;exact this
end
