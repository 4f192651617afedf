/- A part of the proof. -/
import Derived.Test.YtegeboijhifmcaaGreatDoorMgs9
import Derived.Test.YtegeboijhifmcaaGreatDoorMgs12
import Derived.Test.YtegeboijhifmcaaGreatDoorMgs10
set_option linter.unusedVariables false
set_option linter.unusedSimpArgs false
set_option maxHeartbeats 8000000
set_option maxRecDepth 100000
namespace Go.Proofs.YtegeboijhifmcaaGreatDoor
open Go.Proofs.Tryz
open Go.RowKit
section
variable {α : Type} {k : α → ByteArray}
def z5x (k:α→ByteArray)(l:List α):Prop:=l.Pairwise (fun a b=>z2u (k a) (k b)<0)
def z5y (k:α→ByteArray)(l:List α)(p:ByteArray):Option α:=l.find? (fun a=>decide (k a=p))
theorem z5z {a b:ByteArray}(h:z2u a b<0):a≠b:=fun e=>by rw[e,z5e] at h;omega
theorem z60 {a b:ByteArray}(h:z2u a b<0):¬ z2u b a<0:=by rw[z5q];omega
theorem z5x.tail {a:α}{l:List α}(h:z5x k (a :: l)):z5x k l:=(List.pairwise_cons.1 h).2
theorem z5x.head {a:α}{l:List α}(h:z5x k (a :: l)):∀ b∈l,z2u (k a) (k b)<0:=(List.pairwise_cons.1 h).1
theorem z61 {l:List α}{p:ByteArray}{a:α}(h:z5y k l p=some a):a∈l∧k a=p:=
 ⟨List.mem_of_find?_eq_some h,by simpa using List.find?_some h⟩
theorem z62 {l:List α}{p:ByteArray}:z5y k l p=none↔∀ a∈l,k a≠p:=by
 unfold z5y;rw[List.find?_eq_none];simp
theorem z63 (a:α)(l:List α)(p:ByteArray):z5y k (a :: l) p=if k a=p then some a else z5y k l p:=by
 unfold z5y;rw[List.find?_cons];by_cases h:k a=p
 ·rw[if_pos h,decide_eq_true h]
 ·rw[if_neg h,decide_eq_false h]
theorem z65 {l:List α}(h:z5x k l){a:α}(ha:a∈l):z5y k l (k a)=some a:=by
 induction l with
 | nil=>cases ha
 | cons b l ih =>
  rw[z63];by_cases e:k b=k a
  ·rw[if_pos e];rcases List.mem_cons.1 ha with rfl | ha
   ·rfl
   ·exact absurd e (z5z (h.head a ha))
  ·rw[if_neg e];rcases List.mem_cons.1 ha with rfl | ha
   ·exact absurd rfl e
   ·exact ih h.tail ha
theorem z66 {l m:List α}(hl:z5x k l)(hm:z5x k m)(h:∀ a,a∈l↔a∈m):l=m:=by
 induction l generalizing m with
 | nil =>
  cases m with
  | nil=>rfl
  | cons b m=>exact absurd ((h b).2 (List.mem_cons_self ..)) (by simp)
 | cons a l ih =>
  cases m with
  | nil=>exact absurd ((h a).1 (List.mem_cons_self ..)) (by simp)
  | cons b m =>
   have hab:a=b:=by
    rcases List.mem_cons.1 ((h a).1 (List.mem_cons_self ..)) with e | h1
    ·exact e
    ·rcases List.mem_cons.1 ((h b).2 (List.mem_cons_self ..)) with e | h2
     ·exact e.symm
     ·exact absurd (hm.head a h1) (z60 (hl.head b h2))
   subst hab;congr 1
   refine ih hl.tail hm.tail fun x=>⟨fun hx=>?_,fun hx=>?_⟩
   ·rcases List.mem_cons.1 ((h x).1 (List.mem_cons_of_mem _ hx)) with rfl | h1
    ·exact absurd rfl (z5z (hl.head _ hx))
    ·exact h1
   ·rcases List.mem_cons.1 ((h x).2 (List.mem_cons_of_mem _ hx)) with rfl | h1
    ·exact absurd rfl (z5z (hm.head _ hx))
    ·exact h1
theorem z67 {l m:List α}(hl:z5x k l)(hm:z5x k m)(h:∀ a∈l,∀ b∈m,z2u (k a) (k b)<0):z5x k (l++m):=List.pairwise_append.2 ⟨hl,hm,h⟩
theorem z68 {β:Type}{kb:β→ByteArray}{f:α→β}{l:List α}(h:z5x k l)(hf:∀ a,kb (f a)=k a):z5x kb (l.map f):=by
 unfold z5x;rw[List.pairwise_map];exact h.imp fun {a b} hab=>by rw[hf,hf];exact hab
theorem z69 {β:Type}{kb:β→ByteArray}{f:α→β}(hf:∀ a,kb (f a)=k a)(l:List α)(p:ByteArray):z5y kb (l.map f) p=(z5y k l p).map f:=by
 induction l with
 | nil=>rfl
 | cons a l ih =>
  rw[List.map_cons,z63,z63,hf];split
  ·rfl
  ·exact ih
theorem z6a {l:List α}(h:z5x k l)(f:α→Bool):z5x k (l.filter f):=h.sublist List.filter_sublist
end
abbrev z6b:=z5x Hav.path
abbrev z6c:=z5x Syn.path
abbrev z6d:=z5y Hav.path
abbrev z6e:=z5y Syn.path
def z6f (w:Hav):Syn:=⟨0,w.path,w.num,z2l,w.loc⟩
def z6g (h:Hav):Syn:=⟨0,h.path,0,h.loc,z2l⟩
def updT (h w:Hav):Syn:=⟨0,w.path,w.num,h.loc,w.loc⟩
instance:DecidableEq Hav:=fun a b=>by
 cases a;cases b
 rw[Hav.mk.injEq];exact inferInstance
def z6h:Nat→List Hav→List Hav→List Syn
 | 0,_,_=>[]
 | _+1,[],[]=>[]
 | n+1,h :: hs,[]=>z6g h :: z6h n hs []
 | n+1,[],w :: ws=>z6f w :: z6h n [] ws
 | n+1,h :: hs,w :: ws=>if z2u h.path w.path<0 then z6g h :: z6h n hs (w :: ws) else if 0<z2u h.path w.path then z6f w :: z6h n (h :: hs) ws else (if h=w then [] else [updT h w])++z6h n hs ws
def z6i (h w:Option Hav):Option Syn:=
 match h,w with
 | none,none=>none
 | some h,none=>some (z6g h)
 | none,some w=>some (z6f w)
 | some h,some w=>if h=w then none else some (updT h w)
theorem z6j:∀(n:Nat) (hs ws:List Hav) (x:Syn),x∈z6h n hs ws→(∃ h∈hs,h.path=x.path)∨∃ w∈ws,w.path=x.path
 | 0,_,_,x,h=>by simp [z6h] at h
 | _+1,[],[],x,h=>by simp [z6h] at h
 | n+1,h :: hs,[],x,hx=>by
  simp only[z6h,List.mem_cons] at hx
  rcases hx with rfl | hx
  ·exact .inl ⟨h,List.mem_cons_self ..,rfl⟩
  ·rcases z6j n hs [] x hx with⟨y,hy,e⟩ | ⟨y,hy,e⟩
   ·exact .inl ⟨y,List.mem_cons_of_mem _ hy,e⟩
   ·cases hy
 | n+1,[],w :: ws,x,hx=>by
  simp only[z6h,List.mem_cons] at hx
  rcases hx with rfl | hx
  ·exact .inr ⟨w,List.mem_cons_self ..,rfl⟩
  ·rcases z6j n [] ws x hx with⟨y,hy,e⟩ | ⟨y,hy,e⟩
   ·cases hy
   ·exact .inr ⟨y,List.mem_cons_of_mem _ hy,e⟩
 | n+1,h :: hs,w :: ws,x,hx=>by
  simp only[z6h] at hx
  split at hx
  ·rcases List.mem_cons.1 hx with rfl | hx
   ·exact .inl ⟨h,List.mem_cons_self ..,rfl⟩
   ·rcases z6j n hs (w :: ws) x hx with⟨y,hy,e⟩ | ⟨y,hy,e⟩
    ·exact .inl ⟨y,List.mem_cons_of_mem _ hy,e⟩
    ·exact .inr ⟨y,hy,e⟩
  ·split at hx
   ·rcases List.mem_cons.1 hx with rfl | hx
    ·exact .inr ⟨w,List.mem_cons_self ..,rfl⟩
    ·rcases z6j n (h :: hs) ws x hx with⟨y,hy,e⟩ | ⟨y,hy,e⟩
     ·exact .inl ⟨y,hy,e⟩
     ·exact .inr ⟨y,List.mem_cons_of_mem _ hy,e⟩
   ·rcases List.mem_append.1 hx with hx | hx
    ·split at hx
     ·cases hx
     ·rw[List.mem_singleton] at hx;subst hx;exact .inr ⟨w,List.mem_cons_self ..,rfl⟩
    ·rcases z6j n hs ws x hx with⟨y,hy,e⟩ | ⟨y,hy,e⟩
     ·exact .inl ⟨y,List.mem_cons_of_mem _ hy,e⟩
     ·exact .inr ⟨y,List.mem_cons_of_mem _ hy,e⟩
theorem z6k {a b:ByteArray}(ha:z2s a=true)(hb:z2s b=true)(h1:¬ z2u a b<0)(h2:¬ 0<z2u a b):a=b:=z5r ha hb (by omega)
theorem z6l:∀(n:Nat) (hs ws:List Hav),hs.length+ws.length≤n→z6b hs→z6b ws→(∀ x∈hs,z2s x.path=true)→(∀ x∈ws,z2s x.path=true) →
  z6c (z6h n hs ws)∧∀ p,z6e (z6h n hs ws) p=z6i (z6d hs p) (z6d ws p)
 | 0,hs,ws,hn,_,_,_,_=>by
  have e1:hs=[]:=List.eq_nil_of_length_eq_zero (by omega)
  have e2:ws=[]:=List.eq_nil_of_length_eq_zero (by omega)
  subst e1 e2;exact⟨List.Pairwise.nil,fun p=>rfl⟩
 | _+1,[],[],_,_,_,_,_=>⟨List.Pairwise.nil,fun p=>rfl⟩
 | n+1,h :: hs,[],hn,h1,h2,v1,v2=>by
  obtain⟨i1,i2⟩:=z6l n hs [] (by simp at hn ⊢;omega) h1.tail h2 (fun x hx=>v1 x (List.mem_cons_of_mem _ hx)) v2
  simp only[z6h]
  refine⟨List.pairwise_cons.2 ⟨fun x hx=>?_,i1⟩,fun p=>?_⟩
  ·rcases z6j _ _ _ _ hx with⟨y,hy,e⟩ | ⟨y,hy,e⟩
   ·rw[← e];exact h1.head y hy
   ·cases hy
  ·show z5y Syn.path _ p=_
   rw[z63];show _=z6i (z5y Hav.path (h :: hs) p) (z5y Hav.path [] p)
   rw[z63];show (if h.path=p then _ else _)=_
   split
   ·rfl
   ·exact i2 p
 | n+1,[],w :: ws,hn,h1,h2,v1,v2=>by
  obtain⟨i1,i2⟩:=z6l n [] ws (by simp at hn ⊢;omega) h1 h2.tail v1 (fun x hx=>v2 x (List.mem_cons_of_mem _ hx))
  simp only[z6h]
  refine⟨List.pairwise_cons.2 ⟨fun x hx=>?_,i1⟩,fun p=>?_⟩
  ·rcases z6j _ _ _ _ hx with⟨y,hy,e⟩ | ⟨y,hy,e⟩
   ·cases hy
   ·rw[← e];exact h2.head y hy
  ·show z5y Syn.path _ p=_
   rw[z63];show _=z6i (z5y Hav.path [] p) (z5y Hav.path (w :: ws) p)
   rw[z63];show (if w.path=p then _ else _)=_
   split
   ·rfl
   ·exact i2 p
 | n+1,h :: hs,w :: ws,hn,h1,h2,v1,v2=>by
  have vh:=v1 h (List.mem_cons_self ..);have vw:=v2 w (List.mem_cons_self ..);have tr:∀ {a b c:ByteArray},z2s a=true→z2s b=true→z2s c=true→z2u a b<0→z2u b c<0→z2u a c<0:=fun x y z=>z5f x y z;simp only[z6h]
  by_cases c1:z2u h.path w.path<0
  ·rw[if_pos c1];obtain⟨i1,i2⟩:=z6l n hs (w :: ws) (by simp at hn ⊢;omega) h1.tail h2 (fun x hx=>v1 x (List.mem_cons_of_mem _ hx)) v2
   refine⟨List.pairwise_cons.2 ⟨fun x hx=>?_,i1⟩,fun p=>?_⟩
   ·rcases z6j _ _ _ _ hx with⟨y,hy,e⟩ | ⟨y,hy,e⟩
    ·rw[← e];exact h1.head y hy
    ·rw[← e];rcases List.mem_cons.1 hy with rfl | hy'
     ·exact c1
     ·exact tr vh vw (v2 y hy) c1 (h2.head y hy')
   ·show z5y Syn.path _ p=_
    rw[z63];show (if h.path=p then _ else _)=z6i (z5y Hav.path (h :: hs) p) (z5y Hav.path (w :: ws) p)
    rw[z63];by_cases e:h.path=p
    ·rw[if_pos e,if_pos e];have:z5y Hav.path (w :: ws) p=none:=z62.2 fun a ha ea=>by
      rcases List.mem_cons.1 ha with rfl | ha'
      ·exact z5z c1 (e.trans ea.symm)
      ·exact z5z (tr vh vw (v2 a ha) c1 (h2.head a ha')) (e.trans ea.symm)
     rw[this];rfl
    ·rw[if_neg e,if_neg e];exact i2 p
  ·rw[if_neg c1];by_cases c2:0<z2u h.path w.path
   ·rw[if_pos c2];have c3:z2u w.path h.path<0:=by rw[z5q];omega
    obtain⟨i1,i2⟩:=z6l n (h :: hs) ws (by simp at hn ⊢;omega) h1 h2.tail v1 (fun x hx=>v2 x (List.mem_cons_of_mem _ hx))
    refine⟨List.pairwise_cons.2 ⟨fun x hx=>?_,i1⟩,fun p=>?_⟩
    ·rcases z6j _ _ _ _ hx with⟨y,hy,e⟩ | ⟨y,hy,e⟩
     ·rw[← e];rcases List.mem_cons.1 hy with rfl | hy'
      ·exact c3
      ·exact tr vw vh (v1 y hy) c3 (h1.head y hy')
     ·rw[← e];exact h2.head y hy
    ·show z5y Syn.path _ p=_
     rw[z63];show (if w.path=p then _ else _)=z6i (z5y Hav.path (h :: hs) p) (z5y Hav.path (w :: ws) p)
     rw[z63 (l:=ws)];by_cases e:w.path=p
     ·rw[if_pos e,if_pos e];have:z5y Hav.path (h :: hs) p=none:=z62.2 fun a ha ea=>by
       rcases List.mem_cons.1 ha with rfl | ha'
       ·exact z5z c3 (e.trans ea.symm)
       ·exact z5z (tr vw vh (v1 a ha) c3 (h1.head a ha')) (e.trans ea.symm)
      rw[this];rfl
     ·rw[if_neg e,if_neg e];exact i2 p
   ·rw[if_neg c2];have ep:=z6k vh vw c1 c2;obtain⟨i1,i2⟩:=z6l n hs ws (by simp at hn ⊢;omega) h1.tail h2.tail (fun x hx=>v1 x (List.mem_cons_of_mem _ hx)) (fun x hx=>v2 x (List.mem_cons_of_mem _ hx))
    have hn1:∀ x∈z6h n hs ws,z2u w.path x.path<0:=fun x hx=>by
     rcases z6j _ _ _ _ hx with⟨y,hy,e⟩ | ⟨y,hy,e⟩
     ·rw[← e,← ep];exact h1.head y hy
     ·rw[← e];exact h2.head y hy
    refine⟨?_,fun p=>?_⟩
    ·split
     ·exact i1
     ·exact List.pairwise_cons.2 ⟨hn1,i1⟩
    ·show _=z6i (z5y Hav.path (h :: hs) p) (z5y Hav.path (w :: ws) p)
     rw[z63,z63];by_cases e:w.path=p
     ·rw[if_pos (ep.trans e),if_pos e];have hno:z5y Syn.path (z6h n hs ws) p=none:=z62.2 fun x hx ex=>z5z (hn1 x hx) (e.trans ex.symm);by_cases eq:h=w
      ·rw[if_pos eq,List.nil_append];show z5y Syn.path _ p=_
       rw[hno];exact (if_pos eq).symm
      ·rw[if_neg eq,List.singleton_append];show z5y Syn.path _ p=_
       rw[z63];show (if w.path=p then _ else _)=_
       rw[if_pos e];exact (if_neg eq).symm
     ·rw[if_neg (fun e2=>e (ep.symm.trans e2)),if_neg e];by_cases eq:h=w
      ·rw[if_pos eq,List.nil_append];exact i2 p
      ·rw[if_neg eq,List.singleton_append];show z5y Syn.path _ p=_
       rw[z63];show (if w.path=p then _ else _)=_
       rw[if_neg e];exact i2 p
abbrev zd1:=Pat×Option Addr×Nat
def zd1.v (q:zd1):Value:=.slice q.2.1 q.1.parts.length q.2.2
def zd1.cells (q:zd1):List Value:=[q.v,.bool q.1.rest]
def zd2 (w:World)(v:Value)(hs:List zd1):Prop:=Row w 2 v hs.length (hs.flatMap zd1.cells)∧∀ q∈hs,za9 w q.v q.1
theorem zd2.below {w w':World}{v:Value}{hs:List zd1}(h:zd2 w v hs)(hb:Below w.heap.size w w'):zd2 w' v hs:=⟨Row.below h.1 hb,fun q hq=>(h.2 q hq).below hb⟩
theorem zd2.at_ {w:World}{A:Option Addr}{c:Nat}{hs:List zd1}(h:zd2 w (.slice A hs.length c) hs){k:Nat}(hk:k<hs.length):
  ∃ ad,A=some ad∧ad.block<w.heap.size∧w.cell? (ad.add (k * 2))=some hs[k].v∧w.cell? ⟨(ad.add (k * 2)).block,(ad.add (k * 2)).off+1,none⟩=some (.bool hs[k].1.rest):=by
 obtain⟨ad,e,hb,hc⟩:=z49 (f:=zd1.cells) (n:=2) (fun _=>rfl) h.1 hk;exact⟨ad,e,hb,hc 0 _ (by rfl),hc 1 _ (by rfl)⟩
def zd3 (b:Pat)(hs:List zd1):Int:=if z7e b≠0 then 50 else if (hs.all fun q=>decide (z7e q.1=0))=false then 51 else if 64<hs.length then 52 else 0
theorem zd4 {b:Pat}{hs:List zd1}(h:z7e b≠0):zd3 b hs=50:=if_pos h
theorem zd5 {b:Pat}{hs:List zd1}{k:Nat}(hb:z7e b=0)(hk:k<hs.length)(h:z7e hs[k].1≠0):zd3 b hs=51:=by
 unfold zd3;rw[if_neg (by rw[hb];simp),if_pos]
 rw[Bool.eq_false_iff];intro ha;exact h (by simpa using List.all_eq_true.1 ha _ (List.getElem_mem hk))
theorem zd6 {b:Pat}{hs:List zd1}(hb:z7e b=0)(h:∀ j (hj:j<hs.length),z7e hs[j].1=0):zd3 b hs=if 64<hs.length then 52 else 0:=by
 unfold zd3;rw[if_neg (by rw[hb];simp),if_neg]
 rw[Bool.not_eq_false];refine List.all_eq_true.2 fun q hq=>?_;obtain⟨j,hj,rfl⟩:=List.getElem_of_mem hq;simpa using h j hj
theorem zd7 (b:Pat)(hs:List zd1)(A H:Option Addr)(a c:Nat)(w:World)(hb:za9 w (.slice A b.parts.length a) b)(hh:zd2 w (.slice H hs.length c) hs)(hl:hs.length≤1000000):
  Calls prog 82 #[.agg #[.slice A b.parts.length a,.bool b.rest,.slice H hs.length c]] w fun e w'=>e=.returned (.int .i64 (zd3 b hs))∧Below w.heap.size w w':=by
 have hB:=z0l w [.slice A b.parts.length a,.bool b.rest,.slice H hs.length c] 115;have hA:Below w.heap.size w (w.alloc (.cells #[.slice A b.parts.length a,.bool b.rest,.slice H hs.length c] 115)):=(Below.refl _ _).alloc (Nat.le_refl _) _;have HC:=hd_ (fun X (hX:Below w.heap.size w X)=>za0 b A a X (hb.below hX).1 hb.small);have HH:=hd_ hh;have HN1:=hd_ (@zd4 b hs);have HN2:=hd_ (fun k=>@zd5 b hs k);have HN3:=hd_ (@zd6 b hs);clear hb hh;go_enter func82,ntmps82;go_upto_region 1 with fail;generalize w.alloc (.cells #[.slice A b.parts.length a,.bool b.rest,.slice H hs.length c] 115)=W1 at hA hB ⊢;obtain⟨d0,d1⟩:=(⟨hB.cell 0,hB.cell 1⟩:W1.cell? ⟨w.heap.size,0,none⟩=some (.slice A b.parts.length a)∧W1.cell? ⟨w.heap.size,1,none⟩=some (.bool b.rest));have HB:=hd_ hB;have HA:=hd_ hA;have HC1:=hd_ (HC.out W1 hA);clear hA hB HC;obtain⟨pe,hpe⟩:∃ pe,z7e b=pe:=⟨_,rfl⟩;have HPE:=hd_ hpe;rw[hpe] at HC1;clear hpe;by_cases h0:pe=0
 case neg =>
  have q:(pe != 0)=true:=by simpa using h0
  have HR:=hd_ (HN1.out (by rw[HPE.out];exact h0))
  clear h0;go_wp2_with fail;refine HC1.out.mono ?_;rintro e w2 ⟨rfl,hb⟩;have HB2:=hd_ (z0r HA.out hb);clear hb d0 d1;go_wp2_with fail;go_ret;exact⟨z7j HR.out.symm,HB2.out⟩
 subst h0;go_wp2_with fail;refine HC1.out.mono ?_;rintro e w2 ⟨rfl,hb⟩;have HA:=hd_ (z0r HA.out hb);have HB:=hd_ (HB.out.below hb HB.out.lt);clear hb d0 d1 HC1;have d2:w2.cell? ⟨w.heap.size,2,none⟩=some (.slice H hs.length c):=HB.out.cell 2;go_wp2_with fail;go_loopw [12] (fun i wr=>∃ k:Nat,i=.int .i64 k∧k≤hs.length∧Hid ((∀ j (hj:j<hs.length),j<k→z7e hs[j].1=0)∧Below w2.heap.size w2 wr)) (fun i _=>hs.length - (intOf i).toNat)
 case atStart=>exact⟨0,rfl,Nat.zero_le _,hd_ ⟨fun j _ h=>by omega,Below.refl _ _⟩⟩
 case round =>
  obtain⟨k,rfl,hk,HI⟩:=hrel;clear d2;by_cases hlt:k<hs.length
  ·have HHX:=hd_ (HH.out.below (z0r HA.out HI.out.2));obtain⟨ad,rfl,hab,s0,s1⟩:=HHX.out.at_ hlt;have HPK:=hd_ (HHX.out.2 hs[k] (List.getElem_mem hlt));have HNO:=hd_ (HN2.out k HPE.out hlt);have HYE:Hid (z7e hs[k].1=0→∀ j (hj:j<hs.length),j<k+1→z7e hs[j].1=0):=hd_ (fun h j hj hjk=>by
    by_cases e:j=k
    ·subst e;exact h
    ·exact HI.out.1 j hj (by omega))
   generalize hs[k]=q at s0 s1 HPK HNO HYE;obtain⟨q,Aq,cq⟩:=q;change wr.cell? _=some (.slice Aq q.parts.length cq) at s0;change wr.cell? _=some (.bool q.rest) at s1;have hX:Below w2.heap.size w2 (wr.alloc (.cells #[.slice Aq q.parts.length cq,.bool q.rest] 97)):=HI.out.2.alloc HI.out.2.size _;have hbq:Below wr.heap.size wr (wr.alloc (.cells #[.slice Aq q.parts.length cq,.bool q.rest] 97)):=(Below.refl _ _).alloc (Nat.le_refl _) _;have HCQ:=hd_ (za0 q Aq cq (wr.alloc (.cells #[.slice Aq q.parts.length cq,.bool q.rest] 97)) (HPK.out.below hbq).1 HPK.out.small);have HX:=hd_ hX;clear hab hX hbq;obtain⟨qe,hqe⟩:∃ qe,z7e q=qe:=⟨_,rfl⟩;have HQE:=hd_ hqe;rw[hqe] at HCQ;clear hqe;have HLT:=hd_ hlt;by_cases h1:qe=0
   ·subst h1;have HN:=hd_ (HYE.out HQE.out);go_wp2_with fail;refine HCQ.out.mono ?_;rintro e w4 ⟨rfl,hb⟩;have HB4:=hd_ (z0r HX.out hb);clear hb s0 s1;go_wp2_with fail;go_roundw
    case rel=>exact⟨k+1,by go_num,by omega,hd_ ⟨HN.out,HB4.out⟩⟩
    case measure=>simp [intOf];omega
   ·have hq:(qe != 0)=true:=by simpa using h1
    have HR:=hd_ (HNO.out (by show z7e q≠0;rw[HQE.out];exact h1))
    clear h1;go_wp2_with fail;refine HCQ.out.mono ?_;rintro e w4 ⟨rfl,hb⟩;have HB4:=hd_ (z0r HA.out (z0r HX.out hb));clear hb s0 s1;go_wp2_with fail;go_ret;exact⟨z7j HR.out.symm,HB4.out⟩
  ·have hke:k=hs.length:=by omega
   subst hke;have HE:=hd_ (HN3.out HPE.out (fun j hj=>HI.out.1 j hj hj));have HBE:=hd_ (z0r HA.out HI.out.2);have d2:wr.cell? ⟨w.heap.size,2,none⟩=some (.slice H hs.length c):=(HB.out.below HI.out.2 HB.out.lt).cell 2;have hge:¬((hs.length:Int)<(hs.length:Int)):=by omega
   by_cases h6:64<hs.length
   ·have q6:decide ((64:Int)<(hs.length:Int))=true:=by simp;omega
    have q7:(64:Int)<(hs.length:Int):=by omega
    have HR:=hd_ (HE.out.trans (if_pos h6));clear h6;go_wp2_with fail;go_ret;exact⟨z7j HR.out.symm,HBE.out⟩
   ·have q6:decide ((64:Int)<(hs.length:Int))=false:=by simp;omega
    have q7:¬(64:Int)<(hs.length:Int):=by omega
    have HR:=hd_ (HE.out.trans (if_neg h6));clear h6;go_wp2_with fail;go_ret;exact⟨z7j HR.out.symm,HBE.out⟩
theorem zov (x:Int):∃ r:Nat,r<18446744073709551616∧IntKind.u64.wrap x=r:=
 ⟨(x % 18446744073709551616).toNat,by omega,by simp [IntKind.wrap,IntKind.bits,IntKind.signed];omega⟩
theorem zow (a b:Int):∃ r:Nat,r<18446744073709551616∧∀ w,Calls prog 213 #[.int .u64 a,.int .u64 b] w fun e w'=>e=.returned (.int .u64 r)∧w'=w:=by
 obtain⟨s,hs,q0⟩:=zov (a+b);by_cases h:(2305843009213693951:Int)≤s
 ·have q1:decide ((2305843009213693951:Int)≤s)=true:=by simpa using h
  obtain⟨x,hx,q2⟩:=zov ((s:Int) - 2305843009213693951);clear h;by_cases h:(2305843009213693951:Int)≤x
  ·have q3:decide ((2305843009213693951:Int)≤x)=true:=by simpa using h
   obtain⟨y,hy,q4⟩:=zov ((x:Int) - 2305843009213693951);clear h;refine⟨y,hy,fun w=>?_⟩;go_enter func213,ntmps213;go_wp2_with fail;go_ret;exact⟨rfl,rfl⟩
  ·have q3:decide ((2305843009213693951:Int)≤x)=false:=by simpa using h
   clear h;refine⟨x,hx,fun w=>?_⟩;go_enter func213,ntmps213;go_wp2_with fail;go_ret;exact⟨rfl,rfl⟩
 ·have q1:decide ((2305843009213693951:Int)≤s)=false:=by simpa using h
  clear h;refine⟨s,hs,fun w=>?_⟩;go_enter func213,ntmps213;go_wp2_with fail;go_ret;exact⟨rfl,rfl⟩
theorem rMul_ex (a b:Nat)(ha:a<18446744073709551616)(hb:b<18446744073709551616):∃ r:Nat,r<18446744073709551616∧∀ w,Calls prog 214 #[.int .u64 a,.int .u64 b] w fun e w'=>e=.returned (.int .u64 r)∧w'=w:=by
 have HM:=hd_ (fun w=>Tryz.bits_Mul64 a b ha hb w);generalize a * b / 18446744073709551616=hi at HM;generalize a * b % 18446744073709551616=lo at HM;obtain⟨r,hr,hP⟩:=zow (bits .and .u64 lo 2305843009213693951) (bits .or .u64 (IntKind.u64.wrap (hi * 8)) (lo / 2305843009213693952));have HP:=hd_ hP;clear hP;refine⟨r,hr,fun w=>?_⟩;go_enter func214,ntmps214;go_wp2_with fail;refine (HM.out _).mono ?_;rintro e w' ⟨rfl,rfl⟩;dsimp only;go_wp2_with fail;refine (HP.out _).mono ?_;rintro e w' ⟨rfl,rfl⟩;dsimp only;go_wp2_with fail;go_ret;exact⟨rfl,rfl⟩
theorem zox (l:List UInt8)(v:Value)(w:World)(hb:Bytes w v l):
  Calls prog 180 #[v] w fun e w'=>(∃ r:Nat,r<18446744073709551616∧e=.returned (.int .u64 r))∧Below w.heap.size w w':=by
 obtain⟨A,c,rfl,hcc,hmm,-⟩:=id hb;have HB:=hd_ hb;unfold maxLen at hmm;clear hb;go_enter func180,ntmps180;go_wp2_with fail;go_loopw [3,4] (fun u i wr=>∃ k s:Nat,i=.int .i64 k∧u=.int .u64 s∧k≤l.length∧Hid (s<18446744073709551616∧Below w.heap.size w wr)) (fun _ i _=>l.length - (intOf i).toNat)
 case atStart=>exact⟨0,0,rfl,rfl,Nat.zero_le _,hd_ ⟨by decide,Below.refl _ _⟩⟩
 case round =>
  obtain⟨k,s,rfl,rfl,hk,HI⟩:=hrel;by_cases hlt:k<l.length
  ·obtain⟨ad,rfl,hab,x0⟩:=Bytes.at_ (HB.out.below HI.out.2) hlt;generalize l[k].toNat=xn at x0;obtain⟨m,hm,hM⟩:=rMul_ex s 747382712868975713 HI.out.1 (by decide)
   obtain⟨x1,hx1,q1⟩:=zov xn;obtain⟨x2,hx2,q2⟩:=zov ((x1:Int)+1);obtain⟨r,hr,hP⟩:=zow m x2;have HM:=hd_ hM;have HP:=hd_ hP;have HRR:=hd_ hr;have hzk:(k:Int)<(l.length:Int):=by omega
   have HLT:=hd_ hlt;clear hM hP hr hm hx1 hx2 hab hlt;go_upto_region 5 with fail;go_quiet ((first | (go_at_call 214;exact Calls.quiet_of_same (HM.out _)) | (go_at_call 213;exact Calls.quiet_of_same (HP.out _))))
   clear q1 q2 x0;go_wp2_with fail;go_roundw
   case rel=>exact⟨k+1,r,by go_num,rfl,by have:=HLT.out;omega,hd_ ⟨HRR.out,z0p HI.out.2 _⟩⟩
   case measure=>have:=HLT.out;simp [intOf];omega
  ·have hge:¬((k:Int)<(l.length:Int)):=by omega
   have HF:=hd_ HI.out;clear HI;go_wp2_with fail;go_ret;exact⟨⟨s,HF.out.1,rfl⟩,HF.out.2⟩
theorem rOf_any (l:List UInt8)(v:Value)(w:World)(hb:Bytes w v l):
  Calls prog 132 #[v] w fun e w'=>(∃ r:Nat,e=.returned (.agg #[.int .u64 r,.int .i64 l.length]))∧Below w.heap.size w w':=by
 obtain⟨A,c,rfl,hcc,hmm,-⟩:=id hb;have hB:=z0l w [.int .u64 0,.int .i64 0] 64;have hA:Below w.heap.size w (w.alloc (.cells #[.int .u64 0,.int .i64 0] 64)):=(Below.refl _ _).alloc (Nat.le_refl _) _;have HS:=hd_ (zox l (.slice A l.length c) _ (Row.below hb hA));have HA:=hd_ hA;have HB:=hd_ hB;clear hb hA hB;unfold maxLen at hmm;go_enter func132,ntmps132;go_upto_region 1 with fail;generalize w.alloc (.cells #[.int .u64 0,.int .i64 0] 64)=W at HS HB HA ⊢;go_wp2_with fail;refine HS.out.mono ?_;rintro e w2 ⟨⟨r,hr,rfl⟩,hb⟩;dsimp only;have HX:=hd_ (HB.out.below hb HB.out.lt);have HA2:=hd_ (z0r HA.out hb);clear hb HS hr;have c0:w2.cell? ⟨w.heap.size,0,none⟩=some (.int .u64 0):=HX.out.cell 0;have c1:w2.cell? ⟨w.heap.size,1,none⟩=some (.int .i64 0):=HX.out.cell 1;have f0:w2.frozen? ⟨w.heap.size,0,none⟩=false:=HX.out.frozen 0;have f1:w2.frozen? ⟨w.heap.size,1,none⟩=false:=HX.out.frozen 1;have HR:=hd_ ((HX.out.set_ 0 (.int .u64 (r:Int))).set_ 1 (.int .i64 (l.length:Int)));have HA3:=hd_ ((HA2.out.setCell (p:=⟨w.heap.size,0,none⟩) (Nat.le_refl _) (.int .u64 (r:Int))).setCell (p:=⟨w.heap.size,1,none⟩) (Nat.le_refl _) (.int .i64 (l.length:Int)));go_wp2_with fail;have r0:=HR.out.cell 0;have r1:=HR.out.cell 1;exact bodyPost_ret (v:=.agg #[.int .u64 (r:Int),.int .i64 (l.length:Int)]) (by simp at r0 r1;simp [results,results132,go_sem,r0,r1]) rfl ⟨⟨r,rfl⟩,HA3.out⟩
end Go.Proofs.YtegeboijhifmcaaGreatDoor
