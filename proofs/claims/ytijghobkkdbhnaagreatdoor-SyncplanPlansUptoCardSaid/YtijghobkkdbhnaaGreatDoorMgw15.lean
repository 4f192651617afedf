/- A part. -/
import Derived.Test.YtijghobkkdbhnaaGreatDoorMgw9
set_option linter.unusedVariables false
set_option linter.unusedSimpArgs false
namespace Go.Proofs.YtijghobkkdbhnaaGreatDoor
open Go.RowKit
inductive Bl (hs:List Hav) (pl:List Syn):ByteArray→Prop
 | free {x:Syn} {h:Hav}:x∈pl→z3o x.kind=false→x.dst≠z2l→h∈hs→h.loc=x.dst→h.path≠x.path→z6f pl h.path=none→Bl hs pl x.path
 | stay {x y:Syn} {h:Hav}:x∈pl→z3o x.kind=false→x.dst≠z2l→h∈hs→h.loc=x.dst→h.path≠x.path→z6f pl h.path=some y→z3o y.kind=true→Bl hs pl x.path
 | next {x:Syn} {h:Hav}:x∈pl→z3o x.kind=false→x.dst≠z2l→h∈hs→h.loc=x.dst→h.path≠x.path→Bl hs pl h.path→Bl hs pl x.path
noncomputable def blB (hs:List Hav)(pl:List Syn)(p:ByteArray):Bool:=@decide (Bl hs pl p) (Classical.propDecidable _)
theorem zej {hs:List Hav}{pl:List Syn}{p:ByteArray}:blB hs pl p=true↔Bl hs pl p:=by unfold blB;exact @decide_eq_true_iff _ (Classical.propDecidable _)
def zek (b:ByteArray→Bool)(x:Syn):Syn:=if b x.path then { x with kind:=5 } else x
def zel (b:ByteArray→Bool)(pl:List Syn):List Syn:=pl.map (zek b)
theorem zem (b:ByteArray→Bool)(x:Syn):(zek b x).path=x.path:=by unfold zek;split <;> rfl
theorem zen (b:ByteArray→Bool)(x:Syn):(zek b x).num=x.num∧(zek b x).frm=x.frm∧(zek b x).dst=x.dst:=by unfold zek;split <;> exact⟨rfl,rfl,rfl⟩
theorem zeo (b:ByteArray→Bool)(x:Syn):z3o (zek b x).kind=(b x.path || z3o x.kind):=by
 unfold zek;cases b x.path
 ·rfl
 ·rfl
theorem zep (b:ByteArray→Bool)(pl:List Syn)(p:ByteArray):z6f (zel b pl) p=(z6f pl p).map (zek b):=z6a (zem b) pl p
theorem zeq {pl:List Syn}(h:z6d pl)(b:ByteArray→Bool):z6d (zel b pl):=z69 h (zem b)
def zer (pl:List Syn)(b:ByteArray→Bool)(p:ByteArray):Prop:=z6f pl p=none∨∃ y,z6f pl p=some y∧(z3o y.kind=true∨b p=true)
theorem zes {hs:List Hav}{pl:List Syn}{b:ByteArray→Bool}(hs1:∀ p,b p=true→Bl hs pl p)
  (hc:∀ x∈pl,z3o x.kind=false→b x.path=false→x.dst≠z2l→∀ h∈hs,h.loc=x.dst→h.path≠x.path→¬ zer pl b h.path):b=blB hs pl:=by
 have key:∀ p,Bl hs pl p→b p=true:=by
  intro p hp;induction hp with
  | free h1 h2 h3 h4 h5 h6 h7 =>
   cases e:b _ with
   | true=>rfl
   | false=>exact absurd (.inl h7) (hc _ h1 h2 e h3 _ h4 h5 h6)
  | stay h1 h2 h3 h4 h5 h6 h7 h8 =>
   cases e:b _ with
   | true=>rfl
   | false=>exact absurd (.inr ⟨_,h7,.inl h8⟩) (hc _ h1 h2 e h3 _ h4 h5 h6)
  | @next x h h1 h2 h3 h4 h5 h6 h7 ih =>
   cases e:b x.path with
   | true=>rfl
   | false =>
    have hst:zer pl b h.path:=by
     cases hg:z6f pl h.path with
     | none=>exact .inl hg
     | some y=>exact .inr ⟨y,hg,.inr ih⟩
    exact absurd hst (hc _ h1 h2 e h3 _ h4 h5 h6)
 funext p
 rw[Bool.eq_iff_iff,zej];exact⟨hs1 p,key p⟩
theorem zet {hs:List Hav}{pl:List Syn}{b:ByteArray→Bool}(hb:∀ p,b p=true→Bl hs pl p){x:Syn}{h:Hav}(h1:x∈pl)(h2:z3o x.kind=false)(h3:x.dst≠z2l)(h4:h∈hs)(h5:h.loc=x.dst)(h6:h.path≠x.path)(h7:zer pl b h.path):Bl hs pl x.path:=by
 rcases h7 with h7 | ⟨y,h7,h8 | h8⟩
 ·exact .free h1 h2 h3 h4 h5 h6 h7
 ·exact .stay h1 h2 h3 h4 h5 h6 h7 h8
 ·exact .next h1 h2 h3 h4 h5 h6 (hb _ h8)
def zeu (ho:Option Hav)(so:Option Syn):Option Hav:=
 match so with
 | none=>ho
 | some x=>if z3o x.kind then ho else if x.dst=z2l then none else some ⟨x.path,x.num,x.dst⟩
theorem zev {x:Syn}{a:Hav}(h:a∈z4t x):a.path=x.path:=by
 unfold z4t at h;split at h
 ·cases h
 ·unfold z4s at h;split at h
  ·cases h
  ·rw[List.mem_singleton] at h;subst h;rfl
theorem zew {x:Syn}{a:Hav}(h:a∈z4s x):a.path=x.path:=by
 unfold z4s at h;split at h
 ·cases h
 ·rw[List.mem_singleton] at h;subst h;rfl
theorem zex (x:Syn):z6c (z4t x):=by
 unfold z4t z4s;split
 ·exact List.Pairwise.nil
 ·split
  ·exact List.Pairwise.nil
  ·exact List.pairwise_singleton ..
theorem zey (x:Syn):z6c (z4s x):=by
 unfold z4s;split
 ·exact List.Pairwise.nil
 ·exact List.pairwise_singleton ..
theorem zez (x:Syn)(p:ByteArray):z6e (z4t x) p=if x.path=p then zeu none (some x) else none:=by
 show z5y Hav.path _ p=_
 unfold z4t z4s zeu;by_cases h1:z3o x.kind=true
 ·rw[if_pos h1];simp [h1,z5y]
 ·rw[if_neg h1];by_cases h2:x.dst=z2l
  ·rw[if_pos h2];simp [h1,h2,z5y]
  ·rw[if_neg h2,z63];simp [h1,h2,z5y]
theorem zf0 (x:Syn)(p:ByteArray):z6e (z4s x) p=if x.path=p then (if x.dst=z2l then none else some ⟨x.path,x.num,x.dst⟩) else none:=by
 show z5y Hav.path _ p=_
 unfold z4s;by_cases h2:x.dst=z2l
 ·rw[if_pos h2];simp [h2,z5y]
 ·rw[if_neg h2,z63];simp [h2,z5y]
theorem zf1 {h:Hav}{hs:List Hav}{x:Syn}{r:List Syn}(c:z2u x.path h.path<0):z4y (h :: hs) (x :: r)=z4t x++z4y (h :: hs) r:=by
 simp only[z4y,z4u,z4v,if_pos c,List.append_assoc]
theorem zf2 {h:Hav}{hs:List Hav}{x:Syn}{r:List Syn}(c:¬ z2u x.path h.path<0)(e:x.path=h.path):z4y (h :: hs) (x :: r)=(if z3o x.kind then [h] else z4s x)++z4y hs r:=by
 simp only[z4y,z4u,z4v,if_neg c,z4w,z4x,if_pos e,List.nil_append]
theorem zf3 {h:Hav}{hs:List Hav}{x:Syn}{r:List Syn}(c:¬ z2u x.path h.path<0)(e:¬ x.path=h.path):z4y (h :: hs) (x :: r)=h :: z4y hs (x :: r):=by
 simp only[z4y,z4u,z4v,if_neg c,z4w,z4x,if_neg e,List.nil_append,List.singleton_append]
theorem zf4 {h:Hav}{hs:List Hav}:z4y (h :: hs) []=h :: z4y hs []:=by
 simp only[z4y,z4u,z4v,z4w,z4x,List.nil_append,List.singleton_append]
theorem zf5:∀(n:Nat) (hs:List Hav) (ps:List Syn),hs.length+ps.length≤n→z6c hs→z6d ps→(∀ x∈hs,z2s x.path=true)→(∀ x∈ps,z2s x.path=true) →
  z6c (z4y hs ps)∧(∀ a∈z4y hs ps,(∃ h∈hs,h.path=a.path)∨∃ x∈ps,x.path=a.path)∧∀ p,z6e (z4y hs ps) p=zeu (z6e hs p) (z6f ps p)
 | 0,hs,ps,hn,_,_,_,_=>by
  have e1:hs=[]:=List.eq_nil_of_length_eq_zero (by omega)
  have e2:ps=[]:=List.eq_nil_of_length_eq_zero (by omega)
  subst e1 e2;exact⟨List.Pairwise.nil,(fun a ha=>by cases ha),fun p=>rfl⟩
 | _+1,[],[],_,_,_,_,_=>⟨List.Pairwise.nil,(fun a ha=>by cases ha),fun p=>rfl⟩
 | n+1,[],x :: r,hn,h1,h2,v1,v2=>by
  obtain⟨i1,i2,i3⟩:=zf5 n [] r (by simp at hn ⊢;omega) h1 h2.tail v1 (fun y hy=>v2 y (List.mem_cons_of_mem _ hy))
  have e:z4y [] (x :: r)=z4t x++z4y [] r:=by simp only[z4y,List.flatMap_cons]
  rw[e];refine⟨z68 (zex x) i1 fun a ha b hb=>?_,fun a ha=>?_,fun p=>?_⟩
  ·rw[zev ha];rcases i2 b hb with⟨y,hy,_⟩ | ⟨y,hy,e⟩
   ·cases hy
   ·rw[← e];exact h2.head y hy
  ·rcases List.mem_append.1 ha with ha | ha
   ·exact .inr ⟨x,List.mem_cons_self ..,(zev ha).symm⟩
   ·rcases i2 a ha with⟨y,hy,_⟩ | ⟨y,hy,e⟩
    ·cases hy
    ·exact .inr ⟨y,List.mem_cons_of_mem _ hy,e⟩
  ·show z5y Hav.path _ p=zeu _ (z5y Syn.path _ p)
   rw[z64,z63];have:=zez x p;show (z6e (z4t x) p).or (z6e (z4y [] r) p)=_
   rw[this,i3];by_cases e:x.path=p
   ·rw[if_pos e,if_pos e];have hno:z6f r p=none:=z62.2 fun y hy ey=>z5z (h2.head y hy) (e.trans ey.symm);rw[hno];show (zeu none (some x)).or none=zeu none (some x)
    cases zeu none (some x) <;> rfl
   ·rw[if_neg e,if_neg e];rfl
 | n+1,h :: hs,[],hn,h1,h2,v1,v2=>by
  obtain⟨i1,i2,i3⟩:=zf5 n hs [] (by simp at hn ⊢;omega) h1.tail h2 (fun y hy=>v1 y (List.mem_cons_of_mem _ hy)) v2
  rw[zf4];refine⟨List.pairwise_cons.2 ⟨fun b hb=>?_,i1⟩,fun a ha=>?_,fun p=>?_⟩
  ·rcases i2 b hb with⟨y,hy,e⟩ | ⟨y,hy,_⟩
   ·rw[← e];exact h1.head y hy
   ·cases hy
  ·rcases List.mem_cons.1 ha with rfl | ha
   ·exact .inl ⟨_,List.mem_cons_self ..,rfl⟩
   ·rcases i2 a ha with⟨y,hy,e⟩ | ⟨y,hy,_⟩
    ·exact .inl ⟨y,List.mem_cons_of_mem _ hy,e⟩
    ·cases hy
  ·show z5y Hav.path _ p=zeu (z5y Hav.path _ p) _
   rw[z63,z63];split
   ·rfl
   ·exact i3 p
 | n+1,h :: hs,x :: r,hn,h1,h2,v1,v2=>by
  have vh:=v1 h (List.mem_cons_self ..);have vx:=v2 x (List.mem_cons_self ..);by_cases c1:z2u x.path h.path<0
  ·obtain⟨i1,i2,i3⟩:=zf5 n (h :: hs) r (by simp at hn ⊢;omega) h1 h2.tail v1 (fun y hy=>v2 y (List.mem_cons_of_mem _ hy))
   rw[zf1 c1];have lo:∀ y∈h :: hs,z2u x.path y.path<0:=fun y hy=>by
    rcases List.mem_cons.1 hy with rfl | hy'
    ·exact c1
    ·exact z5f vx vh (v1 y hy) c1 (h1.head y hy')
   refine⟨z68 (zex x) i1 fun a ha b hb=>?_,fun a ha=>?_,fun p=>?_⟩
   ·rw[zev ha];rcases i2 b hb with⟨y,hy,e⟩ | ⟨y,hy,e⟩
    ·rw[← e];exact lo y hy
    ·rw[← e];exact h2.head y hy
   ·rcases List.mem_append.1 ha with ha | ha
    ·exact .inr ⟨x,List.mem_cons_self ..,(zev ha).symm⟩
    ·rcases i2 a ha with⟨y,hy,e⟩ | ⟨y,hy,e⟩
     ·exact .inl ⟨y,hy,e⟩
     ·exact .inr ⟨y,List.mem_cons_of_mem _ hy,e⟩
   ·show z5y Hav.path _ p=zeu (z5y Hav.path (h :: hs) p) (z5y Syn.path (x :: r) p)
    rw[z64,z63 (k:=Syn.path)];show (z6e (z4t x) p).or (z6e (z4y (h :: hs) r) p)=_
    rw[zez,i3];by_cases e:x.path=p
    ·rw[if_pos e,if_pos e];have hno:z6f r p=none:=z62.2 fun y hy ey=>z5z (h2.head y hy) (e.trans ey.symm);have hnh:z6e (h :: hs) p=none:=z62.2 fun y hy ey=>z5z (lo y hy) (e.trans ey.symm);rw[hno,hnh];show (zeu none (some x)).or none=zeu (z6e (h :: hs) p) (some x)
     rw[hnh];cases zeu none (some x) <;> rfl
    ·rw[if_neg e,if_neg e];rfl
  ·by_cases c2:x.path=h.path
   ·obtain⟨i1,i2,i3⟩:=zf5 n hs r (by simp at hn ⊢;omega) h1.tail h2.tail (fun y hy=>v1 y (List.mem_cons_of_mem _ hy)) (fun y hy=>v2 y (List.mem_cons_of_mem _ hy))
    rw[zf2 c1 c2];have lo:∀ b∈z4y hs r,z2u x.path b.path<0:=fun b hb=>by
     rcases i2 b hb with⟨y,hy,e⟩ | ⟨y,hy,e⟩
     ·rw[← e,c2];exact h1.head y hy
     ·rw[← e];exact h2.head y hy
    have hkp:∀ a∈(if z3o x.kind then [h] else z4s x),a.path=x.path:=fun a ha=>by
     split at ha
     ·rw[List.mem_singleton] at ha;subst ha;exact c2.symm
     ·exact zew ha
    refine⟨z68 ?_ i1 fun a ha b hb=>by rw[hkp a ha];exact lo b hb,fun a ha=>?_,fun p=>?_⟩
    ·split
     ·exact List.pairwise_singleton ..
     ·exact zey x
    ·rcases List.mem_append.1 ha with ha | ha
     ·exact .inr ⟨x,List.mem_cons_self ..,(hkp a ha).symm⟩
     ·rcases i2 a ha with⟨y,hy,e⟩ | ⟨y,hy,e⟩
      ·exact .inl ⟨y,List.mem_cons_of_mem _ hy,e⟩
      ·exact .inr ⟨y,List.mem_cons_of_mem _ hy,e⟩
    ·show z5y Hav.path _ p=zeu (z5y Hav.path (h :: hs) p) (z5y Syn.path (x :: r) p)
     rw[z64,z63 (k:=Syn.path),z63 (l:=hs)];have hr:z5y Hav.path (z4y hs r) p=zeu (z6e hs p) (z6f r p):=i3 p;rw[hr];by_cases e:x.path=p
     ·rw[if_pos e,if_pos (c2.symm.trans e)];have hno:z6f r p=none:=z62.2 fun y hy ey=>z5z (h2.head y hy) (e.trans ey.symm);have hnh:z6e hs p=none:=z62.2 fun y hy ey=>z5z (h1.head y hy) ((c2.symm.trans e).trans ey.symm);rw[hno,hnh];show Option.or _ none=_
      rw[Option.or_none];by_cases st:z3o x.kind=true
      ·rw[if_pos st,z63,if_pos (c2.symm.trans e)];simp [zeu,st]
      ·rw[if_neg st];have:=zf0 x p;rw[if_pos e] at this;show z6e (z4s x) p=_
       rw[this];simp [zeu,st]
     ·rw[if_neg e,if_neg (fun e2=>e (c2.trans e2))];have hno:z5y Hav.path (if z3o x.kind then [h] else z4s x) p=none:=z62.2 fun a ha ea=>e ((hkp a ha).symm.trans ea);rw[hno];rfl
   ·obtain⟨i1,i2,i3⟩:=zf5 n hs (x :: r) (by simp at hn ⊢;omega) h1.tail h2 (fun y hy=>v1 y (List.mem_cons_of_mem _ hy)) v2
    rw[zf3 c1 c2];have c3:z2u h.path x.path<0:=by
     have h0:¬ z2u x.path h.path=0:=fun e0=>c2 (z5r vx vh e0);rw[z5q];omega
    have lo:∀ y∈x :: r,z2u h.path y.path<0:=fun y hy=>by
     rcases List.mem_cons.1 hy with rfl | hy'
     ·exact c3
     ·exact z5f vh vx (v2 y hy) c3 (h2.head y hy')
    refine⟨List.pairwise_cons.2 ⟨fun b hb=>?_,i1⟩,fun a ha=>?_,fun p=>?_⟩
    ·rcases i2 b hb with⟨y,hy,e⟩ | ⟨y,hy,e⟩
     ·rw[← e];exact h1.head y hy
     ·rw[← e];exact lo y hy
    ·rcases List.mem_cons.1 ha with rfl | ha
     ·exact .inl ⟨_,List.mem_cons_self ..,rfl⟩
     ·rcases i2 a ha with⟨y,hy,e⟩ | ⟨y,hy,e⟩
      ·exact .inl ⟨y,List.mem_cons_of_mem _ hy,e⟩
      ·exact .inr ⟨y,hy,e⟩
    ·show z5y Hav.path _ p=zeu (z5y Hav.path (h :: hs) p) (z5y Syn.path (x :: r) p)
     rw[z63,z63 (l:=hs)];by_cases e:h.path=p
     ·rw[if_pos e,if_pos e];have hno:z5y Syn.path (x :: r) p=none:=z62.2 fun y hy ey=>z5z (lo y hy) (e.trans ey.symm);rw[hno];rfl
     ·rw[if_neg e,if_neg e];exact i3 p
structure zf6 (l:List Hav):Prop where
 srt:z6c l
 ok:∀ x∈l,x.okB=true
 loc:∀ x∈l,∀ y∈l,x.loc=y.loc→x.path=y.path
theorem zf7 {x:Hav}(h:x.okB=true):z3q x.path=true∧z3q x.loc=true∧1≤x.num:=by
 unfold Hav.okB at h;simp only[Bool.and_eq_true,decide_eq_true_eq] at h
 exact⟨h.1.1,h.1.2,h.2⟩
theorem zf8 {p:ByteArray}(h:z3q p=true):z2s p=true∧p.size≤200∧p≠z2l:=by
 unfold z3q at h;simp only[Bool.and_eq_true,decide_eq_true_eq] at h
 refine⟨h.2,h.1,?_⟩;rintro rfl;exact absurd h.2 (by decide)
theorem zf6.valid {l:List Hav}(h:zf6 l):∀ x∈l,z2s x.path=true:=fun x hx=>(zf8 (zf7 (h.ok x hx)).1).1
theorem zf6.locNe {l:List Hav}(h:zf6 l){x:Hav}(hx:x∈l):x.loc≠z2l:=(zf8 (zf7 (h.ok x hx)).2.1).2.2
theorem zf9:zf6 []:=⟨List.Pairwise.nil,(fun x hx=>by cases hx),(fun x hx=>by cases hx)⟩
theorem zfa:∀(l:List Hav) (p:Option Hav) (s:List ByteArray),(∀ q,p=some q→z2s q.path=true) →
  (z4f p s l=0↔zf6 l∧(∀ q,p=some q→∀ x∈l,z2u q.path x.path<0)∧∀ x∈l,x.loc∉s)
 | [],p,s,_=>⟨fun _=>⟨zf9,(fun q _ x hx=>by cases hx),(fun x hx=>by cases hx)⟩,fun _=>rfl⟩
 | h :: r,p,s,hv=>by
  rw[z4f];by_cases h1:(!h.okB || z4d p h)=true
  ·rw[if_pos h1];refine⟨fun e=>absurd e (by decide),fun ⟨g1,g2,g3⟩=>?_⟩
   have o1:=g1.ok h (List.mem_cons_self ..);rw[o1] at h1;cases p with
   | none=>exact absurd h1 (by show ¬(false || false)=true;decide)
   | some q =>
    have:=g2 q rfl h (List.mem_cons_self ..);rw[z4e] at h1;simp at h1
    omega
  ·rw[if_neg h1];have o1:h.okB=true:=by cases e:h.okB;rw[e] at h1;exact absurd rfl h1;rfl
   have o2:z4d p h=false:=by cases e:z4d p h;rfl;rw[e,Bool.or_true] at h1;exact absurd rfl h1
   have vh:=(zf8 (zf7 o1).1).1;by_cases h2:h.loc∈s
   ·rw[if_pos h2];exact⟨fun e=>absurd e (by decide),fun ⟨g1,g2,g3⟩=>absurd h2 (g3 h (List.mem_cons_self ..))⟩
   ·rw[if_neg h2,zfa r (some h) (h.loc :: s) (fun q e=>by rw[← Option.some.inj e];exact vh)]
    constructor
    ·rintro⟨g1,g2,g3⟩;have g2':=g2 h rfl;refine⟨⟨List.pairwise_cons.2 ⟨g2',g1.srt⟩,fun x hx=>?_,fun x hx y hy e=>?_⟩,fun q e x hx=>?_,fun x hx=>?_⟩
     ·rcases List.mem_cons.1 hx with rfl | hx
      ·exact o1
      ·exact g1.ok x hx
     ·rcases List.mem_cons.1 hx with rfl | hx
      ·rcases List.mem_cons.1 hy with rfl | hy
       ·rfl
       ·exact absurd (by rw[← e];exact List.mem_cons_self ..) (g3 y hy)
      ·rcases List.mem_cons.1 hy with e2 | hy
       ·exact absurd (by rw[e,e2];exact List.mem_cons_self ..) (g3 x hx)
       ·exact g1.loc x hx y hy e
     ·subst e;have hq:z2u q.path h.path<0:=by rw[z4e] at o2;simp at o2;omega
      rcases List.mem_cons.1 hx with rfl | hx
      ·exact hq
      ·exact z5f (hv q rfl) vh (g1.valid x hx) hq (g2' x hx)
     ·rcases List.mem_cons.1 hx with rfl | hx
      ·exact h2
      ·exact fun hs=>g3 x hx (List.mem_cons_of_mem _ hs)
    ·rintro⟨g1,g2,g3⟩;refine⟨⟨g1.srt.tail,fun x hx=>g1.ok x (List.mem_cons_of_mem _ hx),fun x hx y hy=>g1.loc x (List.mem_cons_of_mem _ hx) y (List.mem_cons_of_mem _ hy)⟩,fun q e x hx=>?_,fun x hx hs=>?_⟩
     ·rw[← Option.some.inj e];exact g1.srt.head x hx
     ·rcases List.mem_cons.1 hs with e | hs
      ·exact z5z (g1.srt.head x hx) (g1.loc h (List.mem_cons_self ..) x (List.mem_cons_of_mem _ hx) e.symm)
      ·exact g3 x (List.mem_cons_of_mem _ hx) hs
theorem zfb {l:List Hav}:z4g l=0↔zf6 l∧l.length≤1024:=by
 unfold z4g;by_cases h:1024<l.length
 ·rw[if_pos h];exact⟨fun e=>absurd e (by decide),fun ⟨_,h2⟩=>by omega⟩
 ·rw[if_neg h,zfa l none [] (fun q e=>by cases e)]
  exact⟨fun ⟨h1,_⟩=>⟨h1,by omega⟩,fun ⟨h1,_⟩=>⟨h1,(fun q e=>by cases e),(fun x _ hs=>by cases hs)⟩⟩
def zfc (op dt:List ByteArray)(x:Syn):Int:=if x.path∈op then 6 else if (x.frm≠z2l∧x.frm∈dt)∨(x.dst≠z2l∧x.dst∈dt) then 5 else z3p x.frm x.dst
def zfd (op dt:List ByteArray)(x:Syn):Syn:={ x with kind:=zfc op dt x }
def zfe (hs ws:List Hav)(op dt:List ByteArray):List Syn:=(z6i (hs.length+ws.length) hs ws).map (zfd op dt)
noncomputable def zff (hs ws:List Hav)(op dt:List ByteArray):List Syn:=zel (blB hs (zfe hs ws op dt)) (zfe hs ws op dt)
theorem zfg (f d:ByteArray):z3o (z3p f d)=false:=by unfold z3p;split;rfl;split;rfl;split <;> rfl
theorem zfh (a b:Hav):z6j (some a) (some b)=if a=b then none else some (updT a b):=rfl
theorem zfi {h w:Option Hav}{x:Syn}(e:z6j h w=some x):
  (∃ a,h=some a∧w=none∧x=z6h a)∨(∃ b,h=none∧w=some b∧x=z6g b)∨∃ a b,h=some a∧w=some b∧a≠b∧x=updT a b:=by
 cases h with
 | none =>
  cases w with
  | none=>cases e
  | some b=>exact .inr (.inl ⟨b,rfl,rfl,(Option.some.inj e).symm⟩)
 | some a =>
  cases w with
  | none=>exact .inl ⟨a,rfl,rfl,(Option.some.inj e).symm⟩
  | some b =>
   rw[zfh] at e;by_cases eq:a=b
   ·rw[if_pos eq] at e;cases e
   ·rw[if_neg eq] at e;exact .inr (.inr ⟨a,b,rfl,rfl,eq,(Option.some.inj e).symm⟩)
section
variable {hs ws : List Hav} {op dt : List ByteArray}
theorem zfj (h1:zf6 hs)(h2:zf6 ws):z6d (zfe hs ws op dt)∧∀ p,z6f (zfe hs ws op dt) p=(z6j (z6e hs p) (z6e ws p)).map (zfd op dt):=by
 obtain⟨i1,i2⟩:=z6m (hs.length+ws.length) hs ws (Nat.le_refl _) h1.srt h2.srt h1.valid h2.valid;refine⟨z69 i1 fun _=>rfl,fun p=>?_⟩;show z5y Syn.path (List.map _ _) p=_
 rw[z6a (k:=Syn.path) (kb:=Syn.path) (f:=zfd op dt) (fun _=>rfl)];exact congrArg _ (i2 p)
theorem zfk (h1:zf6 hs)(h2:zf6 ws):z6d (zff hs ws op dt)∧∀ p,z6f (zff hs ws op dt) p=(z6j (z6e hs p) (z6e ws p)).map fun x=>zek (blB hs (zfe hs ws op dt)) (zfd op dt x):=by
 obtain⟨i1,i2⟩:=zfj (op:=op) (dt:=dt) h1 h2;refine⟨zeq i1 _,fun p=>?_⟩;show z6f (zel _ _) p=_
 rw[zep,i2,Option.map_map];rfl
theorem zfl (h1:zf6 hs)(h2:zf6 ws){x:Syn}(hx:x∈zff hs ws op dt):
  ∃ y,z6j (z6e hs x.path) (z6e ws x.path)=some y∧x=zek (blB hs (zfe hs ws op dt)) (zfd op dt y)∧y.path=x.path:=by
 obtain⟨i1,i2⟩:=zfk (op:=op) (dt:=dt) h1 h2;have h:=z65 i1 hx;have h':z6f (zff hs ws op dt) x.path=some x:=h;rw[i2,Option.map_eq_some_iff] at h';obtain⟨y,e1,e2⟩:=h';refine⟨y,e1,e2.symm,?_⟩;have:=congrArg Syn.path e2;rw[zem] at this;exact this
end
def zfm:List ByteArray:=[⟨#[47,47,100,47,97]⟩,⟨#[47,47,100,47,97,47,97]⟩,⟨#[47,47,100,47,98]⟩,⟨#[47,47,100,47,120,47,97]⟩,⟨#[47,47,100,47,120,47,98]⟩,⟨#[47,47,101,47,97]⟩]
theorem zfn:z5x (fun q:ByteArray=>q) zfm:=by
 unfold z5x zfm;simp only[List.pairwise_cons,List.mem_cons,List.not_mem_nil,or_false,forall_eq_or_imp,forall_eq]
 refine⟨⟨?_,?_,?_,?_,?_⟩,⟨?_,?_,?_,?_⟩,⟨?_,?_,?_⟩,⟨?_,?_⟩,?_,?_⟩ <;> first | decide +kernel | (intro a ha;cases ha) | exact⟨fun a h=>(by cases h),List.Pairwise.nil⟩
theorem zfo:∀ p∈zfm,z3q p=true:=by decide +kernel
structure zfp (f:ByteArray→Option ByteArray):Prop where
 path:∀ p∈zfm,∀ l,f p=some l→z3q l=true
 inj:∀ p∈zfm,∀ q∈zfm,∀ l,f p=some l→f q=some l→p=q
def zfq (D:List Rev)(f:ByteArray→Option ByteArray)(m:Int)(p:ByteArray):Option Hav:=
 match z30 D p (fun v:Rev=>decide (v.chg≤m)) with
 | none=>none
 | some r=>if z2v r.act then (f p).map (fun l=>⟨p,r.num,l⟩) else none
def zfr (D:List Rev)(f:ByteArray→Option ByteArray)(m:Int):List Hav:=zfm.filterMap (zfq D f m)
theorem zfs {D:List Rev}{p:ByteArray}{t:Rev→Bool}{r:Rev}(h:z30 D p t=some r):r∈D∧r.path=p∧t r=true:=by
 unfold z30 at h;suffices H:∀(l:List Rev) (o:Option Rev),(∀ x,o=some x→x∈D∧x.path=p∧t x=true)→(∀ x∈l,x∈D)→∀ r,l.foldl (fun o r=>if r.path=p∧t r=true then (match o with | none=>some r | some b=>if b.num<r.num then some r else some b) else o) o=some r→r∈D∧r.path=p∧t r=true from
  H D none (fun x e=>by cases e) (fun x hx=>hx) r h
 intro l;induction l with
 | nil=>intro o ho _ r hr;exact ho r hr
 | cons a l ih =>
  intro o ho hl r hr;rw[List.foldl_cons] at hr;refine ih _ (fun x hx=>?_) (fun x hx=>hl x (List.mem_cons_of_mem _ hx)) r hr;split at hx
  ·rename_i hc
   have ha:a∈D∧a.path=p∧t a=true:=⟨hl a (List.mem_cons_self ..),hc.1,hc.2⟩;cases o with
   | none=>rw[← Option.some.inj hx];exact ha
   | some b =>
    simp only at hx
    split at hx
    ·rw[← Option.some.inj hx];exact ha
    ·rw[← Option.some.inj hx];exact ho b rfl
  ·exact ho x hx
theorem zft {D:List Rev}{f:ByteArray→Option ByteArray}{m:Int}{p:ByteArray}{h:Hav}(e:zfq D f m p=some h):h.path=p∧f p=some h.loc∧∃ r∈D,r.path=p∧r.num=h.num∧z30 D p (fun v:Rev=>decide (v.chg≤m))=some r∧z2v r.act=true:=by
 unfold zfq at e;cases hg:z30 D p (fun v:Rev=>decide (v.chg≤m)) with
 | none=>rw[hg] at e;cases e
 | some r =>
  rw[hg] at e;simp only at e
  cases hl:z2v r.act with
  | false=>rw[hl] at e;cases e
  | true =>
   rw[hl,if_pos rfl,Option.map_eq_some_iff] at e;obtain⟨l,e1,e2⟩:=e;subst e2;obtain⟨m1,m2,-⟩:=zfs hg;exact⟨rfl,e1,r,m1,m2,rfl,rfl,hl⟩
theorem zfu {D:List Rev}{f:ByteArray→Option ByteArray}{m:Int}(hn:∀ r∈D,1≤r.num)(hf:zfp f):zf6 (zfr D f m):=by
 have hm:∀ x∈zfr D f m,∃ p∈zfm,zfq D f m p=some x:=fun x hx=>List.mem_filterMap.1 hx;refine⟨?_,fun x hx=>?_,fun x hx y hy e=>?_⟩
 ·unfold zfr;have:∀ qs:List ByteArray,z5x (fun q:ByteArray=>q) qs→z6c (qs.filterMap (zfq D f m)):=by
   intro qs;induction qs with
   | nil=>intro _;exact List.Pairwise.nil
   | cons q qs ih =>
    intro hq;rw[List.filterMap_cons];split
    ·exact ih hq.tail
    ·rename_i x hx
     refine List.pairwise_cons.2 ⟨fun b hb=>?_,ih hq.tail⟩;obtain⟨p,hp,e⟩:=List.mem_filterMap.1 hb;rw[(zft hx).1,(zft e).1];exact hq.head p hp
  exact this _ zfn
 ·obtain⟨p,hp,e⟩:=hm x hx;obtain⟨e1,e2,r,r1,r2,r3,-⟩:=zft e;unfold Hav.okB;rw[e1,zfo p hp,hf.path p hp _ e2];have:=hn r r1;simp
  omega
 ·obtain⟨p,hp,e1⟩:=hm x hx;obtain⟨q,hq,e2⟩:=hm y hy;obtain⟨a1,a2,-⟩:=zft e1;obtain⟨b1,b2,-⟩:=zft e2;rw[a1,b1];rw[e] at a2;exact hf.inj p hp q hq _ a2 b2
theorem zfv {D:List Rev}{f:ByteArray→Option ByteArray}{m:Int}:∀ x∈zfr D f m,x.path∈zfm:=fun x hx=>by
 obtain⟨p,hp,e⟩:=List.mem_filterMap.1 hx;rw[(zft e).1];exact hp
theorem zfw {D:List Rev}{f:ByteArray→Option ByteArray}{m:Int}:(zfr D f m).length≤6:=by
 unfold zfr;exact Nat.le_trans (List.length_filterMap_le ..) (by decide)
def c_ (t:List UInt8):ByteArray:=⟨([47,47,99,47]++t).toArray⟩
def w_ (t:List UInt8):ByteArray:=⟨([47,47,119,47]++t).toArray⟩
def fwdT:Nat→List (Option ByteArray)
 | 0=>[some (c_ [97]),some (c_ [97,47,97]),some (c_ [98]),some (c_ [120,47,97]),some (c_ [120,47,98]),none]
 | 1=>[some (c_ [97]),some (c_ [97,47,97]),some (c_ [98]),none,none,none]
 | 2=>[none,none,none,some (c_ [97]),some (c_ [98]),some (w_ [97])]
 | 3=>[some (c_ [98]),none,some (c_ [97]),some (c_ [120,47,97]),some (c_ [120,47,98]),none]
 | 4=>[some (c_ [97]),none,some (c_ [98]),none,none,some (c_ [101])]
 | 5=>[none,some (w_ [97,47,122]),none,some (w_ [120,47,122]),none,some (c_ [97])]
 | 6=>[some (c_ [97]),some (c_ [97,47,97]),some (c_ [98]),some (c_ [120,47,97]),some (c_ [120,47,98]),some (w_ [97])]
 | _=>[none,none,none,none,none,none]
def zfx (k:Nat)(p:ByteArray):Option ByteArray:=((zfm.zip (fwdT k)).find? (fun x=>decide (x.1=p))).bind (·.2)
theorem zfy (k:Nat):zfp (zfx k):=by
 have h:∀ k<8,(∀ p∈zfm,∀ l,zfx k p=some l→z3q l=true)∧∀ p∈zfm,∀ q∈zfm,(zfx k p).isSome=true→zfx k p=zfx k q→p=q:=by
  have a:∀ k<8,∀ p∈zfm,((zfx k p).map z3q).getD true=true:=by decide +kernel
  have b:∀ k<8,∀ p∈zfm,∀ q∈zfm,(zfx k p).isSome=true→zfx k p=zfx k q→p=q:=by decide +kernel
  exact fun k hk=>⟨fun p hp l e=>by have:=a k hk p hp;rw[e] at this;exact this,b k hk⟩
 by_cases hk:k<8
 ·exact⟨(h k hk).1,fun p hp q hq l e1 e2=>(h k hk).2 p hp q hq (by rw[e1];rfl) (e1.trans e2.symm)⟩
 ·have e:fwdT k=fwdT 7:=by
   match k,hk with
   | k+8,_=>rfl
   | 0,hk=>exact absurd (by decide) hk
   | 1,hk=>exact absurd (by decide) hk
   | 2,hk=>exact absurd (by decide) hk
   | 3,hk=>exact absurd (by decide) hk
   | 4,hk=>exact absurd (by decide) hk
   | 5,hk=>exact absurd (by decide) hk
   | 6,hk=>exact absurd (by decide) hk
   | 7,hk=>exact absurd (by decide) hk
  have e2:zfx k=zfx 7:=by funext p;unfold zfx;rw[e]
  rw[e2];exact⟨(h 7 (by decide)).1,fun p hp q hq l e1 e2=>(h 7 (by decide)).2 p hp q hq (by rw[e1];rfl) (e1.trans e2.symm)⟩
