/- What a call leaves alone. -/
import Derived.Test.YtegeboijhifmcaaGreatDoorMgw5
import Derived.Test.YtegeboijhifmcaaGreatDoorMgw9
import Derived.Maps.OwnSet
namespace Go.Proofs.YtegeboijhifmcaaGreatDoor
set_option linter.unusedVariables false
set_option linter.unusedSimpArgs false
open Go.RowKit
theorem below_drewN (w:World)(n:Nat):Below w.heap.size w (w.drewN n):=⟨rfl,rfl,rfl,Nat.le_refl _,fun _ _=>rfl⟩
structure z6t (S:List Nat)(w w':World):Prop where
 os:w'.os=w.os
 tape:w'.tape=w.tape
 output:w'.output=w.output
 size:w.heap.size≤w'.heap.size
 block:∀ k,k<w.heap.size→k∉S→w'.heap[k]? = w.heap[k]?
theorem z6t.below {S:List Nat}{w w':World}(h:Below w.heap.size w w'):z6t S w w':=⟨h.os,h.tape,h.output,h.size,fun k hk _=>h.block k hk⟩
theorem z6t.grown {S:List Nat}{w w':World}{g:Nat}(h:w.grownBy w' (some g))(hg:g∈S):z6t S w w':=⟨h.os,h.tape,h.output,h.size,fun k hk hs=>h.block k hk (by intro e;injection e with e;subst e;exact hs hg)⟩
theorem z6t.trans {S:List Nat}{w w1 w2:World}(h:z6t S w w1)(h2:z6t S w1 w2):z6t S w w2:=
 ⟨h2.os.trans h.os,h2.tape.trans h.tape,h2.output.trans h.output,Nat.le_trans h.size h2.size,fun k hk hs=>(h2.block k (Nat.lt_of_lt_of_le hk h.size) hs).trans (h.block k hk hs)⟩
theorem z6t.to_below {S:List Nat}{w w':World}{B:Nat}(h:z6t S w w')(hS:∀ s∈S,B≤s)(hB:B≤w.heap.size):Below B w w':=
 ⟨h.os,h.tape,h.output,h.size,fun k hk=>h.block k (Nat.lt_of_lt_of_le hk hB) (fun hs=>by have:=hS k hs;omega)⟩
theorem z6t.blk {S:List Nat}{w w':World}{g:Nat}{e:TypeId}{cs:List Value}(h:z6t S w w')(hB:Blk w g e cs)(hg:g∉S):Blk w' g e cs:=(h.block g (Blk.lt hB) hg).trans hB
theorem z6t.fmap {κ α:Type}[BEq κ]{kv:κ→Value}{enc:α→Value}{S:List Nat}{w w':World}{B:Nat}{F:κ→Option α}(h:z6t S w w')(hM:z2f kv enc w B F)(hg:B∉S):z2f kv enc w' B F:=hM.keep (h.block B hM.lt hg)
theorem Row.set_far {w:World}{size n g i:Nat}{v u:Value}{xs:List Value}(h:Row w size v n xs)(hne:v.ownBlock≠some g):Row (w.setCell ⟨g,i,none⟩ u) size v n xs:=by
 obtain⟨A,c,rfl,hc,hm,hl,h0,hx⟩:=h;refine⟨A,c,rfl,hc,hm,hl,h0,fun hn=>?_⟩;obtain⟨ad,rfl,hb,hcell⟩:=hx hn;refine⟨ad,rfl,by simpa [World.setCell] using hb,fun j u' hu=>?_⟩
 rw[← hcell j u' hu];refine World.cell?_of_block (Below.heap_setCell w _ _ _ ?_);rw[z00];intro e;exact hne (congrArg some e)
theorem Row.kept {S:List Nat}{w X:World}{size n c:Nat}{ad:Addr}{xs:List Value}(h:Row w size (.slice (some ad) n c) n xs)(hK:z6t S w X)(hb:ad.block∉S):Row X size (.slice (some ad) n c) n xs:=by
 obtain⟨A,c',e,hc,hm,hl,h0,hx⟩:=h;injection e with e1 e2 e3
 subst e3;refine⟨some ad,c,rfl,hc,hm,hl,(fun h=>by cases h),fun hn=>?_⟩
 obtain⟨ad',e4,hb',hcell⟩:=hx hn;rw[← e1] at e4;injection e4 with e4
 subst e4;refine⟨ad,rfl,Nat.lt_of_lt_of_le hb' hK.size,fun j u' hu=>?_⟩;rw[← hcell j u' hu];refine World.cell?_of_block ?_;rw[z00];exact hK.block _ hb' hb
theorem z6u (w:World)(g i:Nat)(u:Value):w.grownBy (w.setCell ⟨g,i,none⟩ u) (some g):=
 ⟨rfl,rfl,rfl,by simp,fun k _ hk=>Below.heap_setCell w ⟨g,i,none⟩ u k (fun e=>hk (by rw[e]))⟩
inductive Bl (hs:List Hav) (pl:List Syn):ByteArray→Prop
 | free {x:Syn} {h:Hav}:x∈pl→z3o x.kind=false→x.dst≠z2l→h∈hs→h.loc=x.dst→h.path≠x.path→z6e pl h.path=none→Bl hs pl x.path
 | stay {x y:Syn} {h:Hav}:x∈pl→z3o x.kind=false→x.dst≠z2l→h∈hs→h.loc=x.dst→h.path≠x.path→z6e pl h.path=some y→z3o y.kind=true→Bl hs pl x.path
 | next {x:Syn} {h:Hav}:x∈pl→z3o x.kind=false→x.dst≠z2l→h∈hs→h.loc=x.dst→h.path≠x.path→Bl hs pl h.path→Bl hs pl x.path
noncomputable def blB (hs:List Hav)(pl:List Syn)(p:ByteArray):Bool:=@decide (Bl hs pl p) (Classical.propDecidable _)
theorem zee {hs:List Hav}{pl:List Syn}{p:ByteArray}:blB hs pl p=true↔Bl hs pl p:=by unfold blB;exact @decide_eq_true_iff _ (Classical.propDecidable _)
def zef (b:ByteArray→Bool)(x:Syn):Syn:=if b x.path then { x with kind:=5 } else x
def zeg (b:ByteArray→Bool)(pl:List Syn):List Syn:=pl.map (zef b)
theorem zeh (b:ByteArray→Bool)(x:Syn):(zef b x).path=x.path:=by unfold zef;split <;> rfl
theorem zei (b:ByteArray→Bool)(x:Syn):(zef b x).num=x.num∧(zef b x).frm=x.frm∧(zef b x).dst=x.dst:=by unfold zef;split <;> exact⟨rfl,rfl,rfl⟩
theorem zej (b:ByteArray→Bool)(x:Syn):z3o (zef b x).kind=(b x.path || z3o x.kind):=by
 unfold zef;cases b x.path
 ·rfl
 ·rfl
theorem zek (b:ByteArray→Bool)(pl:List Syn)(p:ByteArray):z6e (zeg b pl) p=(z6e pl p).map (zef b):=z69 (zeh b) pl p
theorem zel {pl:List Syn}(h:z6c pl)(b:ByteArray→Bool):z6c (zeg b pl):=z68 h (zeh b)
def zem (pl:List Syn)(b:ByteArray→Bool)(p:ByteArray):Prop:=z6e pl p=none∨∃ y,z6e pl p=some y∧(z3o y.kind=true∨b p=true)
theorem bl_eq {hs:List Hav}{pl:List Syn}{b:ByteArray→Bool}(hs1:∀ p,b p=true→Bl hs pl p)
  (hc:∀ x∈pl,z3o x.kind=false→b x.path=false→x.dst≠z2l→∀ h∈hs,h.loc=x.dst→h.path≠x.path→¬ zem pl b h.path):b=blB hs pl:=by
 have key:∀ p,Bl hs pl p→b p=true:=by
  intro p hp;induction hp with
  | free h1 h2 h3 h4 h5 h6 h7 =>
   cases e:b _ with
   | true=>rfl
   | false=>exact absurd (.inl h7) (hc _ h1 h2 e h3 _ h4 h5 h6)
  | stay h1 h2 h3 h4 h5 h6 h7 h8 =>
   cases e:b _ with
   | true=>rfl
   | false=>exact absurd (.inr ⟨_,h7,.inl h8⟩) (hc _ h1 h2 e h3 _ h4 h5 h6)
  | @next x h h1 h2 h3 h4 h5 h6 h7 ih =>
   cases e:b x.path with
   | true=>rfl
   | false =>
    have hst:zem pl b h.path:=by
     cases hg:z6e pl h.path with
     | none=>exact .inl hg
     | some y=>exact .inr ⟨y,hg,.inr ih⟩
    exact absurd hst (hc _ h1 h2 e h3 _ h4 h5 h6)
 funext p
 rw[Bool.eq_iff_iff,zee];exact⟨hs1 p,key p⟩
theorem zen {hs:List Hav}{pl:List Syn}{b:ByteArray→Bool}(hb:∀ p,b p=true→Bl hs pl p){x:Syn}{h:Hav}(h1:x∈pl)(h2:z3o x.kind=false)(h3:x.dst≠z2l)(h4:h∈hs)(h5:h.loc=x.dst)(h6:h.path≠x.path)(h7:zem pl b h.path):Bl hs pl x.path:=by
 rcases h7 with h7 | ⟨y,h7,h8 | h8⟩
 ·exact .free h1 h2 h3 h4 h5 h6 h7
 ·exact .stay h1 h2 h3 h4 h5 h6 h7 h8
 ·exact .next h1 h2 h3 h4 h5 h6 (hb _ h8)
def zeo (ho:Option Hav)(so:Option Syn):Option Hav:=
 match so with
 | none=>ho
 | some x=>if z3o x.kind then ho else if x.dst=z2l then none else some ⟨x.path,x.num,x.dst⟩
theorem zep {x:Syn}{a:Hav}(h:a∈z4t x):a.path=x.path:=by
 unfold z4t at h;split at h
 ·cases h
 ·unfold z4s at h;split at h
  ·cases h
  ·rw[List.mem_singleton] at h;subst h;rfl
theorem zeq {x:Syn}{a:Hav}(h:a∈z4s x):a.path=x.path:=by
 unfold z4s at h;split at h
 ·cases h
 ·rw[List.mem_singleton] at h;subst h;rfl
theorem zer (x:Syn):z6b (z4t x):=by
 unfold z4t z4s;split
 ·exact List.Pairwise.nil
 ·split
  ·exact List.Pairwise.nil
  ·exact List.pairwise_singleton ..
theorem zes (x:Syn):z6b (z4s x):=by
 unfold z4s;split
 ·exact List.Pairwise.nil
 ·exact List.pairwise_singleton ..
theorem zet (x:Syn)(p:ByteArray):z6d (z4t x) p=if x.path=p then zeo none (some x) else none:=by
 show z5y Hav.path _ p=_
 unfold z4t z4s zeo;by_cases h1:z3o x.kind=true
 ·rw[if_pos h1];simp [h1,z5y]
 ·rw[if_neg h1];by_cases h2:x.dst=z2l
  ·rw[if_pos h2];simp [h1,h2,z5y]
  ·rw[if_neg h2,z63];simp [h1,h2,z5y]
theorem zeu (x:Syn)(p:ByteArray):z6d (z4s x) p=if x.path=p then (if x.dst=z2l then none else some ⟨x.path,x.num,x.dst⟩) else none:=by
 show z5y Hav.path _ p=_
 unfold z4s;by_cases h2:x.dst=z2l
 ·rw[if_pos h2];simp [h2,z5y]
 ·rw[if_neg h2,z63];simp [h2,z5y]
theorem zev {h:Hav}{hs:List Hav}{x:Syn}{r:List Syn}(c:z2u x.path h.path<0):z4y (h :: hs) (x :: r)=z4t x++z4y (h :: hs) r:=by
 simp only[z4y,z4u,z4v,if_pos c,List.append_assoc]
theorem zew {h:Hav}{hs:List Hav}{x:Syn}{r:List Syn}(c:¬ z2u x.path h.path<0)(e:x.path=h.path):z4y (h :: hs) (x :: r)=(if z3o x.kind then [h] else z4s x)++z4y hs r:=by
 simp only[z4y,z4u,z4v,if_neg c,z4w,z4x,if_pos e,List.nil_append]
theorem zex {h:Hav}{hs:List Hav}{x:Syn}{r:List Syn}(c:¬ z2u x.path h.path<0)(e:¬ x.path=h.path):z4y (h :: hs) (x :: r)=h :: z4y hs (x :: r):=by
 simp only[z4y,z4u,z4v,if_neg c,z4w,z4x,if_neg e,List.nil_append,List.singleton_append]
theorem zey {h:Hav}{hs:List Hav}:z4y (h :: hs) []=h :: z4y hs []:=by
 simp only[z4y,z4u,z4v,z4w,z4x,List.nil_append,List.singleton_append]
theorem zez:∀(n:Nat) (hs:List Hav) (ps:List Syn),hs.length+ps.length≤n→z6b hs→z6c ps→(∀ x∈hs,z2s x.path=true)→(∀ x∈ps,z2s x.path=true) →
  z6b (z4y hs ps)∧(∀ a∈z4y hs ps,(∃ h∈hs,h.path=a.path)∨∃ x∈ps,x.path=a.path)∧∀ p,z6d (z4y hs ps) p=zeo (z6d hs p) (z6e ps p)
 | 0,hs,ps,hn,_,_,_,_=>by
  have e1:hs=[]:=List.eq_nil_of_length_eq_zero (by omega)
  have e2:ps=[]:=List.eq_nil_of_length_eq_zero (by omega)
  subst e1 e2;exact⟨List.Pairwise.nil,(fun a ha=>by cases ha),fun p=>rfl⟩
 | _+1,[],[],_,_,_,_,_=>⟨List.Pairwise.nil,(fun a ha=>by cases ha),fun p=>rfl⟩
 | n+1,[],x :: r,hn,h1,h2,v1,v2=>by
  obtain⟨i1,i2,i3⟩:=zez n [] r (by simp at hn ⊢;omega) h1 h2.tail v1 (fun y hy=>v2 y (List.mem_cons_of_mem _ hy))
  have e:z4y [] (x :: r)=z4t x++z4y [] r:=by simp only[z4y,List.flatMap_cons]
  rw[e];refine⟨z67 (zer x) i1 fun a ha b hb=>?_,fun a ha=>?_,fun p=>?_⟩
  ·rw[zep ha];rcases i2 b hb with⟨y,hy,_⟩ | ⟨y,hy,e⟩
   ·cases hy
   ·rw[← e];exact h2.head y hy
  ·rcases List.mem_append.1 ha with ha | ha
   ·exact .inr ⟨x,List.mem_cons_self ..,(zep ha).symm⟩
   ·rcases i2 a ha with⟨y,hy,_⟩ | ⟨y,hy,e⟩
    ·cases hy
    ·exact .inr ⟨y,List.mem_cons_of_mem _ hy,e⟩
  ·show z5y Hav.path _ p=zeo _ (z5y Syn.path _ p)
   rw[z64,z63];have:=zet x p;show (z6d (z4t x) p).or (z6d (z4y [] r) p)=_
   rw[this,i3];by_cases e:x.path=p
   ·rw[if_pos e,if_pos e];have hno:z6e r p=none:=z62.2 fun y hy ey=>z5z (h2.head y hy) (e.trans ey.symm);rw[hno];show (zeo none (some x)).or none=zeo none (some x)
    cases zeo none (some x) <;> rfl
   ·rw[if_neg e,if_neg e];rfl
 | n+1,h :: hs,[],hn,h1,h2,v1,v2=>by
  obtain⟨i1,i2,i3⟩:=zez n hs [] (by simp at hn ⊢;omega) h1.tail h2 (fun y hy=>v1 y (List.mem_cons_of_mem _ hy)) v2
  rw[zey];refine⟨List.pairwise_cons.2 ⟨fun b hb=>?_,i1⟩,fun a ha=>?_,fun p=>?_⟩
  ·rcases i2 b hb with⟨y,hy,e⟩ | ⟨y,hy,_⟩
   ·rw[← e];exact h1.head y hy
   ·cases hy
  ·rcases List.mem_cons.1 ha with rfl | ha
   ·exact .inl ⟨_,List.mem_cons_self ..,rfl⟩
   ·rcases i2 a ha with⟨y,hy,e⟩ | ⟨y,hy,_⟩
    ·exact .inl ⟨y,List.mem_cons_of_mem _ hy,e⟩
    ·cases hy
  ·show z5y Hav.path _ p=zeo (z5y Hav.path _ p) _
   rw[z63,z63];split
   ·rfl
   ·exact i3 p
 | n+1,h :: hs,x :: r,hn,h1,h2,v1,v2=>by
  have vh:=v1 h (List.mem_cons_self ..);have vx:=v2 x (List.mem_cons_self ..);by_cases c1:z2u x.path h.path<0
  ·obtain⟨i1,i2,i3⟩:=zez n (h :: hs) r (by simp at hn ⊢;omega) h1 h2.tail v1 (fun y hy=>v2 y (List.mem_cons_of_mem _ hy))
   rw[zev c1];have lo:∀ y∈h :: hs,z2u x.path y.path<0:=fun y hy=>by
    rcases List.mem_cons.1 hy with rfl | hy'
    ·exact c1
    ·exact z5f vx vh (v1 y hy) c1 (h1.head y hy')
   refine⟨z67 (zer x) i1 fun a ha b hb=>?_,fun a ha=>?_,fun p=>?_⟩
   ·rw[zep ha];rcases i2 b hb with⟨y,hy,e⟩ | ⟨y,hy,e⟩
    ·rw[← e];exact lo y hy
    ·rw[← e];exact h2.head y hy
   ·rcases List.mem_append.1 ha with ha | ha
    ·exact .inr ⟨x,List.mem_cons_self ..,(zep ha).symm⟩
    ·rcases i2 a ha with⟨y,hy,e⟩ | ⟨y,hy,e⟩
     ·exact .inl ⟨y,hy,e⟩
     ·exact .inr ⟨y,List.mem_cons_of_mem _ hy,e⟩
   ·show z5y Hav.path _ p=zeo (z5y Hav.path (h :: hs) p) (z5y Syn.path (x :: r) p)
    rw[z64,z63 (k:=Syn.path)];show (z6d (z4t x) p).or (z6d (z4y (h :: hs) r) p)=_
    rw[zet,i3];by_cases e:x.path=p
    ·rw[if_pos e,if_pos e];have hno:z6e r p=none:=z62.2 fun y hy ey=>z5z (h2.head y hy) (e.trans ey.symm);have hnh:z6d (h :: hs) p=none:=z62.2 fun y hy ey=>z5z (lo y hy) (e.trans ey.symm);rw[hno,hnh];show (zeo none (some x)).or none=zeo (z6d (h :: hs) p) (some x)
     rw[hnh];cases zeo none (some x) <;> rfl
    ·rw[if_neg e,if_neg e];rfl
  ·by_cases c2:x.path=h.path
   ·obtain⟨i1,i2,i3⟩:=zez n hs r (by simp at hn ⊢;omega) h1.tail h2.tail (fun y hy=>v1 y (List.mem_cons_of_mem _ hy)) (fun y hy=>v2 y (List.mem_cons_of_mem _ hy))
    rw[zew c1 c2];have lo:∀ b∈z4y hs r,z2u x.path b.path<0:=fun b hb=>by
     rcases i2 b hb with⟨y,hy,e⟩ | ⟨y,hy,e⟩
     ·rw[← e,c2];exact h1.head y hy
     ·rw[← e];exact h2.head y hy
    have hkp:∀ a∈(if z3o x.kind then [h] else z4s x),a.path=x.path:=fun a ha=>by
     split at ha
     ·rw[List.mem_singleton] at ha;subst ha;exact c2.symm
     ·exact zeq ha
    refine⟨z67 ?_ i1 fun a ha b hb=>by rw[hkp a ha];exact lo b hb,fun a ha=>?_,fun p=>?_⟩
    ·split
     ·exact List.pairwise_singleton ..
     ·exact zes x
    ·rcases List.mem_append.1 ha with ha | ha
     ·exact .inr ⟨x,List.mem_cons_self ..,(hkp a ha).symm⟩
     ·rcases i2 a ha with⟨y,hy,e⟩ | ⟨y,hy,e⟩
      ·exact .inl ⟨y,List.mem_cons_of_mem _ hy,e⟩
      ·exact .inr ⟨y,List.mem_cons_of_mem _ hy,e⟩
    ·show z5y Hav.path _ p=zeo (z5y Hav.path (h :: hs) p) (z5y Syn.path (x :: r) p)
     rw[z64,z63 (k:=Syn.path),z63 (l:=hs)];have hr:z5y Hav.path (z4y hs r) p=zeo (z6d hs p) (z6e r p):=i3 p;rw[hr];by_cases e:x.path=p
     ·rw[if_pos e,if_pos (c2.symm.trans e)];have hno:z6e r p=none:=z62.2 fun y hy ey=>z5z (h2.head y hy) (e.trans ey.symm);have hnh:z6d hs p=none:=z62.2 fun y hy ey=>z5z (h1.head y hy) ((c2.symm.trans e).trans ey.symm);rw[hno,hnh];show Option.or _ none=_
      rw[Option.or_none];by_cases st:z3o x.kind=true
      ·rw[if_pos st,z63,if_pos (c2.symm.trans e)];simp [zeo,st]
      ·rw[if_neg st];have:=zeu x p;rw[if_pos e] at this;show z6d (z4s x) p=_
       rw[this];simp [zeo,st]
     ·rw[if_neg e,if_neg (fun e2=>e (c2.trans e2))];have hno:z5y Hav.path (if z3o x.kind then [h] else z4s x) p=none:=z62.2 fun a ha ea=>e ((hkp a ha).symm.trans ea);rw[hno];rfl
   ·obtain⟨i1,i2,i3⟩:=zez n hs (x :: r) (by simp at hn ⊢;omega) h1.tail h2 (fun y hy=>v1 y (List.mem_cons_of_mem _ hy)) v2
    rw[zex c1 c2];have c3:z2u h.path x.path<0:=by
     have h0:¬ z2u x.path h.path=0:=fun e0=>c2 (z5r vx vh e0);rw[z5q];omega
    have lo:∀ y∈x :: r,z2u h.path y.path<0:=fun y hy=>by
     rcases List.mem_cons.1 hy with rfl | hy'
     ·exact c3
     ·exact z5f vh vx (v2 y hy) c3 (h2.head y hy')
    refine⟨List.pairwise_cons.2 ⟨fun b hb=>?_,i1⟩,fun a ha=>?_,fun p=>?_⟩
    ·rcases i2 b hb with⟨y,hy,e⟩ | ⟨y,hy,e⟩
     ·rw[← e];exact h1.head y hy
     ·rw[← e];exact lo y hy
    ·rcases List.mem_cons.1 ha with rfl | ha
     ·exact .inl ⟨_,List.mem_cons_self ..,rfl⟩
     ·rcases i2 a ha with⟨y,hy,e⟩ | ⟨y,hy,e⟩
      ·exact .inl ⟨y,List.mem_cons_of_mem _ hy,e⟩
      ·exact .inr ⟨y,hy,e⟩
    ·show z5y Hav.path _ p=zeo (z5y Hav.path (h :: hs) p) (z5y Syn.path (x :: r) p)
     rw[z63,z63 (l:=hs)];by_cases e:h.path=p
     ·rw[if_pos e,if_pos e];have hno:z5y Syn.path (x :: r) p=none:=z62.2 fun y hy ey=>z5z (lo y hy) (e.trans ey.symm);rw[hno];rfl
     ·rw[if_neg e,if_neg e];exact i3 p
structure zf0 (l:List Hav):Prop where
 srt:z6b l
 ok:∀ x∈l,x.okB=true
 loc:∀ x∈l,∀ y∈l,x.loc=y.loc→x.path=y.path
theorem zf1 {x:Hav}(h:x.okB=true):z3q x.path=true∧z3q x.loc=true∧1≤x.num:=by
 unfold Hav.okB at h;simp only[Bool.and_eq_true,decide_eq_true_eq] at h
 exact⟨h.1.1,h.1.2,h.2⟩
theorem zf2 {p:ByteArray}(h:z3q p=true):z2s p=true∧p.size≤200∧p≠z2l:=by
 unfold z3q at h;simp only[Bool.and_eq_true,decide_eq_true_eq] at h
 refine⟨h.2,h.1,?_⟩;rintro rfl;exact absurd h.2 (by decide)
theorem zf0.valid {l:List Hav}(h:zf0 l):∀ x∈l,z2s x.path=true:=fun x hx=>(zf2 (zf1 (h.ok x hx)).1).1
theorem zf0.locNe {l:List Hav}(h:zf0 l){x:Hav}(hx:x∈l):x.loc≠z2l:=(zf2 (zf1 (h.ok x hx)).2.1).2.2
theorem zf3:zf0 []:=⟨List.Pairwise.nil,(fun x hx=>by cases hx),(fun x hx=>by cases hx)⟩
theorem zf4:∀(l:List Hav) (p:Option Hav) (s:List ByteArray),(∀ q,p=some q→z2s q.path=true) →
  (z4f p s l=0↔zf0 l∧(∀ q,p=some q→∀ x∈l,z2u q.path x.path<0)∧∀ x∈l,x.loc∉s)
 | [],p,s,_=>⟨fun _=>⟨zf3,(fun q _ x hx=>by cases hx),(fun x hx=>by cases hx)⟩,fun _=>rfl⟩
 | h :: r,p,s,hv=>by
  rw[z4f];by_cases h1:(!h.okB || z4d p h)=true
  ·rw[if_pos h1];refine⟨fun e=>absurd e (by decide),fun ⟨g1,g2,g3⟩=>?_⟩
   have o1:=g1.ok h (List.mem_cons_self ..);rw[o1] at h1;cases p with
   | none=>exact absurd h1 (by show ¬(false || false)=true;decide)
   | some q =>
    have:=g2 q rfl h (List.mem_cons_self ..);rw[z4e] at h1;simp at h1
    omega
  ·rw[if_neg h1];have o1:h.okB=true:=by cases e:h.okB;rw[e] at h1;exact absurd rfl h1;rfl
   have o2:z4d p h=false:=by cases e:z4d p h;rfl;rw[e,Bool.or_true] at h1;exact absurd rfl h1
   have vh:=(zf2 (zf1 o1).1).1;by_cases h2:h.loc∈s
   ·rw[if_pos h2];exact⟨fun e=>absurd e (by decide),fun ⟨g1,g2,g3⟩=>absurd h2 (g3 h (List.mem_cons_self ..))⟩
   ·rw[if_neg h2,zf4 r (some h) (h.loc :: s) (fun q e=>by rw[← Option.some.inj e];exact vh)]
    constructor
    ·rintro⟨g1,g2,g3⟩;have g2':=g2 h rfl;refine⟨⟨List.pairwise_cons.2 ⟨g2',g1.srt⟩,fun x hx=>?_,fun x hx y hy e=>?_⟩,fun q e x hx=>?_,fun x hx=>?_⟩
     ·rcases List.mem_cons.1 hx with rfl | hx
      ·exact o1
      ·exact g1.ok x hx
     ·rcases List.mem_cons.1 hx with rfl | hx
      ·rcases List.mem_cons.1 hy with rfl | hy
       ·rfl
       ·exact absurd (by rw[← e];exact List.mem_cons_self ..) (g3 y hy)
      ·rcases List.mem_cons.1 hy with e2 | hy
       ·exact absurd (by rw[e,e2];exact List.mem_cons_self ..) (g3 x hx)
       ·exact g1.loc x hx y hy e
     ·subst e;have hq:z2u q.path h.path<0:=by rw[z4e] at o2;simp at o2;omega
      rcases List.mem_cons.1 hx with rfl | hx
      ·exact hq
      ·exact z5f (hv q rfl) vh (g1.valid x hx) hq (g2' x hx)
     ·rcases List.mem_cons.1 hx with rfl | hx
      ·exact h2
      ·exact fun hs=>g3 x hx (List.mem_cons_of_mem _ hs)
    ·rintro⟨g1,g2,g3⟩;refine⟨⟨g1.srt.tail,fun x hx=>g1.ok x (List.mem_cons_of_mem _ hx),fun x hx y hy=>g1.loc x (List.mem_cons_of_mem _ hx) y (List.mem_cons_of_mem _ hy)⟩,fun q e x hx=>?_,fun x hx hs=>?_⟩
     ·rw[← Option.some.inj e];exact g1.srt.head x hx
     ·rcases List.mem_cons.1 hs with e | hs
      ·exact z5z (g1.srt.head x hx) (g1.loc h (List.mem_cons_self ..) x (List.mem_cons_of_mem _ hx) e.symm)
      ·exact g3 x (List.mem_cons_of_mem _ hx) hs
theorem zf5 {l:List Hav}:z4g l=0↔zf0 l∧l.length≤1024:=by
 unfold z4g;by_cases h:1024<l.length
 ·rw[if_pos h];exact⟨fun e=>absurd e (by decide),fun ⟨_,h2⟩=>by omega⟩
 ·rw[if_neg h,zf4 l none [] (fun q e=>by cases e)]
  exact⟨fun ⟨h1,_⟩=>⟨h1,by omega⟩,fun ⟨h1,_⟩=>⟨h1,(fun q e=>by cases e),(fun x _ hs=>by cases hs)⟩⟩
def zf6 (op dt:List ByteArray)(x:Syn):Int:=if x.path∈op then 6 else if (x.frm≠z2l∧x.frm∈dt)∨(x.dst≠z2l∧x.dst∈dt) then 5 else z3p x.frm x.dst
def zf7 (op dt:List ByteArray)(x:Syn):Syn:={ x with kind:=zf6 op dt x }
def zf8 (hs ws:List Hav)(op dt:List ByteArray):List Syn:=(z6h (hs.length+ws.length) hs ws).map (zf7 op dt)
noncomputable def zf9 (hs ws:List Hav)(op dt:List ByteArray):List Syn:=zeg (blB hs (zf8 hs ws op dt)) (zf8 hs ws op dt)
theorem zfa (a b:Hav):z6i (some a) (some b)=if a=b then none else some (updT a b):=rfl
theorem zfb {h w:Option Hav}{x:Syn}(e:z6i h w=some x):
  (∃ a,h=some a∧w=none∧x=z6g a)∨(∃ b,h=none∧w=some b∧x=z6f b)∨∃ a b,h=some a∧w=some b∧a≠b∧x=updT a b:=by
 cases h with
 | none =>
  cases w with
  | none=>cases e
  | some b=>exact .inr (.inl ⟨b,rfl,rfl,(Option.some.inj e).symm⟩)
 | some a =>
  cases w with
  | none=>exact .inl ⟨a,rfl,rfl,(Option.some.inj e).symm⟩
  | some b =>
   rw[zfa] at e;by_cases eq:a=b
   ·rw[if_pos eq] at e;cases e
   ·rw[if_neg eq] at e;exact .inr (.inr ⟨a,b,rfl,rfl,eq,(Option.some.inj e).symm⟩)
section
variable {hs ws : List Hav} {op dt : List ByteArray}
theorem zfc (h1:zf0 hs)(h2:zf0 ws):z6c (zf8 hs ws op dt)∧∀ p,z6e (zf8 hs ws op dt) p=(z6i (z6d hs p) (z6d ws p)).map (zf7 op dt):=by
 obtain⟨i1,i2⟩:=z6l (hs.length+ws.length) hs ws (Nat.le_refl _) h1.srt h2.srt h1.valid h2.valid;refine⟨z68 i1 fun _=>rfl,fun p=>?_⟩;show z5y Syn.path (List.map _ _) p=_
 rw[z69 (k:=Syn.path) (kb:=Syn.path) (f:=zf7 op dt) (fun _=>rfl)];exact congrArg _ (i2 p)
theorem zfd (h1:zf0 hs)(h2:zf0 ws):z6c (zf9 hs ws op dt)∧∀ p,z6e (zf9 hs ws op dt) p=(z6i (z6d hs p) (z6d ws p)).map fun x=>zef (blB hs (zf8 hs ws op dt)) (zf7 op dt x):=by
 obtain⟨i1,i2⟩:=zfc (op:=op) (dt:=dt) h1 h2;refine⟨zel i1 _,fun p=>?_⟩;show z6e (zeg _ _) p=_
 rw[zek,i2,Option.map_map];rfl
theorem zfe (h1:zf0 hs)(h2:zf0 ws){x:Syn}(hx:x∈zf9 hs ws op dt):
  ∃ y,z6i (z6d hs x.path) (z6d ws x.path)=some y∧x=zef (blB hs (zf8 hs ws op dt)) (zf7 op dt y)∧y.path=x.path:=by
 obtain⟨i1,i2⟩:=zfd (op:=op) (dt:=dt) h1 h2;have h:=z65 i1 hx;have h':z6e (zf9 hs ws op dt) x.path=some x:=h;rw[i2,Option.map_eq_some_iff] at h';obtain⟨y,e1,e2⟩:=h';refine⟨y,e1,e2.symm,?_⟩;have:=congrArg Syn.path e2;rw[zeh] at this;exact this
end
def zle:List ByteArray:=[⟨#[47,47,99,47,97]⟩,⟨#[47,47,99,47,98]⟩,⟨#[47,47,99,47,120,47,97]⟩,⟨#[47,47,99,47,120,47,98]⟩,⟨#[47,47,119,47,97]⟩,⟨#[47,47,99,47,101]⟩,⟨#[47,47,99,47,120,47,122]⟩,⟨#[47,47,113,47,113]⟩]
theorem zlf:∀ p∈zle,z3q p=true:=by decide +kernel
structure zlg (x y:Hav):Prop where
 path:y.path=x.path
 loc:z3q y.loc=true
 num:1≤y.num∧y.num≤x.num+1
structure HvSt (l:List Hav)(k:Nat)(out:List Hav):Prop where
 srt:z6b out
 ok:∀ x∈out,x.okB=true
 one:∀ x∈out,∀ y∈out,x.loc=y.loc→x.path=y.path
 of:∀ x∈out,∃(j:Nat) (hj:j<l.length),j<k∧x.path=l[j].path
 len:out.length≤k
theorem hv_0 (l:List Hav):HvSt l 0 []:=⟨List.Pairwise.nil,(fun x h=>by cases h),(fun x h=>by cases h),(fun x h=>by cases h),Nat.le_refl _⟩
theorem hv_skip {l out:List Hav}{k:Nat}(h:HvSt l k out):HvSt l (k+1) out:=
 ⟨h.srt,h.ok,h.one,(fun x hx=>by obtain⟨j,hj,h1,h2⟩:=h.of x hx;exact⟨j,hj,by omega,h2⟩),Nat.le_succ_of_le h.len⟩
theorem hv_put {l out:List Hav}{k:Nat}{y:Hav}(h:HvSt l k out)(hl:zf0 l)(hk:k<l.length)(hy:zlg l[k] y)(hn:∀ x∈out,x.loc≠y.loc):HvSt l (k+1) (out++[y]):=by
 refine⟨?_,fun x hx=>?_,fun a ha b hb e=>?_,fun x hx=>?_,by rw[List.length_append];exact Nat.succ_le_succ h.len⟩
 ·refine z67 h.srt (List.pairwise_singleton _ _) fun a ha b hb=>?_;rw[List.mem_singleton] at hb;subst hb;obtain⟨j,hj,h1,h2⟩:=h.of a ha;rw[h2,hy.path];exact List.pairwise_iff_getElem.1 hl.srt j k hj hk h1
 ·rcases List.mem_append.1 hx with hx | hx
  ·exact h.ok x hx
  ·rw[List.mem_singleton] at hx;subst hx;have h0:=zf1 (hl.ok _ (List.getElem_mem hk));unfold Hav.okB;rw[hy.path,h0.1,hy.loc];have:=hy.num.1;simp
   omega
 ·rcases List.mem_append.1 ha with ha1 | ha1
  ·rcases List.mem_append.1 hb with hb1 | hb1
   ·exact h.one a ha1 b hb1 e
   ·rw[List.mem_singleton] at hb1;rw[hb1] at e;exact absurd e (hn a ha1)
  ·rw[List.mem_singleton] at ha1;rcases List.mem_append.1 hb with hb1 | hb1
   ·rw[ha1] at e;exact absurd e.symm (hn b hb1)
   ·rw[List.mem_singleton] at hb1;rw[ha1,hb1]
 ·rcases List.mem_append.1 hx with hx | hx
  ·obtain⟨j,hj,h1,h2⟩:=h.of x hx;exact⟨j,hj,by omega,h2⟩
  ·rw[List.mem_singleton] at hx;subst hx;exact⟨k,hk,by omega,hy.path⟩
theorem hv_end {l out:List Hav}{k:Nat}(h:HvSt l k out):zf0 out:=⟨h.srt,h.ok,h.one⟩
end Go.Proofs.YtegeboijhifmcaaGreatDoor
