/- A part of the proof. -/
import Derived.Test.YtegeboijhifmcaaGreatDoorMgs4
import Derived.Test.YtegeboijhifmcaaGreatDoorMgs1
import Derived.Test.YtegeboijhifmcaaGreatDoorMgs6
import Derived.Test.YtegeboijhifmcaaGreatDoorMgs5
import Derived.Maps.RangeRun
set_option linter.unusedVariables false
set_option linter.unusedSimpArgs false
set_option maxHeartbeats 8000000
set_option maxRecDepth 100000
namespace Go.Proofs.YtegeboijhifmcaaGreatDoor
open Go.Proofs.Tryz
open Go.RowKit
theorem z4p {w:World}{base base':Nat}{e:TypeId}{size n:Nat}{v:Value}{xs:List Value}(h:w.ownsRow base e size v n xs)(hb:base'≤base):w.ownsRow base' e size v n xs:=by
 obtain⟨h1,h2 | ⟨g,cap,cur,e1,h3,h4⟩⟩:=h
 ·exact⟨h1,.inl h2⟩
 ·exact⟨h1,.inr ⟨g,cap,cur,e1,Nat.le_trans hb h3,h4⟩⟩
theorem z4q {w w':World}{base:Nat}{e:TypeId}{size n:Nat}{v:Value}{xs:List Value}{row:Option Nat}(h:w.ownsRow base e size v n xs)(hg:w.grownBy w' row)(hne:∀ x,v.ownBlock=some x→row≠some x):w'.ownsRow base e size v n xs:=by
 obtain⟨h1,h2 | ⟨g,cap,cur,e1,h3,h4,h5⟩⟩:=h
 ·exact⟨h1,.inl h2⟩
 ·exact⟨h1,.inr ⟨g,cap,cur,e1,h3,by rw[hg.block g (Array.getElem?_eq_some_iff.1 h4).1 (fun e=>hne g (by rw[e1];rfl) e.symm)];exact h4,h5⟩⟩
theorem z4r {w:World}{base:Nat}{e:TypeId}{size n:Nat}{v:Value}{xs:List Value}(h:w.ownsRow base e size v n xs){p:Addr}(hne:v.ownBlock≠some p.block)(u:Value):(w.setCell p u).ownsRow base e size v n xs:=by
 obtain⟨h1,h2 | ⟨g,cap,cur,e1,h3,h4,h5⟩⟩:=h
 ·exact⟨h1,.inl h2⟩
 ·exact⟨h1,.inr ⟨g,cap,cur,e1,h3,by rw[Below.heap_setCell w p u g (fun e=>hne (by rw[e1,← e];rfl))];exact h4,h5⟩⟩
open Go.RowKit Go.Lib
open Go.Sort hiding Below
section
variable {α : Type} [Inhabited α]
end
section
variable {α : Type}
structure z5p (c:α→α→Int):Prop where
 self:∀ x,c x x=0
 anti:∀ x y,c y x=- c x y
 trans:∀ x y z,c x y<0→c y z<0→c x z<0
 same:∀ x y,c x y=0→∀ z,c x z=c y z
theorem z5p.same' {c:α→α→Int}(h:z5p c){x y:α}(he:c x y=0)(z:α):c z x=c z y:=by rw[h.anti x z,h.anti y z,h.same x y he]
theorem z5p.or {c1 c2:α→α→Int}(h1:z5p c1)(h2:z5p c2):z5p (fun x y=>orI (c1 x y) (c2 x y)) where
 self x:=by unfold orI;rw[h1.self,if_pos rfl,h2.self]
 anti x y:=by unfold orI;rw[h1.anti x y,h2.anti x y];split <;> split <;> omega
 trans x y z a b:=by
  unfold orI at a b ⊢
  by_cases e1:c1 x y=0
  ·rw[if_pos e1] at a;rw[h1.same x y e1 z];by_cases e2:c1 y z=0
   ·rw[if_pos e2] at b ⊢;exact h2.trans _ _ _ a b
   ·rw[if_neg e2] at b ⊢;exact b
  ·rw[if_neg e1] at a;by_cases e2:c1 y z=0
   ·rw[← h1.same' e2 x];rw[if_neg e1];exact a
   ·rw[if_neg e2] at b;have:=h1.trans _ _ _ a b;rw[if_neg (by omega)];exact this
 same x y e z:=by
  unfold orI at e ⊢
  by_cases e1:c1 x y=0
  ·rw[if_pos e1] at e;rw[h1.same x y e1 z,h2.same x y e z]
  ·rw[if_neg e1] at e;exact absurd e e1
theorem z5p.swo {c:α→α→Int}(h:z5p c):SWO (ltOf c) where
 irrefl x:=by unfold ltOf;rw[h.self];rfl
 trans x y z a b:=by unfold ltOf at *;simp only[decide_eq_true_eq] at *;exact h.trans _ _ _ a b
 ntrans x y z a b:=by
  unfold ltOf at *
  simp only[decide_eq_false_iff_not,Int.not_lt] at *
  have a':=h.anti x y;have b':=h.anti y z;have c':=h.anti x z;by_cases e1:c x y=0
  ·rw[h.same x y e1 z];exact b
  ·by_cases e2:c y z=0
   ·rw[← h.same' e2 x];exact a
   ·have:=h.trans z y x (by omega) (by omega);omega
theorem z5q (a b:ByteArray):z2u b a=- z2u a b:=by
 unfold z2u;by_cases h:(z2s a && z2s b)=true
 ·rw[if_pos h,if_pos (by rw[Bool.and_comm];exact h)];exact z5a _ _
 ·rw[if_neg h,if_neg (by rw[Bool.and_comm];exact h)];rfl
theorem z5r {a b:ByteArray}(ha:z2s a=true)(hb:z2s b=true)(h:z2u a b=0):a=b:=by
 rw[z5d ha hb] at h;have:=cmpL_eq h;cases a with | mk x=>cases b with | mk y=>exact congrArg ByteArray.mk (Array.toList_inj.1 this)
theorem totP {f:α→ByteArray}(hf:∀ x,z2s (f x)=true):z5p (fun x y=>z2u (f x) (f y)) where
 self x:=z5e _
 anti x y:=z5q _ _
 trans x y z a b:=z5f (hf _) (hf _) (hf _) a b
 same x y e z:=by rw[z5r (hf x) (hf y) e]
end
def Rcd.good (r:Rcd):Prop:=r.small∧z2s r.frm=true∧z2s r.to=true
abbrev z5s:={ r:Rcd // r.good }
def z5t:ByteArray:=⟨#[47,47,97,47,98]⟩
theorem z5u:z2s z5t=true:=by decide
instance:Inhabited z5s:=⟨⟨⟨z5t,0,0,z5t,0,0⟩,⟨by unfold z5t;decide,by unfold z5t;decide⟩,z5u,z5u⟩⟩
def z5s.enc (r:z5s):List Value:=r.1.cells
def z5s.cmp (a b:z5s):Int:=cmpR a.1 b.1
theorem z5v (v cv:Value)(w:World):Calls prog 169 #[v,.int .i64 0,.int .i64 0,cv] w fun e w'=>e=.returned (.tuple #[])∧w=w':=by
 go_enter func169,ntmps169;go_wp2
 refine wp_loop_rounds 1 ?_;rw[rounds_succ];go_wp2
 go_end0
 exact⟨rfl,rfl⟩
theorem z5w (v cv:Value)(w:World):Calls prog 119 #[v,.int .i64 0,cv] w fun e w'=>e=.returned (.tuple #[])∧w=w':=by
 have H:=hd_ (z5v v cv w);go_enter func119,ntmps119;go_wp2
 refine wp_loop_rounds 1 ?_;rw[rounds_succ];go_wp2_with fail;refine H.out.mono ?_;rintro e w' ⟨rfl,rfl⟩;go_wp2
 refine wp_loop_rounds 1 ?_;rw[rounds_succ];go_wp2
 go_end0
 exact⟨rfl,rfl⟩
open Go.ChangeMaps (setBlock)
section
variable {κ : Type} {kv : κ → Value} {w w' : World} {r B : Nat} {left : List (κ × Value)}
def z6n (kv:κ→Value)(w:World)(r B:Nat)(left:List (κ×Value)):Prop:=
 r≠B∧∃(es:Array MapEntry) (clock since c0:Nat) (seen:Array Nat),w.heap[B]? = some (.map es clock)∧w.heap[r]? = some (.mapIter (some B) since seen c0)∧(∀ e∈es.toList,e.born<since)∧since≤c0∧since≤clock∧(es.toList.map (·.born)).Nodup ∧
  z1r (leftOf es seen).toList=left.map fun p=>(kv p.1,p.2)
theorem z6n.keep (h:z6n kv w r B left)(h1:w'.heap[B]? = w.heap[B]?)(h2:w'.heap[r]? = w.heap[r]?):z6n kv w' r B left:=by
 obtain⟨hne,es,clock,since,c0,seen,a,b,rest⟩:=h;exact⟨hne,es,clock,since,c0,seen,h1.trans a,h2.trans b,rest⟩
theorem z6n.lt (h:z6n kv w r B left):r<w.heap.size∧B<w.heap.size:=by
 obtain⟨hne,es,clock,since,c0,seen,a,b,rest⟩:=h;exact⟨(Array.getElem?_eq_some_iff.1 b).1,(Array.getElem?_eq_some_iff.1 a).1⟩
theorem z6n.below (h:z6n kv w r B left)(hb:Below w.heap.size w w'):z6n kv w' r B left:=h.keep (hb.block _ h.lt.2) (hb.block _ h.lt.1)
theorem z6n.setCell (h:z6n kv w r B left){p:Addr}(h1:p.block≠r)(h2:p.block≠B)(u:Value):z6n kv (w.setCell p u) r B left:=
 h.keep (Below.heap_setCell w p u B (fun e=>h2 e.symm)) (Below.heap_setCell w p u r (fun e=>h1 e.symm))
theorem z1u.range {P:Program}{m:List (κ×Value)}(h:z1u kv w B m){t k e:TypeId}(ht:P.underlying t=some (.map k e)):
  ∃ w',(Instr.range t (.map (some B))).run P w=.ok (.pointer (some ⟨w.heap.size,0,none⟩)) w'∧z6n kv w' w.heap.size B m∧Below w.heap.size w w'∧w'.heap.size=w.heap.size+1:=by
 have hlt:=h.lt;obtain⟨es,clock,hB,hp,hst⟩:=h;refine⟨_,run_range_map w t k e B es clock ht hB,⟨by omega,es,clock,clock,clock,#[],?_,heap_alloc_new w _,hst.1,Nat.le_refl _,Nat.le_refl _,hst.2,?_⟩,(Below.refl _ _).alloc (Nat.le_refl _) _,by simp⟩
 ·rw[heap_alloc_old w _ hlt];exact hB
 ·have:leftOf es #[]=es:=by unfold leftOf;simp
  rw[this];exact hp
theorem z6o {es:List MapEntry}{p:MapEntry→Bool}{e:MapEntry}(hn:(es.map (·.born)).Nodup)(he:e∈es.filter p):
  ∃ a b,es.filter p=a++e :: b∧es.filter (fun x=>p x && !(x.born == e.born))=a++b:=by
 induction es with
 | nil=>simp at he
 | cons x es ih =>
  rw[List.map_cons,List.nodup_cons] at hn;by_cases hxe:x.born=e.born
  ·have hnot:e∉es:=fun h=>hn.1 (by rw[hxe];exact List.mem_map.2 ⟨e,h,rfl⟩)
   have hex:x=e:=by
    have:=(List.mem_filter.1 he).1;rcases List.mem_cons.1 this with h | h
    ·exact h.symm
    ·exact absurd h hnot
   subst hex;have hpx:p x=true:=(List.mem_filter.1 he).2;refine⟨[],es.filter p,by simp [hpx],?_⟩
   rw[List.filter_cons];simp only[hpx,beq_self_eq_true,Bool.not_true,Bool.and_false,Bool.false_eq_true,if_false,List.nil_append]
   apply List.filter_congr
   intro y hy;have:y.born≠x.born:=fun h=>hn.1 (by rw[← h];exact List.mem_map.2 ⟨y,hy,rfl⟩)
   simp [this]
  ·have hne:(x.born == e.born)=false:=by simpa using hxe
   have he':e∈es.filter p:=by
    rw[List.filter_cons] at he;split at he
    ·rcases List.mem_cons.1 he with h | h
     ·exact absurd (by rw[h]) hxe
     ·exact h
    ·exact he
   obtain⟨a,b,h1,h2⟩:=ih hn.2 he';cases hpx:p x
   ·exact⟨a,b,by simp [hpx,h1],by simp [hpx,h2]⟩
   ·exact⟨x :: a,b,by simp [hpx,h1],by simp [hpx,hne,h2]⟩
theorem z6p {α β:Type}{f:α→β}{l:List α}{a b:List β}{x:β}(h:a++x :: b=l.map f):∃ l1 y l2,l=l1++y :: l2∧l1.map f=a∧f y=x∧l2.map f=b:=by
 induction a generalizing l with
 | nil =>
  cases l with
  | nil=>simp at h
  | cons y l=>simp at h;exact⟨[],y,l,rfl,rfl,h.1.symm,h.2.symm⟩
 | cons c a ih =>
  cases l with
  | nil=>simp at h
  | cons y l =>
   simp at h
   obtain⟨l1,z,l2,rfl,h1,h2,h3⟩:=ih h.2;exact⟨y :: l1,z,l2,rfl,by simp [h.1,h1],h2,h3⟩
theorem z6n.next {P:Program}(h:z6n kv w r B left)(ty:TypeId):
  (left=[]∧(Instr.next (.pointer (some ⟨r,0,none⟩)) false ty).run P w=.ok (.tuple #[.bool false]) w) ∨
  ∃ a p b w',left=a++p :: b∧(Instr.next (.pointer (some ⟨r,0,none⟩)) false ty).run P w=.ok (.tuple #[.bool true,kv p.1,p.2]) w'∧z6n kv w' r B (a++b) ∧
   (Instr.entry (.pointer (some ⟨r,0,none⟩))).run P w'=.ok (.tuple #[kv p.1,p.2]) w'∧w.grownBy w' (some r)∧w'.heap.size=w.heap.size:=by
 have hltr:=h.lt.1;obtain⟨hne,es,clock,since,c0,seen,hB,hr,hold,hsc,hscl,hnd,hp⟩:=h;rcases run_next_at (P:=P) w ty r B since c0 seen es clock hr hB hold hsc with⟨h0,hrun⟩ | ⟨e,he,w1,hw1,hrun⟩
 ·left
  refine⟨?_,hrun⟩;have:(leftOf es seen).toList=[]:=List.eq_nil_of_length_eq_zero (by simpa using h0)
  rw[this] at hp;cases left with
  | nil=>rfl
  | cons p l=>simp [z1r] at hp
 ·right
  have he':e∈es.toList.filter (fun x=>!seen.contains x.born):=by
   have:=he;unfold leftOf at this;rwa [Array.toList_filter] at this
  obtain⟨a,b,h1,h2⟩:=z6o hnd he';have hl1:(leftOf es seen).toList=a++e :: b:=by unfold leftOf;rw[Array.toList_filter];exact h1
  have hl2:(leftOf es (seen.push e.born)).toList=a++b:=by
   unfold leftOf;rw[Array.toList_filter,← h2]
   apply List.filter_congr
   intro x _;rw[Array.contains_push];simp [Bool.not_or]
  rw[hl1] at hp;unfold z1r at hp;rw[List.map_append,List.map_cons] at hp;obtain⟨l1,p,l2,rfl,q1,q2,q3⟩:=z6p hp;injection q2 with q4 q5
  have hw1h:w1.heap=w.heap:=by rcases hw1 with rfl | rfl <;> rfl
  have hset:∀ o,(setBlock w1 r o).heap[r]? = some o:=fun o=>by simp [setBlock,hw1h,hltr]
  have hoth:∀ o j,j≠r→(setBlock w1 r o).heap[j]? = w.heap[j]?:=fun o j hj=>by simp [setBlock,hw1h,Ne.symm hj]
  have hmem:e∈es.toList:=(List.mem_filter.1 he').1;rw[← q4,← q5] at hrun;refine⟨l1,p,l2,_,rfl,hrun,⟨hne,es,clock,since,clock,seen.push e.born,by rw[hoth _ _ (Ne.symm hne)];exact hB,hset _,hold,hscl,hscl,hnd,?_⟩,?_,?_,?_⟩
  ·rw[hl2];unfold z1r;rw[List.map_append,List.map_append,q1,q3]
  ·have:=run_entry_at (P:=P) (setBlock w1 r (.mapIter (some B) since (seen.push e.born) clock)) r B since seen es clock e (hset _) (by rw[hoth _ _ (Ne.symm hne)];exact hB) hmem hnd
   rw[← q4,← q5] at this;exact this
  ·rcases hw1 with rfl | rfl <;> exact⟨rfl,rfl,rfl,by simp [setBlock],fun k hk hk2=>hoth _ k (fun e=>hk2 (by rw[e]))⟩
  ·simp [setBlock,hw1h]
end
section
variable {κ α : Type} [BEq κ] {P : Program} {k : TypeId} {kv : κ → Value} {enc : α → Value} {w w' : World} {B : Nat} {f : κ → Option α}
def z6q (kv:κ→Value)(enc:α→Value)(w:World)(B:Nat)(f:κ→Option α):Prop:=∃ m:List (κ×Value),z1u kv w B m∧(m.map (·.1)).Nodup∧∀ x,z1p m x=(f x).map enc
theorem z6q.fmap (h:z6q kv enc w B f):z2f kv enc w B f:=by obtain⟨m,h,-,r⟩:=h;exact⟨m,h,r⟩
theorem z6q.lt (h:z6q kv enc w B f):B<w.heap.size:=h.fmap.lt
theorem z6q.keep (h:z6q kv enc w B f)(hk:w'.heap[B]? = w.heap[B]?):z6q kv enc w' B f:=by obtain⟨m,h,n,r⟩:=h;exact⟨m,h.keep hk,n,r⟩
theorem z6q.below (h:z6q kv enc w B f)(hb:Below w.heap.size w w'):z6q kv enc w' B f:=by obtain⟨m,h,n,r⟩:=h;exact⟨m,h.below hb,n,r⟩
theorem z6q.new (kv:κ→Value)(enc:α→Value)(w:World):z6q kv enc (w.alloc (.map #[] 0)) w.heap.size (fun _=>none):=⟨[],z1u.new kv w,List.nodup_nil,fun _=>rfl⟩
theorem z6r [LawfulBEq κ](k:κ)(v:Value):∀(m:List (κ×Value)) (x:κ),x∈(z1q m k v).map (·.1)→x=k∨x∈m.map (·.1)
 | [],x,h=>by simp [z1q] at h;exact .inl h
 | p :: m,x,h=>by
  by_cases hk:(k == p.1)=true
  ·have e:k=p.1:=eq_of_beq hk;simp only[z1q,hk,if_true,List.map_cons,List.mem_cons] at h ⊢
   rcases h with h | h
   ·exact .inl h
   ·exact .inr (.inr h)
  ·simp only[z1q,hk,if_false,List.map_cons,List.mem_cons,Bool.false_eq_true] at h ⊢
   rcases h with h | h
   ·exact .inr (.inl h)
   ·rcases z6r k v m x h with h | h
    ·exact .inl h
    ·exact .inr (.inr h)
theorem z6s [LawfulBEq κ](k:κ)(v:Value):∀(m:List (κ×Value)),(m.map (·.1)).Nodup→((z1q m k v).map (·.1)).Nodup
 | [],_=>by simp [z1q]
 | p :: m,h=>by
  rw[List.map_cons,List.nodup_cons] at h;by_cases hk:(k == p.1)=true
  ·have e:k=p.1:=eq_of_beq hk;simp only[z1q,hk,if_true,List.map_cons]
   rw[e,List.nodup_cons];exact h
  ·have hne:¬ k=p.1:=fun e=>hk (by rw[e];exact beq_self_eq_true _)
   simp only[z1q,hk,if_false,List.map_cons,Bool.false_eq_true]
   rw[List.nodup_cons];refine⟨fun hx=>?_,z6s k v m h.2⟩;rcases z6r k v m p.1 hx with e | e
   ·exact hne e.symm
   ·exact h.1 e
theorem z6q.update [LawfulBEq κ][DecidableEq κ](h:z6q kv enc w B f)(K:z1s P k kv){t e:TypeId}(ht:P.underlying t=some (.map k e))(x:κ)(v:α):
  ∃ w',(Instr.mapUpdate t (.map (some B)) (kv x) (enc v)).run P w=.ok () w'∧z6q kv enc w' B (upd f x v)∧w.grownBy w' (some B)∧w'.heap.size=w.heap.size:=by
 obtain⟨m,h,n,r⟩:=h;obtain⟨w',h1,h2,h3,h4⟩:=h.update K ht x (enc v);refine⟨w',h1,⟨_,h2,z6s _ _ _ n,fun y=>?_⟩,h3,h4⟩;rw[z2g];unfold upd;by_cases e:y=x
 ·rw[if_pos e,if_pos e];rfl
 ·rw[if_neg e,if_neg e];exact r y
end
theorem z87:z0e prog 29 9 1 16:=z0f underlying29 (z:=.string ⟨#[]⟩) (by kernel_rfl) rfl (by decide)
def z88 (l:List ByteArray)(j:Nat):ByteArray:=(l[j]?).getD z2l
def z89 (cs:List (List UInt8))(j:Nat):ByteArray:=baL ((cs[j]?).getD [])
def z8a (parts:List ByteArray)(cs:List (List UInt8))(k:Nat):Bool:=(List.range k).all fun j=>z82 (z88 parts j) (z89 cs j)
def z8b (parts:List ByteArray)(cs:List (List UInt8)):Nat→List ByteArray
 | 0=>[]
 | k+1=>z8b parts cs k++(if z79 (z88 parts k) then [z81 (z88 parts k) (z89 cs k)] else [])
def z8c (p:Pat)(cs:List (List UInt8)):Bool:=decide (p.parts.length≤cs.length) && (decide (p.parts.length<cs.length) == p.rest)
def z8d (p:Pat)(cs:List (List UInt8)):List ByteArray:=z8b p.parts cs p.parts.length++(if p.rest then [baL (Lib.join (cs.drop p.parts.length) [47])] else [])
def z8e (p:Pat)(s:ByteArray):Option (List ByteArray):=
 match z2q s.data.toList 2 with
 | none=>none
 | some cs=>if z7e p=0∧z8c p cs=true∧z8a p.parts cs p.parts.length=true then some (z8d p cs) else none
theorem z8f {parts:List ByteArray}{cs:List (List UInt8)}{k:Nat}:z8a parts cs (k+1)=(z8a parts cs k && z82 (z88 parts k) (z89 cs k)):=by
 unfold z8a;rw[List.range_succ,List.all_append];simp
theorem z8g {parts:List ByteArray}{cs:List (List UInt8)}{k n:Nat}(hk:k<n)(h:z82 (z88 parts k) (z89 cs k)=false):z8a parts cs n=false:=by
 unfold z8a;rw[List.all_eq_false];exact⟨k,List.mem_range.2 hk,by rw[h];simp⟩
def z8h (w:World)(p:Pat)(s:ByteArray)(e:Ending)(w':World):Prop:=∃ A n c,e=.returned (.tuple #[.slice A n c,.bool (z8e p s).isSome])∧Below w.heap.size w w'∧∀ l,z8e p s=some l→n=l.length∧Strs w' (.slice A n c) l
theorem z8i (s:ByteArray)(w:World)(he:Env w)(hs:s.size≤2000000):
  Calls prog 107 #[.string s] w fun e w'=>(z2q s.data.toList 2=none∧e=.returned (.tuple #[.slice none 0 0,.bool false])∧Below w.heap.size w w')∨∃ cs,z2q s.data.toList 2=some cs∧e=.returned (.tuple #[.slice (some ⟨w.heap.size,0,none⟩) cs.length cs.length,.bool true])∧w.alloc (.cells (z6v cs).toArray 9)=w':=by
 cases hd:z2q s.data.toList 2 with
 | none =>
  have H:=hd_ (z78 s w he hs hd);clear hd he;go_enter func107,ntmps107;go_wp2_with fail;refine H.out.mono ?_;rintro e w' ⟨rfl,hb⟩;have HB:=hd_ hb;clear hb;go_wp2_with fail;go_ret2;exact .inl ⟨by first | rfl | trivial,rfl,HB.out⟩
 | some cs =>
  have H:=hd_ (z77 s cs w he hs hd);clear hd he;generalize hW:w.alloc (.cells (z6v cs).toArray 9)=W at H;have HW:=hd_ hW;clear hW;go_enter func107,ntmps107;go_wp2_with fail;refine H.out.mono ?_;rintro e w' ⟨rfl,rfl⟩;go_wp2_with fail;go_ret2;exact .inr ⟨cs,rfl,rfl,HW.out⟩
theorem zbc {p:Pat}{s:ByteArray}(h:z2q s.data.toList 2=none):z8e p s=none:=by unfold z8e;rw[h]
theorem zbd {p:Pat}{s:ByteArray}{cs:List (List UInt8)}(h:z2q s.data.toList 2=some cs)(hn:¬(z7e p=0∧z8c p cs=true∧z8a p.parts cs p.parts.length=true)):z8e p s=none:=by unfold z8e;rw[h];exact if_neg hn
theorem zbe {p:Pat}{s:ByteArray}{cs:List (List UInt8)}(h:z2q s.data.toList 2=some cs)(h1:z7e p=0)(h2:z8c p cs=true)(h3:z8a p.parts cs p.parts.length=true):z8e p s=some (z8d p cs):=by unfold z8e;rw[h];exact if_pos ⟨h1,h2,h3⟩
theorem zbf {w w':World}{p:Pat}{s:ByteArray}(h:z8e p s=none)(hb:Below w.heap.size w w'):z8h w p s (.returned (.tuple #[.slice none 0 0,.bool false])) w':=
 ⟨none,0,0,by rw[h];rfl,hb,fun l hl=>by rw[h] at hl;cases hl⟩
theorem zbg {l:List ByteArray}{k:Nat}(h:k<l.length):z88 l k=l[k]:=by unfold z88;rw[List.getElem?_eq_getElem h];rfl
theorem zbh {cs:List (List UInt8)}{k:Nat}(h:k<cs.length):z89 cs k=baL cs[k]:=by unfold z89;rw[List.getElem?_eq_getElem h];rfl
theorem zbi {s:ByteArray}{cs:List (List UInt8)}(h:z2q s.data.toList 2=some cs):(∀ p∈cs,p.length≤s.size)∧cs.length≤s.size+1∧(Lib.join cs [47]).length≤s.size:=by
 unfold z2q at h;split at h
 ·injection h with h
  subst h;have hl:(s.data.toList.drop 2).length≤s.size:=by rw[List.length_drop];have:s.data.toList.length=s.size:=rfl;omega
  refine⟨fun p hp=>by have:=(z1e hp).2;omega,by have:=z1g (s.data.toList.drop 2);omega,by rw[z1i];exact hl⟩
 ·cases h
theorem zbj:∀(cs:List (List UInt8)) (n:Nat),(Lib.join (cs.drop n) [47]).length≤(Lib.join cs [47]).length
 | [],n=>by rw[List.drop_nil];exact Nat.le_refl _
 | c :: cs,0=>Nat.le_refl _
 | c :: cs,n+1=>by
  rw[List.drop_succ_cons];refine Nat.le_trans (zbj cs n) ?_;by_cases h:cs=[]
  ·subst h;rw[Lib.join_nil];exact Nat.zero_le _
  ·rw[z1h c cs h,List.length_append,List.length_append];omega
theorem zbk (p:Pat)(s:ByteArray)(A:Option Addr)(c:Nat)(w:World)(he:Env w)(hs:s.size≤1000000)(hS:Strs w (.slice A p.parts.length c) p.parts)(hz:∀ x∈p.parts,x.size≤maxLen):
  Calls prog 71 #[.agg #[.slice A p.parts.length c,.bool p.rest],.string s] w (z8h w p s):=by
 obtain⟨A',c',e',hcc,hmm,-⟩:=id hS;injection e' with e1 e2 e3
 subst e1 e3;unfold maxLen at hmm;have HS:=hd_ hS;have HZ:=hd_ hz;have HND:=hd_ (@zbc p s);have HNO:=hd_ (fun cs=>@zbd p s cs);have HYE:=hd_ (fun cs=>@zbe p s cs);have HPN:=hd_ (fun X (h:z8e p s=none) (hb:Below w.heap.size w X)=>zbf h hb);have hB:=z0l w [.slice A p.parts.length c,.bool p.rest] 97;have hA:Below w.heap.size w (w.alloc (.cells #[.slice A p.parts.length c,.bool p.rest] 97)):=(Below.refl _ _).alloc (Nat.le_refl _) _;have HSP:=hd_ (fun X (hX:Below w.heap.size w X)=>z8i s X (he.below hX) (by omega))
 have HCK:=hd_ (fun X (hX:Below w.heap.size w X)=>za0 p A c X (hS.below hX) hz);have HSZ:=hd_ hs;clear hS hz he e2 hs;go_enter func71,ntmps71;go_upto_region 1 with fail;generalize w.alloc (.cells #[.slice A p.parts.length c,.bool p.rest] 97)=W1 at hB hA ⊢;have HB:=hd_ hB;have HA:=hd_ hA;clear hB hA;go_wp2_with fail;refine (HSP.out W1 HA.out).mono ?_;rintro e w2 (⟨hd,rfl,hb2⟩ | ⟨cs,hd,rfl,hw2⟩)
 ·have HB2:=hd_ (z0r HA.out hb2);have HR:=hd_ (HND.out hd);clear hd hb2;go_wp2_with fail;go_ret2;exact HPN.out _ HR.out HB2.out
 have hK2:=z0l W1 (z6v cs) 9;have hb2:Below W1.heap.size W1 (W1.alloc (.cells (z6v cs).toArray 9)):=(Below.refl _ _).alloc (Nat.le_refl _) _;rw[hw2] at hK2 hb2;have HD:=hd_ hd;have HDP:=hd_ (zbi hd);have HK2:=hd_ hK2;have HB2:=hd_ (z0r HA.out hb2);have d0:w2.cell? ⟨w.heap.size,0,none⟩=some (.slice A p.parts.length c):=(HB.out.below hb2 HB.out.lt).cell 0;have d1:w2.cell? ⟨w.heap.size,1,none⟩=some (.bool p.rest):=(HB.out.below hb2 HB.out.lt).cell 1;have HBW:=hd_ (HB.out.below hb2 HB.out.lt);clear hd hw2 hK2 hb2 HSP HND;have hcl:cs.length≤1000001:=by have:=HDP.out.2.1;have:=HSZ.out;omega
 generalize hg2:W1.heap.size=g2 at HK2 ⊢;clear hg2;have HC2:=hd_ (HCK.out w2 HB2.out);generalize hpe:z7e p=pe at HC2;have HPE:=hd_ hpe;clear hpe HCK;by_cases h0:pe=0
 case neg =>
  have q:(pe != 0)=true:=by simpa using h0
  have HR:=hd_ (HNO.out _ HD.out (fun h=>h0 (HPE.out ▸ h.1)));clear h0;go_wp2_with fail;refine HC2.out.mono ?_;rintro e w3 ⟨rfl,hb3⟩;have HB3:=hd_ (z0r HB2.out hb3);clear hb3 d0 d1;go_wp2_with fail;go_ret2;exact HPN.out _ HR.out HB3.out
 have q:(pe != 0)=false:=by simpa using h0
 have HP0:Hid (z7e p=0):=hd_ (HPE.out.trans h0);clear h0;go_wp2_with fail;refine HC2.out.mono ?_;rintro e w3 ⟨rfl,hb3⟩;have HB3:=hd_ (z0r HB2.out hb3);have HK3:=hd_ (HK2.out.below hb3 HK2.out.lt);have HBW3:=hd_ (HBW.out.below hb3 HBW.out.lt);clear hb3 d0 d1 HC2 HK2 HBW;have d0:w3.cell? ⟨w.heap.size,0,none⟩=some (.slice A p.parts.length c):=HBW3.out.cell 0;have d1:w3.cell? ⟨w.heap.size,1,none⟩=some (.bool p.rest):=HBW3.out.cell 1;obtain⟨b,hb⟩:∃ b,z8c p cs=b:=⟨_,rfl⟩;have HFB:=hd_ hb;have HFD:Hid (b=(decide (p.parts.length≤cs.length) && (decide (p.parts.length<cs.length) == p.rest))):=hd_ (by rw[← hb];rfl)
 clear hb;go_upto_region 5 with fail;go_cut [41] (fun v wx=>v=.bool (!b)∧wx=w3)
 case first =>
  by_cases h1:cs.length<p.parts.length
  ·have hbf:b=false:=by rw[HFD.out,decide_eq_false (by omega)];rfl
   have q1:decide ((cs.length:Int)<(p.parts.length:Int))=true:=by simp;omega
   have q1':decide (cs.length<p.parts.length)=true:=by simp;omega
   subst hbf;clear h1 HFD;go_wp2_with fail;go_meet
   exact⟨by first | rfl | (rw[q1'];rfl),rfl⟩
  ·have q1:decide ((cs.length:Int)<(p.parts.length:Int))=false:=by simp;omega
   have q1':decide (cs.length<p.parts.length)=false:=by simp;omega
   by_cases h2:p.parts.length<cs.length
   ·have q2:decide ((p.parts.length:Int)<(cs.length:Int))=true:=by simp;omega
    have q2':decide (p.parts.length<cs.length)=true:=by simp;omega
    have HBB:Hid ((!b)=(!(true == p.rest))):=hd_ (by rw[HFD.out,decide_eq_true (show p.parts.length≤cs.length by omega),decide_eq_true h2];cases p.rest <;> rfl)
    clear h1 h2 HFD;go_wp2_with fail;go_meet
    exact⟨by rw[HBB.out];first | rfl | (rw[q1',q2'];rfl) | simp [q1',q2'],rfl⟩
   ·have q2:decide ((p.parts.length:Int)<(cs.length:Int))=false:=by simp;omega
    have q2':decide (p.parts.length<cs.length)=false:=by simp;omega
    have HBB:Hid ((!b)=(!(false == p.rest))):=hd_ (by rw[HFD.out,decide_eq_true (show p.parts.length≤cs.length by omega),decide_eq_false h2];cases p.rest <;> rfl)
    clear h1 h2 HFD;go_wp2_with fail;go_meet
    exact⟨by rw[HBB.out];first | rfl | (rw[q1',q2'];rfl) | simp [q1',q2'],rfl⟩
 case rest =>
  obtain⟨rfl,rfl⟩:=hcut;cases b with
  | false =>
   have HR:=hd_ (HNO.out _ HD.out (fun h=>by have:=h.2.1;rw[HFB.out] at this;cases this))
   go_wp2_with fail;go_ret2;exact HPN.out _ HR.out HB3.out
  | true =>
   rw[show (!true)=false from rfl];have hle:p.parts.length≤cs.length:=by
    have:=HFD.out;simp only[Bool.true_eq,Bool.and_eq_true,decide_eq_true_eq] at this
    exact this.1
   clear HFD;have HNZ:=hd_ (fun k (hk:k<p.parts.length) (h:z82 (z88 p.parts k) (z89 cs k)=false)=>HNO.out _ HD.out (fun hh=>by have:=hh.2.2;rw[z8g hk h] at this;cases this))
   have HYY:=hd_ (fun(h:z8a p.parts cs p.parts.length=true)=>HYE.out _ HD.out HP0.out HFB.out h);have HCL:=hd_ hcl;have HLE:=hd_ hle;go_wp2_with fail;clear d0 d1;go_loopw [9,45] (fun u s wr=>∃(k m:Nat) (A2:Option Addr) (c2:Nat),s=.int .i64 k∧u=.slice A2 m c2∧k≤p.parts.length∧m≤k∧Hid (m=(z8b p.parts cs k).length∧z8a p.parts cs k=true∧Below wc.heap.size wc wr∧wr.ownsRow wc.heap.size 9 1 (.slice A2 m c2) m ((z8b p.parts cs k).map .string))) (fun _ s _=>p.parts.length - (intOf s).toNat)
   case atStart=>exact⟨0,0,none,0,rfl,rfl,Nat.zero_le _,Nat.le_refl _,rfl,rfl,Below.refl _ _,World.ownsRow_nil _ _ _ _⟩
   case round =>
    obtain⟨k,m,A2,c2,rfl,rfl,hk,hmk,HI⟩:=hrel;by_cases hlt:k<p.parts.length
    ·have hkc:k<cs.length:=by omega
     have hz1:(k:Int)<(cs.length:Int):=by omega
     have hbw:=z0r HB3.out HI.out.2.2.1;obtain⟨ad,rfl,hab,x0⟩:=Strs.at_ (HS.out.below hbw) hlt;have x1:=(HK3.out.below HI.out.2.2.1 HK3.out.lt).strs k hkc;have HX:=hd_ (zbg hlt);have HY:=hd_ (zbh hkc);have hps:(p.parts[k]).size≤9223372036854775807:=by have:=HZ.out _ (List.getElem_mem hlt);unfold maxLen at this;omega
     have hcz:(baL cs[k]).size≤9223372036854775807:=by rw[z6x];have:=HDP.out.1 _ (List.getElem_mem hkc);have:=HSZ.out;omega
     generalize p.parts[k]=part at x0 HX hps;generalize baL cs[k]=comp at x1 HY hcz;have HM:=hd_ (fun X=>z86 part comp X hps hcz);have HT:=hd_ (fun X=>z7k part X);have HNK:Hid (z82 part comp=false→z8e p s=none):=hd_ (fun h=>HNZ.out k hlt (by rw[HX.out,HY.out];exact h))
     have HZB:Hid (z82 part comp=true→z8a p.parts cs (k+1)=true):=hd_ (fun h=>by rw[z8f,HI.out.2.1,HX.out,HY.out,h];rfl)
     have HZC:Hid (z8b p.parts cs (k+1)=z8b p.parts cs k++(if z79 part then [z81 part comp] else [])):=hd_ (by rw[← HX.out,← HY.out];rfl)
     generalize z81 part comp=x at HM HZC;generalize z82 part comp=b at HM HNK HZB;generalize z79 part=st at HT HZC;clear hbw hps hcz hab;cases b with
     | false =>
      have HR:=hd_ (HNK.out rfl);have HBI:=hd_ (z0r HB3.out HI.out.2.2.1);go_wp2_with (first
       | (go_at_call 109;refine (HM.out _).mono ?_;rintro e w' ⟨rfl,rfl⟩))
      go_ret2;exact HPN.out _ HR.out HBI.out
     | true =>
      have HB:=hd_ (HZB.out rfl);cases st with
      | false =>
       have HN:Hid (m=(z8b p.parts cs (k+1)).length∧z8a p.parts cs (k+1)=true∧Below wc.heap.size wc wr∧wr.ownsRow wc.heap.size 9 1 (.slice A2 m c2) m ((z8b p.parts cs (k+1)).map .string)):=hd_ (by
        have e:z8b p.parts cs (k+1)=z8b p.parts cs k:=by rw[HZC.out];simp
        rw[e];exact⟨HI.out.1,HB.out,HI.out.2.2.1,HI.out.2.2.2⟩)
       go_wp2_with (first
        | (go_at_call 109;refine (HM.out _).mono ?_;rintro e w' ⟨rfl,rfl⟩)
        | (go_at_call 110;refine (HT.out _).mono ?_;rintro e w' ⟨rfl,rfl⟩))
       go_roundw
       case rel=>exact⟨k+1,m,A2,c2,by go_num,rfl,by omega,by omega,HN.out⟩
       case measure=>simp [intOf];omega
      | true =>
       have HOW:=hd_ HI.out.2.2.2;have HBI:=hd_ HI.out.2.2.1;go_wp2_with (first
        | (go_at_call 109;refine (HM.out _).mono ?_;rintro e w' ⟨rfl,rfl⟩)
        | (go_at_call 110;refine (HT.out _).mono ?_;rintro e w' ⟨rfl,rfl⟩)
        | (at_builtin;refine z0k rfl rfl z87 (z0n HOW.out ((Below.refl _ _).alloc (Nat.le_refl _) _)) rfl (z0i _ [.string x] _ 1 1 rfl (by decide) _ (by simp)) rfl (HBI.out.alloc HBI.out.size _) (HBI.out.alloc HBI.out.size _).size (by simp [Value.oneCell']) (by omega) (by unfold maxLen;omega) ?_;intro A' c' w5 hown5 hbl5))
       have HN:Hid (m+1=(z8b p.parts cs (k+1)).length∧z8a p.parts cs (k+1)=true∧Below wc.heap.size wc w5∧w5.ownsRow wc.heap.size 9 1 (.slice A' (m+1) c') (m+1) ((z8b p.parts cs (k+1)).map .string)):=hd_ (by
        have e:z8b p.parts cs (k+1)=z8b p.parts cs k++[x]:=by rw[HZC.out];rfl
        rw[e];refine⟨by rw[List.length_append,List.length_singleton,HI.out.1],HB.out,hbl5,?_⟩
        rw[List.map_append];exact hown5)
       clear hown5 hbl5;go_wp2_with fail;go_roundw
       case rel=>exact⟨k+1,m+1,A',c',by go_num,rfl,by omega,by omega,HN.out⟩
       case measure=>simp [intOf];omega
    ·have hke:k=p.parts.length:=by omega
     have HF:Hid (m=(z8b p.parts cs p.parts.length).length∧z8e p s=some (z8d p cs)∧Below wc.heap.size wc wr∧wr.ownsRow wc.heap.size 9 1 (.slice A2 m c2) m ((z8b p.parts cs p.parts.length).map .string)):=hd_ (by
      have h:=HI.out;rw[hke] at h;exact⟨h.1,HYY.out h.2.1,h.2.2.1,h.2.2.2⟩)
     have d1:wr.cell? ⟨w.heap.size,1,none⟩=some (.bool p.rest):=(HBW3.out.below HI.out.2.2.1 HBW3.out.lt).cell 1;have hge:¬((k:Int)<(p.parts.length:Int)):=by omega
     clear HI hke;cases hr:p.rest with
     | false =>
      rw[hr] at d1;have HRS:=hd_ hr;clear hr;go_wp2_with fail;go_ret2;refine⟨A2,m,c2,by rw[HF.out.2.1];rfl,z0r HB3.out HF.out.2.2.1,fun l hl=>?_⟩
      rw[HF.out.2.1] at hl;injection hl with hl
      have e:z8d p cs=z8b p.parts cs p.parts.length:=by unfold z8d;rw[HRS.out];simp
      rw[e] at hl;subst hl;refine⟨HF.out.1,?_⟩;have:=Row.of_own HF.out.2.2.2;rw[HF.out.1] at this ⊢;exact this
     | true =>
      rw[hr] at d1;have HRS:=hd_ hr;clear hr;have hnc:p.parts.length<cs.length:=by
       have h:=HFB.out;unfold z8c at h;rw[HRS.out] at h;simp only[Bool.and_eq_true,beq_iff_eq,decide_eq_true_eq] at h
       exact h.2
      have hK:=HK3.out.below HF.out.2.2.1 HK3.out.lt;have hat:z8k wr g2 p.parts.length (cs.drop p.parts.length):=fun j hj=>by
       rw[List.length_drop] at hj;rw[List.getElem_drop];exact hK.strs _ (by omega)
      have hJ:=z8n (cs.drop p.parts.length) g2 p.parts.length (cs.length - p.parts.length) wr hat (by rw[List.length_drop];omega) (by rw[List.length_drop];omega) (by rw[List.length_drop];omega) (by have:=zbj cs p.parts.length;have:=HDP.out.2.2;have:=HSZ.out;omega)
      rw[List.length_drop] at hJ;have HJ:=hd_ hJ;have HCP:Hid (z8d p cs=z8b p.parts cs p.parts.length++[baL (Lib.join (cs.drop p.parts.length) [47])]):=hd_ (by unfold z8d;rw[HRS.out];rfl)
      generalize baL (Lib.join (cs.drop p.parts.length) [47])=x at HJ HCP;clear hJ hat hK;go_wp2_with fail;refine HJ.out.mono ?_;rintro e w6 ⟨rfl,hb6⟩;have HOW:=hd_ (z0n HF.out.2.2.2 hb6);have HBI:=hd_ (z0r HF.out.2.2.1 hb6);clear hb6;go_wp2_with (first
       | (at_builtin;refine z0k rfl rfl z87 (z0n HOW.out ((Below.refl _ _).alloc (Nat.le_refl _) _)) rfl (z0i _ [.string x] _ 1 1 rfl (by decide) _ (by simp)) rfl (HBI.out.alloc HBI.out.size _) (HBI.out.alloc HBI.out.size _).size (by simp [Value.oneCell']) (by omega) (by unfold maxLen;omega) ?_;intro A' c' w7 hown7 hbl7))
      have HO7:=hd_ hown7;have HB7:=hd_ hbl7;clear hown7 hbl7;go_wp2_with fail;go_ret2;refine⟨A',m+1,c',by rw[HF.out.2.1];rfl,z0r HB3.out HB7.out,fun l hl=>?_⟩
      rw[HF.out.2.1] at hl;injection hl with hl
      rw[HCP.out] at hl;subst hl;have hm:=HF.out.1;refine⟨by rw[List.length_append,List.length_singleton,hm],?_⟩
      have h7:=Row.of_own HO7.out;show Row w7 1 _ (z8b p.parts cs p.parts.length++[x]).length _
      rw[List.length_append,List.length_singleton,← hm,List.map_append];exact h7
def zh8:List (List UInt8)→List (List UInt8)→Int
 | [],[]=>0
 | [],_ :: _=>-1
 | _ :: _,[]=>1
 | a :: l,b :: m=>if Lib.compareBytes a b=0 then zh8 l m else Lib.compareBytes a b
def zh9:List (List UInt8)→List UInt8
 | []=>[]
 | p :: ps=>47 :: p++zh9 ps
theorem zha (p:List UInt8)(ps:List (List UInt8)):47 :: Lib.join (p :: ps) [47]=zh9 (p :: ps):=by
 induction ps generalizing p with
 | nil=>simp [Lib.join_one,zh9]
 | cons q ps ih =>
  rw[z1h p (q :: ps) (by simp),zh9,← ih q]
  simp
def zhb (l:List UInt8):Prop:=l=[]∨∃ r,l=47 :: r
theorem zhc (ps:List (List UInt8)):zhb (zh9 ps):=by
 cases ps with
 | nil=>exact .inl rfl
 | cons p ps=>exact .inr ⟨p++zh9 ps,by simp [zh9]⟩
theorem zhd:∀(p q X Y:List UInt8),(47:UInt8)∉p→(47:UInt8)∉q→zhb X→zhb Y→z2t (p++X) (q++Y)=if Lib.compareBytes p q=0 then z2t X Y else Lib.compareBytes p q
 | [],[],X,Y,_,_,_,_=>by simp [Lib.compareBytes]
 | [],b :: q,X,Y,_,hq,hX,_=>by
  have hb:b≠47:=fun e=>hq (by rw[e];exact List.mem_cons_self ..)
  rcases hX with rfl | ⟨r,rfl⟩
  ·simp [Lib.compareBytes,z2t]
  ·simp [Lib.compareBytes,z2t]
   exact fun e=>absurd e.symm hb
 | a :: p,[],X,Y,hp,_,_,hY=>by
  have ha:a≠47:=fun e=>hp (by rw[e];exact List.mem_cons_self ..)
  rcases hY with rfl | ⟨r,rfl⟩
  ·simp [Lib.compareBytes,z2t]
  ·simp [Lib.compareBytes,z2t,ha]
 | a :: p,b :: q,X,Y,hp,hq,hX,hY=>by
  have ha:a≠47:=fun e=>hp (by rw[e];exact List.mem_cons_self ..)
  have hb:b≠47:=fun e=>hq (by rw[e];exact List.mem_cons_self ..)
  have ih:=zhd p q X Y (fun h=>hp (List.mem_cons_of_mem _ h)) (fun h=>hq (List.mem_cons_of_mem _ h)) hX hY;rw[List.cons_append,List.cons_append,z2t,Lib.compareBytes];by_cases e:a=b
  ·subst e;have hlt:¬ a<a:=by rw[UInt8.lt_iff_toNat_lt];omega
   rw[if_pos rfl,if_neg hlt,if_neg hlt];exact ih
  ·rw[if_neg e,if_neg ha,if_neg hb];by_cases hl:a<b
   ·rw[if_pos hl,if_pos hl];simp
   ·have hg:b<a:=by
     have:a.toNat≠b.toNat:=fun h=>e (UInt8.toNat_inj.1 h);rw[UInt8.lt_iff_toNat_lt] at hl ⊢;omega
    rw[if_neg hl,if_neg hl,if_pos hg];simp
theorem zhe:∀(ps qs:List (List UInt8)),(∀ p∈ps,(47:UInt8)∉p)→(∀ q∈qs,(47:UInt8)∉q)→z2t (zh9 ps) (zh9 qs)=zh8 ps qs
 | [],[],_,_=>rfl
 | [],q :: qs,_,_=>by simp [zh9,z2t,zh8]
 | p :: ps,[],_,_=>by simp [zh9,z2t,zh8]
 | p :: ps,q :: qs,hp,hq=>by
  have ih:=zhe ps qs (fun x hx=>hp x (List.mem_cons_of_mem _ hx)) (fun x hx=>hq x (List.mem_cons_of_mem _ hx));rw[zh9,zh9,List.cons_append,List.cons_append,z2t,if_pos rfl,zhd p q _ _ (hp p (List.mem_cons_self ..)) (hq q (List.mem_cons_self ..)) (zhc _) (zhc _),zh8,ih]
theorem zhf {l:List UInt8}{least:Nat}{ps:List (List UInt8)}(h:z2q l least=some ps):l=47 :: zh9 ps∧∀ p∈ps,(47:UInt8)∉p:=by
 unfold z2q at h;split at h
 ·rename_i hc
  injection h with h
  subst h;have hp:=hc.1;have hl:l=47 :: 47 :: l.drop 2:=by
   match l,hp with
   | [],hp=>simp [Lib.hasPrefix] at hp
   | [a],hp=>simp [Lib.hasPrefix] at hp
   | a :: b :: r,hp =>
    simp [Lib.hasPrefix] at hp
    obtain⟨rfl,rfl⟩:=hp;rfl
  have hj:=z1i (l.drop 2);refine⟨?_,fun p hp=>(z1e hp).1⟩;cases hs:z1a (l.drop 2) with
  | nil=>exact absurd hs (z1b _)
  | cons p ps =>
   rw[← zha,← hs,hj];exact hl
 ·cases h
theorem zhg {a b:ByteArray}{ps qs:List (List UInt8)}(ha:z2q a.data.toList 2=some ps)(hb:z2q b.data.toList 2=some qs):z2u a b=zh8 ps qs:=by
 have va:z2s a=true:=by unfold z2s z2r;rw[ha];rfl
 have vb:z2s b=true:=by unfold z2s z2r;rw[hb];rfl
 obtain⟨a1,a2⟩:=zhf ha;obtain⟨b1,b2⟩:=zhf hb;rw[z5d va vb,a1,b1,z2t,if_pos rfl,zhe ps qs a2 b2]
def zhu (n:Nat):Code→Bool
 | .region i _ _=>i == n
 | .seq a b=>zhu n a || zhu n b
 | .cond _ a b=>zhu n a || zhu n b
 | .block _ a=>zhu n a
 | .loop a=>zhu n a
 | _=>false
def zhv (n:Nat):Code→Option Code
 | .seq a b=>if zhu n a then some (.seq a b) else zhv n b
 | c=>if zhu n c then some c else none
end Go.Proofs.YtegeboijhifmcaaGreatDoor
