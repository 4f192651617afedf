/- A part. -/
import Derived.Test.YtijghobkkdbhnaaGreatDoorMgw3
import Derived.Test.YtijghobkkdbhnaaGreatDoorMgw5
import Derived.Deep.RegionLaw
set_option linter.unusedVariables false
set_option linter.unusedSimpArgs false
set_option maxHeartbeats 1000000
namespace Go.Proofs.YtijghobkkdbhnaaGreatDoor
open Go.RowKit
theorem z4p {w:World}{base base':Nat}{e:TypeId}{size n:Nat}{v:Value}{xs:List Value}(h:w.ownsRow base e size v n xs)(hb:base'≤base):w.ownsRow base' e size v n xs:=by
 obtain⟨h1,h2 | ⟨g,cap,cur,e1,h3,h4⟩⟩:=h
 ·exact⟨h1,.inl h2⟩
 ·exact⟨h1,.inr ⟨g,cap,cur,e1,Nat.le_trans hb h3,h4⟩⟩
theorem z4q {w w':World}{base:Nat}{e:TypeId}{size n:Nat}{v:Value}{xs:List Value}{row:Option Nat}(h:w.ownsRow base e size v n xs)(hg:w.grownBy w' row)(hne:∀ x,v.ownBlock=some x→row≠some x):w'.ownsRow base e size v n xs:=by
 obtain⟨h1,h2 | ⟨g,cap,cur,e1,h3,h4,h5⟩⟩:=h
 ·exact⟨h1,.inl h2⟩
 ·exact⟨h1,.inr ⟨g,cap,cur,e1,h3,by rw[hg.block g (Array.getElem?_eq_some_iff.1 h4).1 (fun e=>hne g (by rw[e1];rfl) e.symm)];exact h4,h5⟩⟩
theorem z4r {w:World}{base:Nat}{e:TypeId}{size n:Nat}{v:Value}{xs:List Value}(h:w.ownsRow base e size v n xs){p:Addr}(hne:v.ownBlock≠some p.block)(u:Value):(w.setCell p u).ownsRow base e size v n xs:=by
 obtain⟨h1,h2 | ⟨g,cap,cur,e1,h3,h4,h5⟩⟩:=h
 ·exact⟨h1,.inl h2⟩
 ·exact⟨h1,.inr ⟨g,cap,cur,e1,h3,by rw[Below.heap_setCell w p u g (fun e=>hne (by rw[e1,← e];rfl))];exact h4,h5⟩⟩
open Go.Sort
section
variable {α : Type} [Inhabited α]
def z5g (d:Array α)(a m b x:Nat):α:=
 if a≤x∧x<a+(b - m) then d[x+(m - a)]! else if a+(b - m)≤x∧x<b then d[x - (b - m)]! else d[x]!
def z5h (d:Array α)(a b:Nat):Nat→Array α
 | 0=>d
 | n+1=>swp (z5h d a b n) (a+n) (b+n)
theorem z5i (d:Array α)(a b n:Nat):(z5h d a b n).size=d.size:=by
 induction n with
 | zero=>rfl
 | succ n ih=>rw[z5h,swp_size,ih]
theorem z5j (d:Array α)(a b:Nat):∀ n,a+n≤b→b+n≤d.size→∀ x,(z5h d a b n)[x]! = if a≤x∧x<a+n then d[x+(b - a)]! else if b≤x∧x<b+n then d[x - (b - a)]! else d[x]!:=by
 intro n;induction n with
 | zero=>intro h hb x;rw[z5h,if_neg (by omega),if_neg (by omega)]
 | succ n ih =>
  intro h hb x;have ih:=ih (by omega) (by omega)
  rw[z5h,swp_get _ (by rw[z5i];omega) (by rw[z5i];omega),ih,ih,ih]
  by_cases h1:x=b+n
  ·subst h1;rw[if_pos rfl,if_neg (by omega),if_neg (by omega),if_neg (by omega),if_pos (by omega)]
   congr 1;omega
  ·rw[if_neg h1];by_cases h2:x=a+n
   ·subst h2;rw[if_pos rfl,if_neg (by omega),if_neg (by omega),if_pos (by omega)]
    congr 1;omega
   ·rw[if_neg h2];by_cases h3:a≤x∧x<a+n
    ·rw[if_pos h3,if_pos (by omega)]
    ·rw[if_neg h3,if_neg (show ¬(a≤x∧x<a+(n+1)) by omega)]
     by_cases h4:b≤x∧x<b+n
     ·rw[if_pos h4,if_pos (by omega)]
     ·rw[if_neg h4,if_neg (by omega)]
theorem z5k (d:Array α)(a b lo hi:Nat):∀ n,lo≤a→lo≤b→a+n≤hi→b+n≤hi→hi≤d.size→PermIn lo hi d (z5h d a b n):=by
 intro n;induction n with
 | zero=>intros;exact permIn_refl _ _ _
 | succ n ih =>
  intro h1 h2 h3 h4 h5;exact permIn_trans _ _ _ _ _ (ih h1 h2 (by omega) (by omega) h5) (swp_permIn _ _ _ _ _ (by omega) (by omega) (by omega) (by omega) (by rw[z5i];exact h5))
def z5l (d:Array α)(a m b:Nat)(d':Array α)(i j:Nat):Prop:=
 0<i∧0<j∧i≤m - a∧j≤b - m∧PermIn a b d d'∧∀ x,z5g d' (m - i) m (m+j) x=z5g d a m b x
theorem z5l.start {d:Array α}{a m b:Nat}(h1:a<m)(h2:m<b):z5l d a m b d (m - a) (b - m):=
 ⟨by omega,by omega,by omega,by omega,permIn_refl _ _ _,fun x=>by rw[show m - (m - a)=a by omega,show m+(b - m)=b by omega]⟩
theorem z5l.left {d d':Array α}{a m b i j:Nat}(h:z5l d a m b d' i j)(ha:a<m)(hm:m<b)(hb:b≤d.size)(hij:j<i):z5l d a m b (z5h d' (m - i) m j) (i - j) j:=by
 obtain⟨h1,h2,h3,h4,h5,h6⟩:=h;have hs:=h5.1;refine⟨by omega,h2,by omega,h4,permIn_trans _ _ _ _ _ h5 (z5k _ _ _ _ _ _ (by omega) (by omega) (by omega) (by omega) (by omega)),fun x=>?_⟩
 rw[← h6 x];unfold z5g;have g:=z5j d' (m - i) m j (by omega) (by omega)
 rw[g,g,g];by_cases c1:x<m - i
 ·rw[if_neg (by omega),if_neg (by omega),if_neg (by omega),if_neg (by omega),if_neg (by omega),if_neg (by omega)]
 ·by_cases c2:x<m - i+j
  ·rw[if_neg (by omega),if_neg (by omega),if_pos (by omega),if_pos (by omega)]
   (try (congr 1;omega))
  ·by_cases c3:m+j≤x
   ·rw[if_neg (by omega),if_neg (by omega),if_neg (by omega),if_neg (by omega),if_neg (by omega),if_neg (by omega)]
   ·by_cases c4:x<m - (i - j)+j
    ·rw[if_pos (by omega),if_neg (by omega),if_pos (by omega),if_neg (by omega),if_pos (by omega)]
     congr 1;omega
    ·rw[if_neg (by omega),if_pos (by omega),if_neg (by omega),if_neg (by omega),if_neg (by omega),if_pos (by omega)]
     (try (congr 1;omega))
theorem z5l.right {d d':Array α}{a m b i j:Nat}(h:z5l d a m b d' i j)(ha:a<m)(hm:m<b)(hb:b≤d.size)(hij:i<j):z5l d a m b (z5h d' (m - i) (m+j - i) i) i (j - i):=by
 obtain⟨h1,h2,h3,h4,h5,h6⟩:=h;have hs:=h5.1;refine⟨h1,by omega,h3,by omega,permIn_trans _ _ _ _ _ h5 (z5k _ _ _ _ _ _ (by omega) (by omega) (by omega) (by omega) (by omega)),fun x=>?_⟩
 rw[← h6 x];unfold z5g;have g:=z5j d' (m - i) (m+j - i) i (by omega) (by omega)
 rw[g,g,g];by_cases c1:x<m - i
 ·rw[if_neg (by omega),if_neg (by omega),if_neg (by omega),if_neg (by omega),if_neg (by omega),if_neg (by omega)]
 ·by_cases c3:m+j≤x
  ·rw[if_neg (by omega),if_neg (by omega),if_neg (by omega),if_neg (by omega),if_neg (by omega),if_neg (by omega)]
  ·by_cases c2:m+j - i≤x
   ·rw[if_neg (by omega),if_neg (by omega),if_neg (by omega),if_pos (by omega),if_neg (by omega),if_pos (by omega)]
    congr 1;omega
   ·by_cases c4:x<m - i+(m+(j - i) - m)
    ·rw[if_pos (show m - i≤x∧x<m - i+(m+(j - i) - m) by omega),if_neg (by omega)]
     by_cases c5:x+(m - (m - i))<m+j - i
     ·rw[if_neg (by omega),if_pos (by omega)]
     ·omega
    ·rw[if_neg (show ¬(m - i≤x∧x<m - i+(m+(j - i) - m)) by omega),if_pos (show m - i+(m+(j - i) - m)≤x∧x<m+(j - i) by omega),if_pos (by omega),if_pos (by omega)]
     congr 1;omega
theorem z5l.fin {d d':Array α}{a m b i:Nat}(h:z5l d a m b d' i i)(ha:a<m)(hm:m<b)(hb:b≤d.size):
  PermIn a b d (z5h d' (m - i) m i)∧∀ x,(z5h d' (m - i) m i)[x]! = z5g d a m b x:=by
 obtain⟨h1,h2,h3,h4,h5,h6⟩:=h;have hs:=h5.1;refine⟨permIn_trans _ _ _ _ _ h5 (z5k _ _ _ _ _ _ (by omega) (by omega) (by omega) (by omega) (by omega)),fun x=>?_⟩
 rw[← h6 x,z5j d' (m - i) m i (by omega) (by omega)]
 unfold z5g;by_cases c1:m - i≤x∧x<m - i+i
 ·rw[if_pos c1,if_pos (by omega)]
 ·rw[if_neg c1,if_neg (show ¬(m - i≤x∧x<m - i+(m+i - m)) by omega)]
  by_cases c2:m≤x∧x<m+i
  ·rw[if_pos c2,if_pos (by omega)];congr 1;omega
  ·rw[if_neg c2,if_neg (by omega)]
variable {lt : α → α → Bool}
theorem SortedIn.sub {d:Array α}{a b a' b':Nat}(h:SortedIn lt a b d)(ha:a≤a')(hb:b'≤b):SortedIn lt a' b' d:=fun i j hi hij hj=>h i j (by omega) hij (by omega)
theorem SortedIn.same {d d':Array α}{a b:Nat}(h:SortedIn lt a b d)(he:∀ x,a≤x→x<b→d'[x]! = d[x]!):SortedIn lt a b d':=fun i j hi hij hj=>by
 rw[he i hi (by omega),he j (by omega) hj];exact h i j hi hij hj
omit [Inhabited α] in
theorem SWO.le (hO:SWO lt){x y z:α}(h1:lt y x=false)(h2:lt z y=false):lt z x=false:=hO.ntrans _ _ _ h2 h1
structure CutAt (lt:α→α→Bool)(d:Array α)(a m b mid s:Nat):Prop where
 lo:a≤s
 hi:s≤m
 le:s≤mid
 elo:m+s≤mid+m
 ehi:mid+m≤b+s
 below:a<s→mid+m<b+s→lt d[mid+m - s]! d[s - 1]! = false
 above:s<m→s<mid→lt d[mid+m - s - 1]! d[s]! = true
structure z5m (lt:α→α→Bool)(d:Array α)(n s0 r0 s r:Nat):Prop where
 lo:s0≤s
 mid:s≤r
 hi:r≤r0
 below:∀ c,s0≤c→c<s→lt d[n - 1 - c]! d[c]! = false
 above:∀ c,r≤c→c<r0→lt d[n - 1 - c]! d[c]! = true
theorem z5m.cut (hO:SWO lt){d:Array α}{a m b s0 r0 s:Nat}(ham:a<m)(hmb:m<b)(h0:((a+b) / 2<m∧s0=(a+b) / 2+m - b∧r0=(a+b) / 2)∨(m≤(a+b) / 2∧s0=a∧r0=m))
  (h:z5m lt d ((a+b) / 2+m) s0 r0 s s):CutAt lt d a m b ((a+b) / 2) s:=by
 obtain⟨h1,-,h2,h3,h4⟩:=h;refine⟨by omega,by omega,by omega,by omega,by omega,fun g1 g2=>?_,fun g1 g2=>?_⟩
 ·have:=h3 (s - 1) (by omega) (by omega)
  rw[show (a+b) / 2+m - 1 - (s - 1)=(a+b) / 2+m - s by omega] at this
  exact this
 ·have:=h4 s (Nat.le_refl _) (by omega)
  rw[show (a+b) / 2+m - 1 - s=(a+b) / 2+m - s - 1 by omega] at this
  exact this
theorem z5m.go (hO:SWO lt){d:Array α}{a m b n s0 r0 s r c:Nat}(h:z5m lt d n s0 r0 s r)(hs:s≤c)(hr:c<r)(ha:a≤s0)(hr0:r0≤m)(hn1:m+r0≤n)(hn2:n≤b+s0)(hL:SortedIn lt a m d)(hR:SortedIn lt m b d)
  (hc:lt d[n - 1 - c]! d[c]! = false):z5m lt d n s0 r0 (c+1) r:=by
 obtain⟨h1,h2,h3,h4,h5⟩:=h;refine⟨by omega,by omega,h3,fun x hx hx2=>?_,h5⟩
 by_cases e:x=c
 ·rw[e];exact hc
 ·have k1:lt d[c]! d[x]! = false:=hL _ _ (by omega) (by omega) (by omega)
  have k2:lt d[n - 1 - x]! d[n - 1 - c]! = false:=hR _ _ (by omega) (by omega) (by omega)
  exact SWO.le hO (SWO.le hO k1 hc) k2
theorem z5m.back (hO:SWO lt){d:Array α}{a m b n s0 r0 s r c:Nat}(h:z5m lt d n s0 r0 s r)(hs:s≤c)(hr:c<r)(ha:a≤s0)(hr0:r0≤m)(hn1:m+r0≤n)(hn2:n≤b+s0)(hL:SortedIn lt a m d)(hR:SortedIn lt m b d)
  (hc:lt d[n - 1 - c]! d[c]! = true):z5m lt d n s0 r0 s c:=by
 obtain⟨h1,h2,h3,h4,h5⟩:=h;refine⟨h1,hs,by omega,h4,fun x hx hx2=>?_⟩
 by_cases e:x=c
 ·rw[e];exact hc
 ·have k1:lt d[x]! d[c]! = false:=hL _ _ (by omega) (by omega) (by omega)
  have k2:lt d[n - 1 - c]! d[n - 1 - x]! = false:=hR _ _ (by omega) (by omega) (by omega)
  cases hh:lt d[n - 1 - x]! d[x]! with
  | true=>rfl
  | false =>
   have:=SWO.le hO (SWO.le hO k1 hh) k2;rw[hc] at this;cases this
def z5n (lt:α→α→Bool)(d:Array α)(n bs q:Nat):Prop:=∀ k,q≤k→SortedIn lt (k * bs) (min ((k+1) * bs) n) d
def z5o (lt:α→α→Bool)(d:Array α)(n bs q:Nat):Prop:=∀ k,k<q→SortedIn lt (k * bs) (min ((k+1) * bs) n) d
theorem z5o.zero (d:Array α)(n bs:Nat):z5o lt d n bs 0:=fun k hk=>by omega
theorem z5o.step {d d':Array α}{n bs q lo hi:Nat}(h:z5o lt d n bs q)(hlo:lo=q * bs)(hp:PermIn lo hi d d')(hs:SortedIn lt (q * bs) (min ((q+1) * bs) n) d'):z5o lt d' n bs (q+1):=by
 intro k hk;by_cases e:k=q
 ·subst e;exact hs
 ·refine SortedIn.same (h k (by omega)) fun x hx hx2=>hp.2.1 x (.inl ?_)
  have:(k+1) * bs≤q * bs:=Nat.mul_le_mul_right _ (by omega)
  omega
theorem z5n.step {d d':Array α}{n bs q lo hi:Nat}(h:z5n lt d n bs q)(hlo:hi=(q+2) * bs)(hp:PermIn lo hi d d'):z5n lt d' n bs (q+2):=by
 intro k hk;refine SortedIn.same (h k (by omega)) fun x hx hx2=>hp.2.1 x (.inr ?_)
 have:(q+2) * bs≤k * bs:=Nat.mul_le_mul_right _ hk;omega
theorem z5o.all {d:Array α}{n bs q:Nat}(h:z5o lt d n bs q)(hq:n≤q * bs):z5n lt d n bs 0:=by
 intro k _;by_cases hk:k<q
 ·exact h k hk
 ·intro i j hi hij hj;have:q * bs≤k * bs:=Nat.mul_le_mul_right _ (by omega)
  omega
theorem z5n.whole {d:Array α}{n bs:Nat}(h:z5n lt d n bs 0)(hn:n≤bs):SortedIn lt 0 n d:=by
 have:=h 0 (Nat.le_refl _);rw[Nat.zero_mul,Nat.zero_add,Nat.one_mul,Nat.min_eq_right hn] at this;exact this
end
open Go.RowKit Go.Lib
open Go.Sort hiding Below
section
variable {α : Type} [Inhabited α]
end
section
variable {α : Type}
structure z5p (c:α→α→Int):Prop where
 self:∀ x,c x x=0
 anti:∀ x y,c y x=- c x y
 trans:∀ x y z,c x y<0→c y z<0→c x z<0
 same:∀ x y,c x y=0→∀ z,c x z=c y z
theorem z5p.same' {c:α→α→Int}(h:z5p c){x y:α}(he:c x y=0)(z:α):c z x=c z y:=by rw[h.anti x z,h.anti y z,h.same x y he]
theorem z5p.or {c1 c2:α→α→Int}(h1:z5p c1)(h2:z5p c2):z5p (fun x y=>orI (c1 x y) (c2 x y)) where
 self x:=by unfold orI;rw[h1.self,if_pos rfl,h2.self]
 anti x y:=by unfold orI;rw[h1.anti x y,h2.anti x y];split <;> split <;> omega
 trans x y z a b:=by
  unfold orI at a b ⊢
  by_cases e1:c1 x y=0
  ·rw[if_pos e1] at a;rw[h1.same x y e1 z];by_cases e2:c1 y z=0
   ·rw[if_pos e2] at b ⊢;exact h2.trans _ _ _ a b
   ·rw[if_neg e2] at b ⊢;exact b
  ·rw[if_neg e1] at a;by_cases e2:c1 y z=0
   ·rw[← h1.same' e2 x];rw[if_neg e1];exact a
   ·rw[if_neg e2] at b;have:=h1.trans _ _ _ a b;rw[if_neg (by omega)];exact this
 same x y e z:=by
  unfold orI at e ⊢
  by_cases e1:c1 x y=0
  ·rw[if_pos e1] at e;rw[h1.same x y e1 z,h2.same x y e z]
  ·rw[if_neg e1] at e;exact absurd e e1
theorem z5p.swo {c:α→α→Int}(h:z5p c):SWO (ltOf c) where
 irrefl x:=by unfold ltOf;rw[h.self];rfl
 trans x y z a b:=by unfold ltOf at *;simp only[decide_eq_true_eq] at *;exact h.trans _ _ _ a b
 ntrans x y z a b:=by
  unfold ltOf at *
  simp only[decide_eq_false_iff_not,Int.not_lt] at *
  have a':=h.anti x y;have b':=h.anti y z;have c':=h.anti x z;by_cases e1:c x y=0
  ·rw[h.same x y e1 z];exact b
  ·by_cases e2:c y z=0
   ·rw[← h.same' e2 x];exact a
   ·have:=h.trans z y x (by omega) (by omega);omega
theorem z5q (a b:ByteArray):z2u b a=- z2u a b:=by
 unfold z2u;by_cases h:(z2s a && z2s b)=true
 ·rw[if_pos h,if_pos (by rw[Bool.and_comm];exact h)];exact z5a _ _
 ·rw[if_neg h,if_neg (by rw[Bool.and_comm];exact h)];rfl
theorem z5r {a b:ByteArray}(ha:z2s a=true)(hb:z2s b=true)(h:z2u a b=0):a=b:=by
 rw[z5d ha hb] at h;have:=cmpL_eq h;cases a with | mk x=>cases b with | mk y=>exact congrArg ByteArray.mk (Array.toList_inj.1 this)
theorem totP {f:α→ByteArray}(hf:∀ x,z2s (f x)=true):z5p (fun x y=>z2u (f x) (f y)) where
 self x:=z5e _
 anti x y:=z5q _ _
 trans x y z a b:=z5f (hf _) (hf _) (hf _) a b
 same x y e z:=by rw[z5r (hf x) (hf y) e]
end
def Rcd.good (r:Rcd):Prop:=r.small∧z2s r.frm=true∧z2s r.to=true
abbrev z5s:={ r:Rcd // r.good }
def z5t:ByteArray:=⟨#[47,47,97,47,98]⟩
theorem z5u:z2s z5t=true:=by decide
instance:Inhabited z5s:=⟨⟨⟨z5t,0,0,z5t,0,0⟩,⟨by unfold z5t;decide,by unfold z5t;decide⟩,z5u,z5u⟩⟩
def z5s.enc (r:z5s):List Value:=r.1.cells
def z5s.cmp (a b:z5s):Int:=cmpR a.1 b.1
theorem z5v (v cv:Value)(w:World):Calls Tryz.prog 200 #[v,.int .i64 0,.int .i64 0,cv] w fun e w'=>e=.returned (.tuple #[])∧w=w':=by
 go_enter Tryz.func200,Tryz.ntmps200;go_wp2
 refine wp_loop_rounds 1 ?_;rw[rounds_succ];go_wp2
 go_end0
 exact⟨rfl,rfl⟩
theorem z5w (v cv:Value)(w:World):Calls Tryz.prog 146 #[v,.int .i64 0,cv] w fun e w'=>e=.returned (.tuple #[])∧w=w':=by
 have H:=hd_ (z5v v cv w);go_enter Tryz.func146,Tryz.ntmps146;go_wp2
 refine wp_loop_rounds 1 ?_;rw[rounds_succ];go_wp2_with fail;refine H.out.mono ?_;rintro e w' ⟨rfl,rfl⟩;go_wp2
 refine wp_loop_rounds 1 ?_;rw[rounds_succ];go_wp2
 go_end0
 exact⟨rfl,rfl⟩
theorem zcj {P:Program}{W:World}{ops:Array Oper}{o:Oper}{a:Act}{K:Act→World→Prop}{Q:Exit→Act→World→Prop}{E:Prop}(hgd:o.guard=none){s x:Operand}{t:TypeId}
  (ho:o.op=.call { callee:=.builtin .append,args:=#[s,x],argTypes:=#[t,t] })
  {e:TypeId} {size bytes base:Nat} (he:z0e P t e size bytes) {v:Value} {n:Nat} {xs:List Value} (hown:W.ownsRow base e size v n xs) (hs:a.eval s=v)
  {u:Value} {m:Nat} {news:List Value} (hr:Row W size u m news) (hx:a.eval x=u) (h1:∀ u∈news,u.oneCell'=true) (hbytes:(n+m) * bytes≤140737488355328) (h63:n+m≤maxLen) (hbase:base≤W.heap.size)
  (h:∀ A' c' w',w'.ownsRow base e size (.slice A' (n+m) c') (n+m) (xs++news)→W.grownBy w' v.ownBlock →
   ((Value.slice A' (n+m) c').ownBlock=v.ownBlock∨(Value.slice A' (n+m) c').ownBlock=some W.heap.size)→K (a.put o.dst (.slice A' (n+m) c')) w'):
  if Region.wanted o (yielded ops a.tmps)=true then Oper.wp P o a W K Q else E:=by
 have hw:Region.wanted o (yielded ops a.tmps)=true:=by simp [Region.wanted,hgd]
 rw[if_pos hw];obtain⟨A',c',w',hrun,h2,h3,h4⟩:=z0h (ty:=o.type) he hown hr h1 hbytes h63 hbase;unfold Oper.wp execOp;simp only[ho,resolve,invoke,builtin,Sem.run_bind,Sem.run_pure,Result.andThen_ok,List.map_toArray,List.map_cons,List.map_nil,hs,hx,hrun]
 exact h A' c' w' h2 h3 h4
theorem zck {a w:World}(h:Below a.heap.size a w)(o:Obj):Below a.heap.size a (w.alloc o):=h.alloc h.size o
theorem Blk.below' {w w':World}{g:Nat}{e:TypeId}{cs:List Value}(h:Blk w g e cs)(hb:Below w.heap.size w w'):Blk w' g e cs:=h.below hb h.lt
theorem Blk.drew' {w:World}{g:Nat}{e:TypeId}{cs:List Value}(h:Blk w g e cs):Blk w.drew g e cs:=h
theorem zcl {w:World}{B:Nat}{e:TypeId}{k:Nat}{v:Value}{n:Nat}{xs:List Value}(h:w.ownsRow B e k v n xs)(o:Obj):(w.alloc o).ownsRow B e k v n xs:=z0n h ((Below.refl _ _).alloc (Nat.le_refl _) _)
theorem zcm {w:World}{g:Nat}{cs:List Value}{e:TypeId}(hg:g=w.heap.size):Blk (w.alloc (.cells cs.toArray e)) g e cs:=by rw[hg];exact z0l w cs e
def zcn (n:Nat):Code→Option (Array Oper)
 | .region i ops _=>if i=n then some ops else none
 | .seq a b=>(zcn n a).or (zcn n b)
 | .cond _ a b=>(zcn n a).or (zcn n b)
 | .block _ a=>zcn n a
 | .loop a=>zcn n a
 | _=>none
def zi1 (n:Nat):Code→Bool
 | .region i _ _=>i == n
 | .seq a b=>zi1 n a || zi1 n b
 | .cond _ a b=>zi1 n a || zi1 n b
 | .block _ a=>zi1 n a
 | .loop a=>zi1 n a
 | _=>false
def zi2 (n:Nat):Code→Option Code
 | .seq a b=>if zi1 n a then some (.seq a b) else zi2 n b
 | c=>if zi1 n c then some c else none
