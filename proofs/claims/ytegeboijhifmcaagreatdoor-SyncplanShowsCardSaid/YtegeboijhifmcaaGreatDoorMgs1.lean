/- A part of the proof. -/
import Derived.Test.YtegeboijhifmcaaGreatDoorMgs0
import Derived.Sort.LotA
import Derived.Shelf.SlSortCmp.KitK
import Derived.Lib.QuietBelow
import Derived.Deep.DeepCutAuto
import Derived.Deep.RegionLaw
import Derived.IntWalk
set_option linter.unusedVariables false
set_option linter.unusedSimpArgs false
set_option maxHeartbeats 1000000
namespace Go.Proofs.YtegeboijhifmcaaGreatDoor
open Go.RowKit
theorem z0n {w w':World}{B:Nat}{e:TypeId}{k:Nat}{v:Value}{n:Nat}{xs:List Value}(h:w.ownsRow B e k v n xs)(hb:Below w.heap.size w w'):w'.ownsRow B e k v n xs:=by
 refine⟨h.1,?_⟩;rcases h.2 with⟨e1,e2⟩ | ⟨g,cap,cur,e1,h1,hg,rest⟩
 ·exact .inl ⟨e1,e2⟩
 ·exact .inr ⟨g,cap,cur,e1,h1,(hb.block g (Array.getElem?_eq_some_iff.1 hg).1).trans hg,rest⟩
theorem z0o {w:World}{B:Nat}{e:TypeId}{k:Nat}{v:Value}{n:Nat}{xs:List Value}(h:w.ownsRow B e k v n xs):∃ A c,v=.slice A n c:=by
 rcases h.2 with⟨e1,e2⟩ | ⟨g,cap,cur,e1,_⟩
 ·exact⟨none,0,by rw[e1,e2]⟩
 ·exact⟨_,cap,e1⟩
theorem z0p {B:Nat}{a w:World}(h:Below B a w)(n:Nat):Below B a (w.drewN n):=⟨h.os,h.tape,h.output,h.size,h.block⟩
theorem z0q {B:Nat}{a w w':World}(h:Below B a w)(hB:B≤w.heap.size)(h2:Below w.heap.size w w'):Below B a w':=h.trans (h2.mono hB)
theorem z0r {w w1 w2:World}(h1:Below w.heap.size w w1)(h2:Below w1.heap.size w1 w2):Below w.heap.size w w2:=h1.trans (h2.mono h1.size)
theorem box4 {w:World}{g:Nat}{e:TypeId}{a b c d:Value}(h:Blk w g e [a,b,c,d]):
  w.cell? ⟨g,0,none⟩=some a∧w.cell? ⟨g,1,none⟩=some b∧w.cell? ⟨g,2,none⟩=some c∧w.cell? ⟨g,3,none⟩=some d ∧
  w.frozen? ⟨g,0,none⟩=false∧w.frozen? ⟨g,1,none⟩=false∧w.frozen? ⟨g,2,none⟩=false∧w.frozen? ⟨g,3,none⟩=false:=
 ⟨h.cell 0,h.cell 1,h.cell 2,h.cell 3,h.frozen 0,h.frozen 1,h.frozen 2,h.frozen 3⟩
theorem z0s {w:World}{B:Nat}{e:TypeId}{k:Nat}{v:Value}{n:Nat}{xs:List Value}(h:w.ownsRow B e k v n xs)(hn:0<n):∃ g c,v=.slice (some ⟨g,0,none⟩) n c:=by
 rcases h.2 with⟨e1,e2⟩ | ⟨g,cap,cur,e1,_⟩
 ·omega
 ·exact⟨_,cap,e1⟩
open Go.Sort
section
variable {α : Type} [Inhabited α]
def z5g (d:Array α)(a m b x:Nat):α:=
 if a≤x∧x<a+(b - m) then d[x+(m - a)]! else if a+(b - m)≤x∧x<b then d[x - (b - m)]! else d[x]!
def z5h (d:Array α)(a b:Nat):Nat→Array α
 | 0=>d
 | n+1=>swp (z5h d a b n) (a+n) (b+n)
theorem z5i (d:Array α)(a b n:Nat):(z5h d a b n).size=d.size:=by
 induction n with
 | zero=>rfl
 | succ n ih=>rw[z5h,swp_size,ih]
theorem z5j (d:Array α)(a b:Nat):∀ n,a+n≤b→b+n≤d.size→∀ x,(z5h d a b n)[x]! = if a≤x∧x<a+n then d[x+(b - a)]! else if b≤x∧x<b+n then d[x - (b - a)]! else d[x]!:=by
 intro n;induction n with
 | zero=>intro h hb x;rw[z5h,if_neg (by omega),if_neg (by omega)]
 | succ n ih =>
  intro h hb x;have ih:=ih (by omega) (by omega)
  rw[z5h,swp_get _ (by rw[z5i];omega) (by rw[z5i];omega),ih,ih,ih]
  by_cases h1:x=b+n
  ·subst h1;rw[if_pos rfl,if_neg (by omega),if_neg (by omega),if_neg (by omega),if_pos (by omega)]
   congr 1;omega
  ·rw[if_neg h1];by_cases h2:x=a+n
   ·subst h2;rw[if_pos rfl,if_neg (by omega),if_neg (by omega),if_pos (by omega)]
    congr 1;omega
   ·rw[if_neg h2];by_cases h3:a≤x∧x<a+n
    ·rw[if_pos h3,if_pos (by omega)]
    ·rw[if_neg h3,if_neg (show ¬(a≤x∧x<a+(n+1)) by omega)]
     by_cases h4:b≤x∧x<b+n
     ·rw[if_pos h4,if_pos (by omega)]
     ·rw[if_neg h4,if_neg (by omega)]
theorem z5k (d:Array α)(a b lo hi:Nat):∀ n,lo≤a→lo≤b→a+n≤hi→b+n≤hi→hi≤d.size→PermIn lo hi d (z5h d a b n):=by
 intro n;induction n with
 | zero=>intros;exact permIn_refl _ _ _
 | succ n ih =>
  intro h1 h2 h3 h4 h5;exact permIn_trans _ _ _ _ _ (ih h1 h2 (by omega) (by omega) h5) (swp_permIn _ _ _ _ _ (by omega) (by omega) (by omega) (by omega) (by rw[z5i];exact h5))
def z5l (d:Array α)(a m b:Nat)(d':Array α)(i j:Nat):Prop:=
 0<i∧0<j∧i≤m - a∧j≤b - m∧PermIn a b d d'∧∀ x,z5g d' (m - i) m (m+j) x=z5g d a m b x
theorem z5l.start {d:Array α}{a m b:Nat}(h1:a<m)(h2:m<b):z5l d a m b d (m - a) (b - m):=
 ⟨by omega,by omega,by omega,by omega,permIn_refl _ _ _,fun x=>by rw[show m - (m - a)=a by omega,show m+(b - m)=b by omega]⟩
theorem z5l.left {d d':Array α}{a m b i j:Nat}(h:z5l d a m b d' i j)(ha:a<m)(hm:m<b)(hb:b≤d.size)(hij:j<i):z5l d a m b (z5h d' (m - i) m j) (i - j) j:=by
 obtain⟨h1,h2,h3,h4,h5,h6⟩:=h;have hs:=h5.1;refine⟨by omega,h2,by omega,h4,permIn_trans _ _ _ _ _ h5 (z5k _ _ _ _ _ _ (by omega) (by omega) (by omega) (by omega) (by omega)),fun x=>?_⟩
 rw[← h6 x];unfold z5g;have g:=z5j d' (m - i) m j (by omega) (by omega)
 rw[g,g,g];by_cases c1:x<m - i
 ·rw[if_neg (by omega),if_neg (by omega),if_neg (by omega),if_neg (by omega),if_neg (by omega),if_neg (by omega)]
 ·by_cases c2:x<m - i+j
  ·rw[if_neg (by omega),if_neg (by omega),if_pos (by omega),if_pos (by omega)]
   (try (congr 1;omega))
  ·by_cases c3:m+j≤x
   ·rw[if_neg (by omega),if_neg (by omega),if_neg (by omega),if_neg (by omega),if_neg (by omega),if_neg (by omega)]
   ·by_cases c4:x<m - (i - j)+j
    ·rw[if_pos (by omega),if_neg (by omega),if_pos (by omega),if_neg (by omega),if_pos (by omega)]
     congr 1;omega
    ·rw[if_neg (by omega),if_pos (by omega),if_neg (by omega),if_neg (by omega),if_neg (by omega),if_pos (by omega)]
     (try (congr 1;omega))
theorem z5l.right {d d':Array α}{a m b i j:Nat}(h:z5l d a m b d' i j)(ha:a<m)(hm:m<b)(hb:b≤d.size)(hij:i<j):z5l d a m b (z5h d' (m - i) (m+j - i) i) i (j - i):=by
 obtain⟨h1,h2,h3,h4,h5,h6⟩:=h;have hs:=h5.1;refine⟨h1,by omega,h3,by omega,permIn_trans _ _ _ _ _ h5 (z5k _ _ _ _ _ _ (by omega) (by omega) (by omega) (by omega) (by omega)),fun x=>?_⟩
 rw[← h6 x];unfold z5g;have g:=z5j d' (m - i) (m+j - i) i (by omega) (by omega)
 rw[g,g,g];by_cases c1:x<m - i
 ·rw[if_neg (by omega),if_neg (by omega),if_neg (by omega),if_neg (by omega),if_neg (by omega),if_neg (by omega)]
 ·by_cases c3:m+j≤x
  ·rw[if_neg (by omega),if_neg (by omega),if_neg (by omega),if_neg (by omega),if_neg (by omega),if_neg (by omega)]
  ·by_cases c2:m+j - i≤x
   ·rw[if_neg (by omega),if_neg (by omega),if_neg (by omega),if_pos (by omega),if_neg (by omega),if_pos (by omega)]
    congr 1;omega
   ·by_cases c4:x<m - i+(m+(j - i) - m)
    ·rw[if_pos (show m - i≤x∧x<m - i+(m+(j - i) - m) by omega),if_neg (by omega)]
     by_cases c5:x+(m - (m - i))<m+j - i
     ·rw[if_neg (by omega),if_pos (by omega)]
     ·omega
    ·rw[if_neg (show ¬(m - i≤x∧x<m - i+(m+(j - i) - m)) by omega),if_pos (show m - i+(m+(j - i) - m)≤x∧x<m+(j - i) by omega),if_pos (by omega),if_pos (by omega)]
     congr 1;omega
theorem z5l.fin {d d':Array α}{a m b i:Nat}(h:z5l d a m b d' i i)(ha:a<m)(hm:m<b)(hb:b≤d.size):
  PermIn a b d (z5h d' (m - i) m i)∧∀ x,(z5h d' (m - i) m i)[x]! = z5g d a m b x:=by
 obtain⟨h1,h2,h3,h4,h5,h6⟩:=h;have hs:=h5.1;refine⟨permIn_trans _ _ _ _ _ h5 (z5k _ _ _ _ _ _ (by omega) (by omega) (by omega) (by omega) (by omega)),fun x=>?_⟩
 rw[← h6 x,z5j d' (m - i) m i (by omega) (by omega)]
 unfold z5g;by_cases c1:m - i≤x∧x<m - i+i
 ·rw[if_pos c1,if_pos (by omega)]
 ·rw[if_neg c1,if_neg (show ¬(m - i≤x∧x<m - i+(m+i - m)) by omega)]
  by_cases c2:m≤x∧x<m+i
  ·rw[if_pos c2,if_pos (by omega)];congr 1;omega
  ·rw[if_neg c2,if_neg (by omega)]
variable {lt : α → α → Bool}
theorem SortedIn.sub {d:Array α}{a b a' b':Nat}(h:SortedIn lt a b d)(ha:a≤a')(hb:b'≤b):SortedIn lt a' b' d:=fun i j hi hij hj=>h i j (by omega) hij (by omega)
theorem SortedIn.same {d d':Array α}{a b:Nat}(h:SortedIn lt a b d)(he:∀ x,a≤x→x<b→d'[x]! = d[x]!):SortedIn lt a b d':=fun i j hi hij hj=>by
 rw[he i hi (by omega),he j (by omega) hj];exact h i j hi hij hj
omit [Inhabited α] in
theorem SWO.le (hO:SWO lt){x y z:α}(h1:lt y x=false)(h2:lt z y=false):lt z x=false:=hO.ntrans _ _ _ h2 h1
structure CutAt (lt:α→α→Bool)(d:Array α)(a m b mid s:Nat):Prop where
 lo:a≤s
 hi:s≤m
 le:s≤mid
 elo:m+s≤mid+m
 ehi:mid+m≤b+s
 below:a<s→mid+m<b+s→lt d[mid+m - s]! d[s - 1]! = false
 above:s<m→s<mid→lt d[mid+m - s - 1]! d[s]! = true
structure z5m (lt:α→α→Bool)(d:Array α)(n s0 r0 s r:Nat):Prop where
 lo:s0≤s
 mid:s≤r
 hi:r≤r0
 below:∀ c,s0≤c→c<s→lt d[n - 1 - c]! d[c]! = false
 above:∀ c,r≤c→c<r0→lt d[n - 1 - c]! d[c]! = true
theorem z5m.cut (hO:SWO lt){d:Array α}{a m b s0 r0 s:Nat}(ham:a<m)(hmb:m<b)(h0:((a+b) / 2<m∧s0=(a+b) / 2+m - b∧r0=(a+b) / 2)∨(m≤(a+b) / 2∧s0=a∧r0=m))
  (h:z5m lt d ((a+b) / 2+m) s0 r0 s s):CutAt lt d a m b ((a+b) / 2) s:=by
 obtain⟨h1,-,h2,h3,h4⟩:=h;refine⟨by omega,by omega,by omega,by omega,by omega,fun g1 g2=>?_,fun g1 g2=>?_⟩
 ·have:=h3 (s - 1) (by omega) (by omega)
  rw[show (a+b) / 2+m - 1 - (s - 1)=(a+b) / 2+m - s by omega] at this
  exact this
 ·have:=h4 s (Nat.le_refl _) (by omega)
  rw[show (a+b) / 2+m - 1 - s=(a+b) / 2+m - s - 1 by omega] at this
  exact this
theorem z5m.go (hO:SWO lt){d:Array α}{a m b n s0 r0 s r c:Nat}(h:z5m lt d n s0 r0 s r)(hs:s≤c)(hr:c<r)(ha:a≤s0)(hr0:r0≤m)(hn1:m+r0≤n)(hn2:n≤b+s0)(hL:SortedIn lt a m d)(hR:SortedIn lt m b d)
  (hc:lt d[n - 1 - c]! d[c]! = false):z5m lt d n s0 r0 (c+1) r:=by
 obtain⟨h1,h2,h3,h4,h5⟩:=h;refine⟨by omega,by omega,h3,fun x hx hx2=>?_,h5⟩
 by_cases e:x=c
 ·rw[e];exact hc
 ·have k1:lt d[c]! d[x]! = false:=hL _ _ (by omega) (by omega) (by omega)
  have k2:lt d[n - 1 - x]! d[n - 1 - c]! = false:=hR _ _ (by omega) (by omega) (by omega)
  exact SWO.le hO (SWO.le hO k1 hc) k2
theorem z5m.back (hO:SWO lt){d:Array α}{a m b n s0 r0 s r c:Nat}(h:z5m lt d n s0 r0 s r)(hs:s≤c)(hr:c<r)(ha:a≤s0)(hr0:r0≤m)(hn1:m+r0≤n)(hn2:n≤b+s0)(hL:SortedIn lt a m d)(hR:SortedIn lt m b d)
  (hc:lt d[n - 1 - c]! d[c]! = true):z5m lt d n s0 r0 s c:=by
 obtain⟨h1,h2,h3,h4,h5⟩:=h;refine⟨h1,hs,by omega,h4,fun x hx hx2=>?_⟩
 by_cases e:x=c
 ·rw[e];exact hc
 ·have k1:lt d[x]! d[c]! = false:=hL _ _ (by omega) (by omega) (by omega)
  have k2:lt d[n - 1 - c]! d[n - 1 - x]! = false:=hR _ _ (by omega) (by omega) (by omega)
  cases hh:lt d[n - 1 - x]! d[x]! with
  | true=>rfl
  | false =>
   have:=SWO.le hO (SWO.le hO k1 hh) k2;rw[hc] at this;cases this
def z5n (lt:α→α→Bool)(d:Array α)(n bs q:Nat):Prop:=∀ k,q≤k→SortedIn lt (k * bs) (min ((k+1) * bs) n) d
def z5o (lt:α→α→Bool)(d:Array α)(n bs q:Nat):Prop:=∀ k,k<q→SortedIn lt (k * bs) (min ((k+1) * bs) n) d
theorem z5o.zero (d:Array α)(n bs:Nat):z5o lt d n bs 0:=fun k hk=>by omega
theorem z5o.step {d d':Array α}{n bs q lo hi:Nat}(h:z5o lt d n bs q)(hlo:lo=q * bs)(hp:PermIn lo hi d d')(hs:SortedIn lt (q * bs) (min ((q+1) * bs) n) d'):z5o lt d' n bs (q+1):=by
 intro k hk;by_cases e:k=q
 ·subst e;exact hs
 ·refine SortedIn.same (h k (by omega)) fun x hx hx2=>hp.2.1 x (.inl ?_)
  have:(k+1) * bs≤q * bs:=Nat.mul_le_mul_right _ (by omega)
  omega
theorem z5n.step {d d':Array α}{n bs q lo hi:Nat}(h:z5n lt d n bs q)(hlo:hi=(q+2) * bs)(hp:PermIn lo hi d d'):z5n lt d' n bs (q+2):=by
 intro k hk;refine SortedIn.same (h k (by omega)) fun x hx hx2=>hp.2.1 x (.inr ?_)
 have:(q+2) * bs≤k * bs:=Nat.mul_le_mul_right _ hk;omega
theorem z5o.all {d:Array α}{n bs q:Nat}(h:z5o lt d n bs q)(hq:n≤q * bs):z5n lt d n bs 0:=by
 intro k _;by_cases hk:k<q
 ·exact h k hk
 ·intro i j hi hij hj;have:q * bs≤k * bs:=Nat.mul_le_mul_right _ (by omega)
  omega
theorem z5n.whole {d:Array α}{n bs:Nat}(h:z5n lt d n bs 0)(hn:n≤bs):SortedIn lt 0 n d:=by
 have:=h 0 (Nat.le_refl _);rw[Nat.zero_mul,Nat.zero_add,Nat.one_mul,Nat.min_eq_right hn] at this;exact this
end
open Go.RowKit Go.Lib
open Go.Sort hiding Below
section
variable {P : Program} {α : Type} [Inhabited α] {enc : α → List Value} {k : Nat} {e : TypeId} {w0 W W' : World} {blk off C : Nat} {d : Array α}
structure SB (enc:α→List Value)(k:Nat)(e:TypeId)(w0:World)(blk off C:Nat)(d:Array α)(W:World):Prop where
 hold:HoldsK enc k W blk off d
 own:∃ cur:Array Value,W.heap[blk]? = some (.cells cur e (0,0))∧cur.size=C
 gr:w0.grownBy W (some blk)
theorem SB.lt (h:SB enc k e w0 blk off C d W):blk<W.heap.size:=by
 obtain⟨cur,h1,-⟩:=h.own;exact (Array.getElem?_eq_some_iff.1 h1).1
theorem SB.below (h:SB enc k e w0 blk off C d W)(hb:Go.RowKit.Below W.heap.size W W'):SB enc k e w0 blk off C d W':=by
 have hl:=h.lt;refine⟨fun j hj=>?_,?_,?_⟩
 ·obtain⟨h1,h2⟩:=h.hold j hj;exact⟨(hb.cell (p:=⟨blk,off+j,none⟩) hl).trans h1,(hb.frozen (p:=⟨blk,off+j,none⟩) hl).trans h2⟩
 ·rw[hb.block blk hl];exact h.own
 ·exact⟨hb.os.trans h.gr.os,hb.tape.trans h.gr.tape,hb.output.trans h.gr.output,Nat.le_trans h.gr.size hb.size,fun j hj hne=>(hb.block j (Nat.lt_of_lt_of_le hj h.gr.size)).trans (h.gr.block j hj hne)⟩
theorem SB.drew (h:SB enc k e w0 blk off C d W):SB enc k e w0 blk off C d W.drew:=h.below (Below.refl _ _).drew
end
theorem zce {P:Program}{W:World}{ops:Array Oper}{o:Oper}{a:Act}{K:Act→World→Prop}{Q:Exit→Act→World→Prop}{E:Prop}(hgd:o.guard=none){s x:Operand}{t:TypeId}
  (ho:o.op=.call { callee:=.builtin .append,args:=#[s,x],argTypes:=#[t,t] })
  {e:TypeId} {size bytes base:Nat} (he:z0e P t e size bytes) {v:Value} {n:Nat} {xs:List Value} (hown:W.ownsRow base e size v n xs) (hs:a.eval s=v)
  {u:Value} {m:Nat} {news:List Value} (hr:Row W size u m news) (hx:a.eval x=u) (h1:∀ u∈news,u.oneCell'=true) (hbytes:(n+m) * bytes≤140737488355328) (h63:n+m≤maxLen) (hbase:base≤W.heap.size)
  (h:∀ A' c' w',w'.ownsRow base e size (.slice A' (n+m) c') (n+m) (xs++news)→W.grownBy w' v.ownBlock →
   ((Value.slice A' (n+m) c').ownBlock=v.ownBlock∨(Value.slice A' (n+m) c').ownBlock=some W.heap.size)→K (a.put o.dst (.slice A' (n+m) c')) w'):
  if Region.wanted o (yielded ops a.tmps)=true then Oper.wp P o a W K Q else E:=by
 have hw:Region.wanted o (yielded ops a.tmps)=true:=by simp [Region.wanted,hgd]
 rw[if_pos hw];obtain⟨A',c',w',hrun,h2,h3,h4⟩:=z0h (ty:=o.type) he hown hr h1 hbytes h63 hbase;unfold Oper.wp execOp;simp only[ho,resolve,invoke,builtin,Sem.run_bind,Sem.run_pure,Result.andThen_ok,List.map_toArray,List.map_cons,List.map_nil,hs,hx,hrun]
 exact h A' c' w' h2 h3 h4
theorem zcf {a w:World}(h:Below a.heap.size a w)(o:Obj):Below a.heap.size a (w.alloc o):=h.alloc h.size o
theorem Blk.below' {w w':World}{g:Nat}{e:TypeId}{cs:List Value}(h:Blk w g e cs)(hb:Below w.heap.size w w'):Blk w' g e cs:=h.below hb h.lt
theorem Blk.drew' {w:World}{g:Nat}{e:TypeId}{cs:List Value}(h:Blk w g e cs):Blk w.drew g e cs:=h
theorem zcg {w:World}{B:Nat}{e:TypeId}{k:Nat}{v:Value}{n:Nat}{xs:List Value}(h:w.ownsRow B e k v n xs)(o:Obj):(w.alloc o).ownsRow B e k v n xs:=z0n h ((Below.refl _ _).alloc (Nat.le_refl _) _)
theorem zch {w:World}{g:Nat}{cs:List Value}{e:TypeId}(hg:g=w.heap.size):Blk (w.alloc (.cells cs.toArray e)) g e cs:=by rw[hg];exact z0l w cs e
def zci (n:Nat):Code→Option (Array Oper)
 | .region i ops _=>if i=n then some ops else none
 | .seq a b=>(zci n a).or (zci n b)
 | .cond _ a b=>(zci n a).or (zci n b)
 | .block _ a=>zci n a
 | .loop a=>zci n a
 | _=>none
def Under (n k:Int):Prop:=0≤k∧(1<n→k<n)∧(n≤1→k=0)
theorem zgd (x n:Int)(h:1<n):-n<x.tmod n∧x.tmod n<n:=by
 have h1:=Int.tmod_lt_of_pos x (b:=n) (by omega)
 have h2:=Int.lt_tmod_of_pos x (b:=n) (by omega)
 exact⟨by omega,h1⟩
theorem zge (v n:Int)(w:World)(hn:n≤1000000000):Calls Tryz.prog 48 #[.int .i64 v,.int .i64 n] w fun e w'=>∃ k,e=.returned (.int .i64 k)∧Under n k∧w=w':=by
 by_cases h1:n≤1
 ·have q:decide (n≤1)=true:=decide_eq_true h1;go_enter Tryz.func48,Tryz.ntmps48;go_wp2_with fail;go_ret;exact⟨0,rfl,⟨by omega,fun h=>by omega,fun _=>rfl⟩,rfl⟩
 ·have q:decide (n≤1)=false:=decide_eq_false h1;have q0:(n == 0)=false:=by rw[beq_eq_false_iff_ne];omega
  have q1:(n == -1)=false:=by rw[beq_eq_false_iff_ne];omega
  obtain⟨a1,a2⟩:=zgd v n (by omega)
  obtain⟨r,hr⟩:∃ r,v.tmod n=r:=⟨_,rfl⟩;rw[hr] at a1 a2;have hw:IntKind.i64.wrap r=r:=by rw[IntKind.wrap_i64];omega
  by_cases h2:r<0
  ·have q2:decide (r<0)=true:=decide_eq_true h2;have hw2:IntKind.i64.wrap (r+n)=r+n:=by rw[IntKind.wrap_i64];omega
   go_enter Tryz.func48,Tryz.ntmps48;go_wp2_with fail;go_ret;exact⟨_,rfl,⟨by omega,fun _=>by omega,fun h=>by omega⟩,rfl⟩
  ·have q2:decide (r<0)=false:=decide_eq_false h2;go_enter Tryz.func48,Tryz.ntmps48;go_wp2_with fail;go_ret;exact⟨_,rfl,⟨by omega,fun _=>by omega,fun h=>by omega⟩,rfl⟩
end Go.Proofs.YtegeboijhifmcaaGreatDoor
