/- A part of the proof. -/
import Derived.Test.YtegeboijhifmcaaGreatDoorMgw2
import Derived.Test.YtegeboijhifmcaaGreatDoorShelf
import Derived.Sort.LotA
set_option linter.unusedVariables false
set_option linter.unusedSimpArgs false
set_option maxHeartbeats 1000000
namespace Go.Proofs.YtegeboijhifmcaaGreatDoor
open Go.Proofs.Tryz
open Go.Sort
section
variable {α : Type} [Inhabited α]
def z5g (d:Array α)(a m b x:Nat):α:=
 if a≤x∧x<a+(b - m) then d[x+(m - a)]! else if a+(b - m)≤x∧x<b then d[x - (b - m)]! else d[x]!
def z5h (d:Array α)(a b:Nat):Nat→Array α
 | 0=>d
 | n+1=>swp (z5h d a b n) (a+n) (b+n)
theorem z5i (d:Array α)(a b n:Nat):(z5h d a b n).size=d.size:=by
 induction n with
 | zero=>rfl
 | succ n ih=>rw[z5h,swp_size,ih]
theorem z5j (d:Array α)(a b:Nat):∀ n,a+n≤b→b+n≤d.size→∀ x,(z5h d a b n)[x]! = if a≤x∧x<a+n then d[x+(b - a)]! else if b≤x∧x<b+n then d[x - (b - a)]! else d[x]!:=by
 intro n;induction n with
 | zero=>intro h hb x;rw[z5h,if_neg (by omega),if_neg (by omega)]
 | succ n ih =>
  intro h hb x;have ih:=ih (by omega) (by omega)
  rw[z5h,swp_get _ (by rw[z5i];omega) (by rw[z5i];omega),ih,ih,ih]
  by_cases h1:x=b+n
  ·subst h1;rw[if_pos rfl,if_neg (by omega),if_neg (by omega),if_neg (by omega),if_pos (by omega)]
   congr 1;omega
  ·rw[if_neg h1];by_cases h2:x=a+n
   ·subst h2;rw[if_pos rfl,if_neg (by omega),if_neg (by omega),if_pos (by omega)]
    congr 1;omega
   ·rw[if_neg h2];by_cases h3:a≤x∧x<a+n
    ·rw[if_pos h3,if_pos (by omega)]
    ·rw[if_neg h3,if_neg (show ¬(a≤x∧x<a+(n+1)) by omega)]
     by_cases h4:b≤x∧x<b+n
     ·rw[if_pos h4,if_pos (by omega)]
     ·rw[if_neg h4,if_neg (by omega)]
theorem z5k (d:Array α)(a b lo hi:Nat):∀ n,lo≤a→lo≤b→a+n≤hi→b+n≤hi→hi≤d.size→PermIn lo hi d (z5h d a b n):=by
 intro n;induction n with
 | zero=>intros;exact permIn_refl _ _ _
 | succ n ih =>
  intro h1 h2 h3 h4 h5;exact permIn_trans _ _ _ _ _ (ih h1 h2 (by omega) (by omega) h5) (swp_permIn _ _ _ _ _ (by omega) (by omega) (by omega) (by omega) (by rw[z5i];exact h5))
def z5l (d:Array α)(a m b:Nat)(d':Array α)(i j:Nat):Prop:=
 0<i∧0<j∧i≤m - a∧j≤b - m∧PermIn a b d d'∧∀ x,z5g d' (m - i) m (m+j) x=z5g d a m b x
theorem z5l.start {d:Array α}{a m b:Nat}(h1:a<m)(h2:m<b):z5l d a m b d (m - a) (b - m):=
 ⟨by omega,by omega,by omega,by omega,permIn_refl _ _ _,fun x=>by rw[show m - (m - a)=a by omega,show m+(b - m)=b by omega]⟩
theorem z5l.left {d d':Array α}{a m b i j:Nat}(h:z5l d a m b d' i j)(ha:a<m)(hm:m<b)(hb:b≤d.size)(hij:j<i):z5l d a m b (z5h d' (m - i) m j) (i - j) j:=by
 obtain⟨h1,h2,h3,h4,h5,h6⟩:=h;have hs:=h5.1;refine⟨by omega,h2,by omega,h4,permIn_trans _ _ _ _ _ h5 (z5k _ _ _ _ _ _ (by omega) (by omega) (by omega) (by omega) (by omega)),fun x=>?_⟩
 rw[← h6 x];unfold z5g;have g:=z5j d' (m - i) m j (by omega) (by omega)
 rw[g,g,g];by_cases c1:x<m - i
 ·rw[if_neg (by omega),if_neg (by omega),if_neg (by omega),if_neg (by omega),if_neg (by omega),if_neg (by omega)]
 ·by_cases c2:x<m - i+j
  ·rw[if_neg (by omega),if_neg (by omega),if_pos (by omega),if_pos (by omega)]
   (try (congr 1;omega))
  ·by_cases c3:m+j≤x
   ·rw[if_neg (by omega),if_neg (by omega),if_neg (by omega),if_neg (by omega),if_neg (by omega),if_neg (by omega)]
   ·by_cases c4:x<m - (i - j)+j
    ·rw[if_pos (by omega),if_neg (by omega),if_pos (by omega),if_neg (by omega),if_pos (by omega)]
     congr 1;omega
    ·rw[if_neg (by omega),if_pos (by omega),if_neg (by omega),if_neg (by omega),if_neg (by omega),if_pos (by omega)]
     (try (congr 1;omega))
theorem z5l.right {d d':Array α}{a m b i j:Nat}(h:z5l d a m b d' i j)(ha:a<m)(hm:m<b)(hb:b≤d.size)(hij:i<j):z5l d a m b (z5h d' (m - i) (m+j - i) i) i (j - i):=by
 obtain⟨h1,h2,h3,h4,h5,h6⟩:=h;have hs:=h5.1;refine⟨h1,by omega,h3,by omega,permIn_trans _ _ _ _ _ h5 (z5k _ _ _ _ _ _ (by omega) (by omega) (by omega) (by omega) (by omega)),fun x=>?_⟩
 rw[← h6 x];unfold z5g;have g:=z5j d' (m - i) (m+j - i) i (by omega) (by omega)
 rw[g,g,g];by_cases c1:x<m - i
 ·rw[if_neg (by omega),if_neg (by omega),if_neg (by omega),if_neg (by omega),if_neg (by omega),if_neg (by omega)]
 ·by_cases c3:m+j≤x
  ·rw[if_neg (by omega),if_neg (by omega),if_neg (by omega),if_neg (by omega),if_neg (by omega),if_neg (by omega)]
  ·by_cases c2:m+j - i≤x
   ·rw[if_neg (by omega),if_neg (by omega),if_neg (by omega),if_pos (by omega),if_neg (by omega),if_pos (by omega)]
    congr 1;omega
   ·by_cases c4:x<m - i+(m+(j - i) - m)
    ·rw[if_pos (show m - i≤x∧x<m - i+(m+(j - i) - m) by omega),if_neg (by omega)]
     by_cases c5:x+(m - (m - i))<m+j - i
     ·rw[if_neg (by omega),if_pos (by omega)]
     ·omega
    ·rw[if_neg (show ¬(m - i≤x∧x<m - i+(m+(j - i) - m)) by omega),if_pos (show m - i+(m+(j - i) - m)≤x∧x<m+(j - i) by omega),if_pos (by omega),if_pos (by omega)]
     congr 1;omega
theorem z5l.fin {d d':Array α}{a m b i:Nat}(h:z5l d a m b d' i i)(ha:a<m)(hm:m<b)(hb:b≤d.size):
  PermIn a b d (z5h d' (m - i) m i)∧∀ x,(z5h d' (m - i) m i)[x]! = z5g d a m b x:=by
 obtain⟨h1,h2,h3,h4,h5,h6⟩:=h;have hs:=h5.1;refine⟨permIn_trans _ _ _ _ _ h5 (z5k _ _ _ _ _ _ (by omega) (by omega) (by omega) (by omega) (by omega)),fun x=>?_⟩
 rw[← h6 x,z5j d' (m - i) m i (by omega) (by omega)]
 unfold z5g;by_cases c1:m - i≤x∧x<m - i+i
 ·rw[if_pos c1,if_pos (by omega)]
 ·rw[if_neg c1,if_neg (show ¬(m - i≤x∧x<m - i+(m+i - m)) by omega)]
  by_cases c2:m≤x∧x<m+i
  ·rw[if_pos c2,if_pos (by omega)];congr 1;omega
  ·rw[if_neg c2,if_neg (by omega)]
variable {lt : α → α → Bool}
theorem SortedIn.sub {d:Array α}{a b a' b':Nat}(h:SortedIn lt a b d)(ha:a≤a')(hb:b'≤b):SortedIn lt a' b' d:=fun i j hi hij hj=>h i j (by omega) hij (by omega)
theorem SortedIn.same {d d':Array α}{a b:Nat}(h:SortedIn lt a b d)(he:∀ x,a≤x→x<b→d'[x]! = d[x]!):SortedIn lt a b d':=fun i j hi hij hj=>by
 rw[he i hi (by omega),he j (by omega) hj];exact h i j hi hij hj
omit [Inhabited α] in
theorem SWO.le (hO:SWO lt){x y z:α}(h1:lt y x=false)(h2:lt z y=false):lt z x=false:=hO.ntrans _ _ _ h2 h1
structure CutAt (lt:α→α→Bool)(d:Array α)(a m b mid s:Nat):Prop where
 lo:a≤s
 hi:s≤m
 le:s≤mid
 elo:m+s≤mid+m
 ehi:mid+m≤b+s
 below:a<s→mid+m<b+s→lt d[mid+m - s]! d[s - 1]! = false
 above:s<m→s<mid→lt d[mid+m - s - 1]! d[s]! = true
structure z5m (lt:α→α→Bool)(d:Array α)(n s0 r0 s r:Nat):Prop where
 lo:s0≤s
 mid:s≤r
 hi:r≤r0
 below:∀ c,s0≤c→c<s→lt d[n - 1 - c]! d[c]! = false
 above:∀ c,r≤c→c<r0→lt d[n - 1 - c]! d[c]! = true
theorem z5m.cut (hO:SWO lt){d:Array α}{a m b s0 r0 s:Nat}(ham:a<m)(hmb:m<b)(h0:((a+b) / 2<m∧s0=(a+b) / 2+m - b∧r0=(a+b) / 2)∨(m≤(a+b) / 2∧s0=a∧r0=m))
  (h:z5m lt d ((a+b) / 2+m) s0 r0 s s):CutAt lt d a m b ((a+b) / 2) s:=by
 obtain⟨h1,-,h2,h3,h4⟩:=h;refine⟨by omega,by omega,by omega,by omega,by omega,fun g1 g2=>?_,fun g1 g2=>?_⟩
 ·have:=h3 (s - 1) (by omega) (by omega)
  rw[show (a+b) / 2+m - 1 - (s - 1)=(a+b) / 2+m - s by omega] at this
  exact this
 ·have:=h4 s (Nat.le_refl _) (by omega)
  rw[show (a+b) / 2+m - 1 - s=(a+b) / 2+m - s - 1 by omega] at this
  exact this
theorem z5m.go (hO:SWO lt){d:Array α}{a m b n s0 r0 s r c:Nat}(h:z5m lt d n s0 r0 s r)(hs:s≤c)(hr:c<r)(ha:a≤s0)(hr0:r0≤m)(hn1:m+r0≤n)(hn2:n≤b+s0)(hL:SortedIn lt a m d)(hR:SortedIn lt m b d)
  (hc:lt d[n - 1 - c]! d[c]! = false):z5m lt d n s0 r0 (c+1) r:=by
 obtain⟨h1,h2,h3,h4,h5⟩:=h;refine⟨by omega,by omega,h3,fun x hx hx2=>?_,h5⟩
 by_cases e:x=c
 ·rw[e];exact hc
 ·have k1:lt d[c]! d[x]! = false:=hL _ _ (by omega) (by omega) (by omega)
  have k2:lt d[n - 1 - x]! d[n - 1 - c]! = false:=hR _ _ (by omega) (by omega) (by omega)
  exact SWO.le hO (SWO.le hO k1 hc) k2
theorem z5m.back (hO:SWO lt){d:Array α}{a m b n s0 r0 s r c:Nat}(h:z5m lt d n s0 r0 s r)(hs:s≤c)(hr:c<r)(ha:a≤s0)(hr0:r0≤m)(hn1:m+r0≤n)(hn2:n≤b+s0)(hL:SortedIn lt a m d)(hR:SortedIn lt m b d)
  (hc:lt d[n - 1 - c]! d[c]! = true):z5m lt d n s0 r0 s c:=by
 obtain⟨h1,h2,h3,h4,h5⟩:=h;refine⟨h1,hs,by omega,h4,fun x hx hx2=>?_⟩
 by_cases e:x=c
 ·rw[e];exact hc
 ·have k1:lt d[x]! d[c]! = false:=hL _ _ (by omega) (by omega) (by omega)
  have k2:lt d[n - 1 - c]! d[n - 1 - x]! = false:=hR _ _ (by omega) (by omega) (by omega)
  cases hh:lt d[n - 1 - x]! d[x]! with
  | true=>rfl
  | false =>
   have:=SWO.le hO (SWO.le hO k1 hh) k2;rw[hc] at this;cases this
def z5n (lt:α→α→Bool)(d:Array α)(n bs q:Nat):Prop:=∀ k,q≤k→SortedIn lt (k * bs) (min ((k+1) * bs) n) d
def z5o (lt:α→α→Bool)(d:Array α)(n bs q:Nat):Prop:=∀ k,k<q→SortedIn lt (k * bs) (min ((k+1) * bs) n) d
theorem z5o.zero (d:Array α)(n bs:Nat):z5o lt d n bs 0:=fun k hk=>by omega
theorem z5o.step {d d':Array α}{n bs q lo hi:Nat}(h:z5o lt d n bs q)(hlo:lo=q * bs)(hp:PermIn lo hi d d')(hs:SortedIn lt (q * bs) (min ((q+1) * bs) n) d'):z5o lt d' n bs (q+1):=by
 intro k hk;by_cases e:k=q
 ·subst e;exact hs
 ·refine SortedIn.same (h k (by omega)) fun x hx hx2=>hp.2.1 x (.inl ?_)
  have:(k+1) * bs≤q * bs:=Nat.mul_le_mul_right _ (by omega)
  omega
theorem z5n.step {d d':Array α}{n bs q lo hi:Nat}(h:z5n lt d n bs q)(hlo:hi=(q+2) * bs)(hp:PermIn lo hi d d'):z5n lt d' n bs (q+2):=by
 intro k hk;refine SortedIn.same (h k (by omega)) fun x hx hx2=>hp.2.1 x (.inr ?_)
 have:(q+2) * bs≤k * bs:=Nat.mul_le_mul_right _ hk;omega
theorem z5o.all {d:Array α}{n bs q:Nat}(h:z5o lt d n bs q)(hq:n≤q * bs):z5n lt d n bs 0:=by
 intro k _;by_cases hk:k<q
 ·exact h k hk
 ·intro i j hi hij hj;have:q * bs≤k * bs:=Nat.mul_le_mul_right _ (by omega)
  omega
theorem z5n.whole {d:Array α}{n bs:Nat}(h:z5n lt d n bs 0)(hn:n≤bs):SortedIn lt 0 n d:=by
 have:=h 0 (Nat.le_refl _);rw[Nat.zero_mul,Nat.zero_add,Nat.one_mul,Nat.min_eq_right hn] at this;exact this
end
open Go.RowKit
def Env (w:World):Prop:=∃ m:Int,w.cell? ⟨0,0,none⟩=some (.int .i64 m)
theorem Env.below {w w':World}(h:Env w)(hb:Below w.heap.size w w'):Env w':=by
 obtain⟨m,hm⟩:=h;exact⟨m,(hb.cell (p:=⟨0,0,none⟩) (z03 hm)).trans hm⟩
theorem Env.alloc {w:World}(h:Env w)(o:Obj):Env (w.alloc o):=h.below ((Below.refl _ _).alloc (Nat.le_refl _) _)
def baL (p:List UInt8):ByteArray:=⟨p.toArray⟩
def z6v (ps:List (List UInt8)):List Value:=ps.map fun p=>.string (baL p)
theorem z6w (p:List UInt8):(baL p).data.toList=p:=rfl
theorem z6x (p:List UInt8):(baL p).size=p.length:=by simp [baL,ByteArray.size]
theorem z6y (s p body:ByteArray)(w:World)(h:Lib.hasPrefix s.data.toList p.data.toList=true)(hb:body.data.toList=s.data.toList.drop p.data.toList.length):
  Calls prog 233 #[.string s,.string p] w fun e w'=>e=.returned (.tuple #[.string body,.bool true])∧w=w':=by
 refine (Tryz.strings_CutPrefix s p w).mono ?_;rintro e w' ⟨rfl,rfl⟩;rw[h];have:(⟨(Lib.trimPrefix s.data.toList p.data.toList).toArray⟩:ByteArray)=body:=z1m (by rw[hb];unfold Lib.trimPrefix;rw[h];rfl)
 rw[this];exact⟨rfl,rfl⟩
theorem cutP_no (s p:ByteArray)(w:World)(h:Lib.hasPrefix s.data.toList p.data.toList=false):
  Calls prog 233 #[.string s,.string p] w fun e w'=>e=.returned (.tuple #[.string s,.bool false])∧w=w':=by
 refine (Tryz.strings_CutPrefix s p w).mono ?_;rintro e w' ⟨rfl,rfl⟩;rw[h];have:(⟨(Lib.trimPrefix s.data.toList p.data.toList).toArray⟩:ByteArray)=s:=z1m (by unfold Lib.trimPrefix;rw[h];rfl)
 rw[this];exact⟨rfl,rfl⟩
theorem z6z (s:ByteArray)(w:World)(he:Env w)(hs:s.size<4294967281):
  Calls prog 173 #[.string s,.string ⟨#[47]⟩] w fun e w' =>
   e=.returned (.slice (some ⟨w.heap.size,0,none⟩) (z1a s.data.toList).length (z1a s.data.toList).length)∧w.alloc (.cells (z6v (z1a s.data.toList)).toArray 9)=w':=by
 obtain⟨m,hm⟩:=he;refine (Tryz.strings_Split s ⟨#[47]⟩ m w hs hm (by decide)).mono ?_
 rintro e w' ⟨rfl,rfl⟩;rw[z1o,z1n];exact⟨rfl,by unfold z6v;rw[List.map_map];rfl⟩
theorem Blk.strs {w:World}{g:Nat}{ps:List (List UInt8)}(h:Blk w g 9 (z6v ps))(k:Nat)(hk:k<ps.length):w.cell? ⟨g,k,none⟩=some (.string (baL ps[k])):=by
 rw[h.cell];simp [z6v,hk]
theorem z71 (s:ByteArray)(least:Nat)(ps:List (List UInt8))(w:World)(he:Env w)(hs:s.size≤2000000)(hl:least≤2)(h:z2q s.data.toList least=some ps):
  Calls prog 200 #[.string s,.int .i64 least] w fun e w'=>e=.returned (.tuple #[.slice (some ⟨w.heap.size,0,none⟩) ps.length ps.length,.bool true])∧w.alloc (.cells (z6v ps).toArray 9)=w':=by
 unfold z2q at h;split at h
 ·rename_i hc
  obtain⟨h1,h2,h3⟩:=hc;injection h with h
  have hbl:(baL (s.data.toList.drop 2)).size≤2000000:=by rw[z6x,List.length_drop];have:s.data.toList.length=s.size:=rfl;omega
  have hmem:∀ p∈ps,z0u p=true∧p.length≤2000000:=fun p hp=>by
   rw[← h] at hp;exact⟨List.all_eq_true.1 h3 p hp,by have:=(z1e hp).2;rw[z6x] at hbl;omega⟩
  have HS:=hd_ (z6z (baL (s.data.toList.drop 2)) w he (by omega))
  have HP:=hd_ (z6y s ⟨#[47,47]⟩ (baL (s.data.toList.drop 2)) w h1 rfl);rw[z6w,h] at HS;rw[h] at h2;have hlen:ps.length≤2000001:=by rw[← h];have:=z1g (s.data.toList.drop 2);rw[z6x] at hbl;omega
  have HM:=hd_ hmem;have hd2:decide (ps.length<least)=false:=by simp;omega
  have hd3:decide ((ps.length:Int)<(least:Int))=false:=by simp;omega
  have HB:=hd_ (z0l w (z6v ps) 9);clear h h1 h3 hmem;generalize w.alloc (.cells (z6v ps).toArray 9)=W at HS HB ⊢;go_enter func200,ntmps200;go_wp2_with fail;refine HP.out.mono ?_;rintro e w' ⟨rfl,rfl⟩;go_wp2_with fail;refine HS.out.mono ?_;rintro e w' ⟨rfl,rfl⟩;go_wp2
  go_loop [26] (fun i=>∃ k:Nat,k≤ps.length∧i=.int .i64 k) (fun i=>ps.length - (intOf i).toNat)
  case atStart=>exact⟨0,Nat.zero_le _,rfl⟩
  case round =>
   obtain⟨k,hk,rfl⟩:=hrel;by_cases hlt:k<ps.length
   ·have hcell:=HB.out.strs k hlt;obtain⟨hc1,hc2⟩:=HM.out ps[k] (by simp)
    have hcs:z0v (baL ps[k])=true:=hc1;go_wp2_with (go_at_call 103;refine (z19 _ _ (by rw[z6x];unfold maxLen;omega)).mono ?_;rintro e w' ⟨rfl,rfl⟩)
    go_round
    case rel=>exact⟨k+1,by omega,by go_num⟩
    case measure=>simp [intOf];omega
   ·go_wp2
    go_ret2;exact⟨rfl,rfl⟩
 ·cases h
theorem z73 {α:Type}(ps:List α)(f:α→Bool)(k:Nat)(hk:k<ps.length)(h:(ps.take k).all f=true)(hf:f ps[k]=true):(ps.take (k+1)).all f=true:=by
 rw[List.take_succ_eq_append_getElem hk,List.all_append,h];simp [hf]
theorem z74 (s:ByteArray)(least:Nat)(w:World)(he:Env w)(hs:s.size≤2000000)(h:z2q s.data.toList least=none):
  Calls prog 200 #[.string s,.int .i64 least] w fun e w'=>e=.returned (.tuple #[.slice none 0 0,.bool false])∧Below w.heap.size w w':=by
 cases h1:Lib.hasPrefix s.data.toList [47,47]
 ·have HP:=hd_ (cutP_no s ⟨#[47,47]⟩ w h1);clear h h1;go_enter func200,ntmps200;go_wp2_with fail;refine HP.out.mono ?_;rintro e w' ⟨rfl,rfl⟩;go_wp2
  go_ret2;exact⟨rfl,Below.refl _ _⟩
 ·have hbl:(baL (s.data.toList.drop 2)).size≤2000000:=by rw[z6x,List.length_drop];have:s.data.toList.length=s.size:=rfl;omega
  have HS:=hd_ (z6z (baL (s.data.toList.drop 2)) w he (by omega))
  have HP:=hd_ (z6y s ⟨#[47,47]⟩ (baL (s.data.toList.drop 2)) w h1 rfl);rw[z6w] at HS;have hmem:∀ p∈z1a (s.data.toList.drop 2),p.length≤2000000:=fun p hp=>by
   have:=(z1e hp).2;rw[z6x] at hbl;omega
  have hlen:(z1a (s.data.toList.drop 2)).length≤2000001:=by have:=z1g (s.data.toList.drop 2);rw[z6x] at hbl;omega
  have hno:¬(least≤(z1a (s.data.toList.drop 2)).length∧(z1a (s.data.toList.drop 2)).all z0u=true):=fun hc=>by
   unfold z2q at h;rw[if_pos ⟨h1,hc⟩] at h;cases h
  clear h h1;generalize z1a (s.data.toList.drop 2)=ps at HS hmem hlen hno;have HB:=hd_ (z0l w (z6v ps) 9);have HM:=hd_ hmem;have hbw:Below w.heap.size w (w.alloc (.cells (z6v ps).toArray 9)):=(Below.refl _ _).alloc (Nat.le_refl _) _;clear hmem;by_cases h2:least≤ps.length
  ·have hd2:decide (ps.length<least)=false:=by simp;omega
   have hd3:decide ((ps.length:Int)<(least:Int))=false:=by simp;omega
   have hno':ps.all z0u=false:=by cases hh:ps.all z0u;rfl;exact absurd ⟨h2,hh⟩ hno
   have HN:=hd_ hno';clear hno hno';generalize w.alloc (.cells (z6v ps).toArray 9)=W at HS HB hbw;go_enter func200,ntmps200;go_wp2_with fail;refine HP.out.mono ?_;rintro e w' ⟨rfl,rfl⟩;go_wp2_with fail;refine HS.out.mono ?_;rintro e w' ⟨rfl,rfl⟩;go_wp2
   go_loop [26] (fun i=>∃ k:Nat,k≤ps.length∧i=.int .i64 k∧(ps.take k).all z0u=true) (fun i=>ps.length - (intOf i).toNat)
   case atStart=>exact⟨0,Nat.zero_le _,rfl,rfl⟩
   case round =>
    obtain⟨k,hk,rfl,hall⟩:=hrel;have HA:=hd_ hall;clear hall;by_cases hlt:k<ps.length
    ·have hcell:=HB.out.strs k hlt;have hc2:=HM.out ps[k] (by simp)
     cases hc1:z0u ps[k]
     ·have hcs:z0v (baL ps[k])=false:=hc1;clear hc1;go_wp2_with (go_at_call 103;refine (z19 _ _ (by rw[z6x];unfold maxLen;omega)).mono ?_;rintro e w' ⟨rfl,rfl⟩)
      go_ret2;exact⟨rfl,hbw⟩
     ·have hcs:z0v (baL ps[k])=true:=hc1;have HC:=hd_ hc1;clear hc1;go_wp2_with (go_at_call 103;refine (z19 _ _ (by rw[z6x];unfold maxLen;omega)).mono ?_;rintro e w' ⟨rfl,rfl⟩)
      go_round
      case rel=>exact⟨k+1,by omega,by go_num,z73 ps z0u k hlt HA.out HC.out⟩
      case measure=>simp [intOf];omega
    ·have:=HA.out;rw[List.take_of_length_le (by omega),HN.out] at this
     cases this
  ·have hd2:decide (ps.length<least)=true:=by simp;omega
   have hd3:decide ((ps.length:Int)<(least:Int))=true:=by simp;omega
   clear hno;generalize w.alloc (.cells (z6v ps).toArray 9)=W at HS HB hbw;go_enter func200,ntmps200;go_wp2_with fail;refine HP.out.mono ?_;rintro e w' ⟨rfl,rfl⟩;go_wp2_with fail;refine HS.out.mono ?_;rintro e w' ⟨rfl,rfl⟩;go_wp2
   go_ret2;exact⟨rfl,hbw⟩
theorem z77 (s:ByteArray)(ps:List (List UInt8))(w:World)(he:Env w)(hs:s.size≤2000000)(h:z2q s.data.toList 2=some ps):
  Calls prog 160 #[.string s] w fun e w'=>e=.returned (.tuple #[.slice (some ⟨w.heap.size,0,none⟩) ps.length ps.length,.int .i64 0])∧w.alloc (.cells (z6v ps).toArray 9)=w':=by
 have H:=hd_ (z71 s 2 ps w he hs (by omega) h)
 generalize w.alloc (.cells (z6v ps).toArray 9)=W at H ⊢;clear h he;go_enter func160,ntmps160;go_wp2_with fail;refine H.out.mono ?_;rintro e w' ⟨rfl,rfl⟩;go_wp2
 go_ret2;exact⟨rfl,rfl⟩
theorem z78 (s:ByteArray)(w:World)(he:Env w)(hs:s.size≤2000000)(h:z2q s.data.toList 2=none):
  Calls prog 160 #[.string s] w fun e w'=>e=.returned (.tuple #[.slice none 0 0,.int .i64 20])∧Below w.heap.size w w':=by
 have H:=hd_ (z74 s 2 w he hs h);clear h he;go_enter func160,ntmps160;go_wp2_with fail;refine H.out.mono ?_;rintro e w' ⟨rfl,hb⟩;go_wp2
 go_ret2;exact⟨rfl,hb⟩
def z8j (ps:List (List UInt8)):List UInt8:=[47,47]++Lib.join ps [47]
def z8k (w:World)(bk o:Nat)(ps:List (List UInt8)):Prop:=∀ k (hk:k<ps.length),w.cell? ⟨bk,o+k,none⟩=some (.string (baL ps[k]))
theorem z8k.lt {w:World}{bk o:Nat}{ps:List (List UInt8)}(h:z8k w bk o ps)(h0:0<ps.length):bk<w.heap.size:=z03 (h 0 h0)
theorem z8k.below {w w':World}{bk o:Nat}{ps:List (List UInt8)}(h:z8k w bk o ps)(hb:Below w.heap.size w w'):z8k w' bk o ps:=fun k hk=>z04 (h k hk) hb (z03 (h k hk))
theorem z8k.of_blk {w:World}{g:Nat}{ps:List (List UInt8)}(h:Blk w g 9 (z6v ps)):z8k w g 0 ps:=fun k hk=>by rw[Nat.zero_add];exact h.strs k hk
theorem z8l (ps:List (List UInt8))(j:Nat)(x:ByteArray)(h:(ps.map baL)[j]? = some x):∃ hk:j<ps.length,x=baL ps[j]:=by
 rw[List.getElem?_map] at h;rcases hj:ps[j]? with _ | p
 ·rw[hj] at h;cases h
 ·rw[hj] at h;obtain⟨hk,e⟩:=List.getElem?_eq_some_iff.1 hj;exact⟨hk,by rw[e];simpa using h.symm⟩
theorem z8m (ps:List (List UInt8)):(ps.map baL).map (·.data.toList)=ps:=by
 rw[List.map_map];conv=>rhs;rw[← List.map_id ps]
 exact List.map_congr_left fun p _=>z6w p
theorem z8n (ps:List (List UInt8))(bk o c:Nat)(w:World)(hc:z8k w bk o ps)(h0:0<ps.length)(hcap:ps.length≤c)(hn:ps.length≤2000000)(hlen:(Lib.join ps [47]).length≤10000000000):
  Calls prog 111 #[.slice (some ⟨bk,o,none⟩) ps.length c,.string ⟨#[47]⟩] w fun e w'=>e=.returned (.string (baL (Lib.join ps [47])))∧Below w.heap.size w w':=by
 have H:=Tryz.strings_Join bk o c (ps.map baL) ⟨#[47]⟩ w (fun j x hx=>by obtain⟨hk,rfl⟩:=z8l ps j x hx;exact hc j hk) (hc.lt h0) (by simp;omega) (by simpa using hcap)
  (by rw[z8m];show (Lib.join ps [47]).length≤_;omega)
 rw[z8m,List.length_map] at H;exact H
def letters:List UInt8:=[65,66,67,68,69,70,71,72,73,74,75,76,77,78,79,80,81,82,83,84,85,86,87,88,89,90,97,98,99,100,101,102,103,104,105,106,107,108,109,110,111,112,113,114,115,116,117,118,119,120,121,122,48,49,50,51,52,53,54,55,56,57,95,46,43,45]
theorem z8o:∀ n:Fin 256,decide (Lib.indexByte letters (UInt8.ofNat n.val)<0)=!z0t (n.val:Int):=by decide +kernel
theorem z8p (c:UInt8):decide (Lib.indexByte letters c<0)=!z0t c.toNat:=by
 have:=z8o ⟨c.toNat,c.toNat_lt⟩;simpa using this
theorem z8q (c:UInt8):((c.toNat:Int)).toNat.toUInt8=c:=by simp
theorem z8r (c:UInt8)(w:World)(b:Bool)(h:z0t c.toNat=b):Calls prog 244 #[.string ⟨letters.toArray⟩,.int .u8 c.toNat] w fun e w'=>∃ n:Int,e=.returned (.int .i64 n)∧decide (n<0)=(!b)∧w=w':=by
 refine (Tryz.strings_IndexByte ⟨letters.toArray⟩ c.toNat w).mono ?_;rintro e w' ⟨rfl,rfl⟩;exact⟨_,rfl,by rw[z8q];show decide (Lib.indexByte letters c<0)=_;rw[z8p,h],rfl⟩
theorem z8s (s:ByteArray)(w:World)(hs:s.size≤maxLen):
  Calls prog 215 #[.string s] w fun e w'=>e=.returned (.bool (z0v s))∧w=w':=by
 unfold maxLen at hs;rcases Nat.eq_zero_or_pos s.size with h0 | h0
 ·have hne:s.toList=[]:=by rw[ByteArray.toList_eq];exact List.eq_nil_of_length_eq_zero (by simpa using h0)
  have H0:=hd_ (z15 h0);clear h0;go_enter func215,ntmps215;go_wp2_with fail;go_ret;exact⟨z0w H0.out.symm,rfl⟩
 ·obtain⟨c,t,hd,hc⟩:=z14 h0;have hne:s.toList.isEmpty=false:=by rw[ByteArray.toList_eq,hd];rfl
  have hne2:¬ s.toList=[]:=by rw[ByteArray.toList_eq,hd];simp
  have HD:=hd_ hd;by_cases hc46:c=46
  ·have h46:((s[0].toNat:Int) == 46)=true:=by rw[hc,hc46];rfl
   clear hd hc;go_enter func215,ntmps215;go_wp2_with fail;go_ret;exact⟨z0w (z16 HD.out hc46).symm,rfl⟩
  ·have h46:((s[0].toNat:Int) == 46)=false:=by
    rw[hc,beq_eq_false_iff_ne];intro h;exact hc46 (UInt8.toNat.inj (show c.toNat=46 by omega))
   have HE:=hd_ (z17 HD.out hc46);clear hd hc HD hc46;go_enter func215,ntmps215;go_wp2_with fail;clear h46;go_loop [3] (fun i=>∃ k:Nat,k≤s.size∧i=.int .i64 k∧(s.data.toList.take k).all (fun c=>z0t c.toNat)=true) (fun i=>s.size - (intOf i).toNat)
   case atStart=>exact⟨0,Nat.zero_le _,rfl,rfl⟩
   case round =>
    obtain⟨k,hk,rfl,hall⟩:=hrel;have HA:=hd_ hall;clear hall;by_cases hlt:k<s.size
    ·cases hl:z0t s[k].toNat
     ·have HL:=hd_ hl;clear hl;go_wp2_with fail;refine (z8r s[k] _ _ HL.out).mono ?_;rintro e w' ⟨n,rfl,hn,rfl⟩;have hn':decide (n<0)=true:=hn;clear hn;go_wp2
      go_ret;exact⟨z0w (z18 (z12 s (fun c=>z0t c.toNat) k hlt HL.out)).symm,rfl⟩
     ·have HL:=hd_ hl;clear hl;go_wp2_with fail;refine (z8r s[k] _ _ HL.out).mono ?_;rintro e w' ⟨n,rfl,hn,rfl⟩;have hn':decide (n<0)=false:=hn;clear hn;go_wp2
      go_round
      case rel=>exact⟨k+1,by omega,by go_num,z0z s (fun c=>z0t c.toNat) k hlt HA.out HL.out⟩
      case measure=>simp [intOf];omega
    ·go_wp2_with fail;go_ret;exact⟨z0w (by rw[HE.out,z13 s _ k hlt HA.out]),rfl⟩
theorem z8t {l:List UInt8}{ps:List (List UInt8)}(h:z2q l 1=some ps):Lib.hasPrefix l [47,47]=true∧ps=z1a (l.drop 2)∧ps.all z0u=true:=by
 unfold z2q at h;split at h
 ·rename_i hc;injection h with h;subst h;exact⟨hc.1,rfl,hc.2.2⟩
 ·cases h
theorem z8u {l:List UInt8}(h:z2q l 1=none)(h1:Lib.hasPrefix l [47,47]=true):(z1a (l.drop 2)).all z0u=false:=by
 unfold z2q at h;split at h
 ·cases h
 ·rename_i hc
  cases hh:(z1a (l.drop 2)).all z0u
  ·rfl
  ·exact absurd ⟨h1,by have:=z1b (l.drop 2);cases hs:z1a (l.drop 2) <;> simp_all,hh⟩ hc
theorem z8v {s:ByteArray}(h:Lib.hasPrefix s.data.toList [47,47]=true):2≤s.size:=by
 have:s.data.toList.length=s.size:=rfl;rw[← this];cases hl:s.data.toList with
 | nil=>rw[hl] at h;cases h
 | cons a l=>cases l with
  | nil=>rw[hl] at h;unfold Lib.hasPrefix at h;simp at h
  | cons b l=>simp
theorem hasPR (s p:ByteArray)(w:World)(b:Bool)(h:Lib.hasPrefix s.data.toList p.data.toList=b):Calls prog 102 #[.string s,.string p] w fun e w'=>e=.returned (.bool b)∧w=w':=by
 refine (Tryz.strings_HasPrefix s p w).mono ?_;rintro e w' ⟨rfl,rfl⟩;exact⟨by rw[h],rfl⟩
theorem ext_eq (s:ByteArray)(k:Nat):s.extract k s.size=baL (s.data.toList.drop k):=z1m (by
 rw[z6w];exact Lib.extract_to_end s k)
theorem z8w (s:ByteArray)(k:Nat)(w:World)(he:Env w)(hs:s.size≤2000000):
  Calls prog 173 #[.string (s.extract k s.size),.string ⟨#[47]⟩] w fun e w' =>
   e=.returned (.slice (some ⟨w.heap.size,0,none⟩) (z1a (s.data.toList.drop k)).length (z1a (s.data.toList.drop k)).length)∧w.alloc (.cells (z6v (z1a (s.data.toList.drop k))).toArray 9)=w':=by
 rw[ext_eq];exact z6z (baL (s.data.toList.drop k)) w he (by rw[z6x,List.length_drop];have:s.data.toList.length=s.size:=rfl;omega)
theorem z8x (s:ByteArray)(k:Nat)(hs:s.size≤2000000):(z1a (s.data.toList.drop k)).length≤2000001∧∀ p∈z1a (s.data.toList.drop k),p.length≤2000000:=by
 have h1:=z1g (s.data.toList.drop k);have hl:(s.data.toList.drop k).length≤2000000:=by rw[List.length_drop];have:s.data.toList.length=s.size:=rfl;omega
 exact⟨by omega,fun p hp=>by have:=(z1e hp).2;omega⟩
theorem z8y (s:ByteArray)(ps:List (List UInt8))(w:World)(he:Env w)(hs:s.size≤2000000)(h:z2q s.data.toList 1=some ps):
  Calls prog 210 #[.string s] w fun e w'=>e=.returned (.tuple #[.slice (some ⟨w.heap.size,0,none⟩) ps.length ps.length,.bool true])∧w.alloc (.cells (z6v ps).toArray 9)=w':=by
 obtain⟨h1,rfl,h3⟩:=z8t h;have h2:=z8v h1;have HP:=hd_ (hasPR s ⟨#[47,47]⟩ w true h1);obtain⟨hb1,hb2⟩:=z8x s 2 hs;have HS:=hd_ (z8w s 2 w he hs);clear h h1;generalize z1a (s.data.toList.drop 2)=ps at *;have HB:=hd_ (z0l w (z6v ps) 9);have HM:=hd_ hb2;have HA:=hd_ h3;clear hb2 h3;generalize w.alloc (.cells (z6v ps).toArray 9)=W at HS HB ⊢;go_enter func210,ntmps210;go_wp2_with fail;refine HP.out.mono ?_;rintro e w' ⟨rfl,rfl⟩;go_wp2_with fail;refine HS.out.mono ?_;rintro e w' ⟨rfl,rfl⟩;go_wp2_with fail;go_loop [15] (fun i=>∃ k:Nat,k≤ps.length∧i=.int .i64 k) (fun i=>ps.length - (intOf i).toNat)
 case atStart=>exact⟨0,Nat.zero_le _,rfl⟩
 case round =>
  obtain⟨k,hk,rfl⟩:=hrel;by_cases hlt:k<ps.length
  ·have hcell:=HB.out.strs k hlt;have hc2:=HM.out ps[k] (by simp)
   have hcs:z0v (baL ps[k])=true:=List.all_eq_true.1 HA.out _ (List.getElem_mem hlt);go_wp2_with (go_at_call 215;refine (z8s _ _ (by rw[z6x];unfold maxLen;omega)).mono ?_;rintro e w' ⟨rfl,rfl⟩)
   go_round
   case rel=>exact⟨k+1,by omega,by go_num⟩
   case measure=>simp [intOf];omega
  ·go_wp2
   go_ret2;exact⟨rfl,rfl⟩
theorem z8z (s:ByteArray)(w:World)(he:Env w)(hs:s.size≤2000000)(h:z2q s.data.toList 1=none):
  Calls prog 210 #[.string s] w fun e w'=>e=.returned (.tuple #[.slice none 0 0,.bool false])∧Below w.heap.size w w':=by
 cases h1:Lib.hasPrefix s.data.toList [47,47]
 ·have HP:=hd_ (hasPR s ⟨#[47,47]⟩ w false h1);clear h h1;go_enter func210,ntmps210;go_wp2_with fail;refine HP.out.mono ?_;rintro e w' ⟨rfl,rfl⟩;go_wp2
  go_ret2;exact⟨rfl,Below.refl _ _⟩
 ·have h2:=z8v h1;have HP:=hd_ (hasPR s ⟨#[47,47]⟩ w true h1);have HN:=hd_ (z8u h h1);obtain⟨hb1,hb2⟩:=z8x s 2 hs;have HS:=hd_ (z8w s 2 w he hs);clear h h1;generalize z1a (s.data.toList.drop 2)=ps at *;have HB:=hd_ (z0l w (z6v ps) 9);have HM:=hd_ hb2;have hbw:Below w.heap.size w (w.alloc (.cells (z6v ps).toArray 9)):=(Below.refl _ _).alloc (Nat.le_refl _) _;clear hb2;generalize w.alloc (.cells (z6v ps).toArray 9)=W at HS HB hbw ⊢;go_enter func210,ntmps210;go_wp2_with fail;refine HP.out.mono ?_;rintro e w' ⟨rfl,rfl⟩;go_wp2_with fail;refine HS.out.mono ?_;rintro e w' ⟨rfl,rfl⟩;go_wp2_with fail;go_loop [15] (fun i=>∃ k:Nat,k≤ps.length∧i=.int .i64 k∧(ps.take k).all z0u=true) (fun i=>ps.length - (intOf i).toNat)
  case atStart=>exact⟨0,Nat.zero_le _,rfl,rfl⟩
  case round =>
   obtain⟨k,hk,rfl,hall⟩:=hrel;have HA:=hd_ hall;clear hall;by_cases hlt:k<ps.length
   ·have hcell:=HB.out.strs k hlt;have hc2:=HM.out ps[k] (by simp)
    cases hc1:z0u ps[k]
    ·have hcs:z0v (baL ps[k])=false:=hc1;clear hc1;go_wp2_with (go_at_call 215;refine (z8s _ _ (by rw[z6x];unfold maxLen;omega)).mono ?_;rintro e w' ⟨rfl,rfl⟩)
     go_ret2;exact⟨rfl,hbw⟩
    ·have hcs:z0v (baL ps[k])=true:=hc1;have HD:=hd_ hc1;clear hc1;go_wp2_with (go_at_call 215;refine (z8s _ _ (by rw[z6x];unfold maxLen;omega)).mono ?_;rintro e w' ⟨rfl,rfl⟩)
     go_round
     case rel=>exact⟨k+1,by omega,by go_num,z73 ps z0u k hlt HA.out HD.out⟩
     case measure=>simp [intOf];omega
   ·have:=HA.out;rw[List.take_of_length_le (by omega),HN.out] at this
    cases this
theorem dir_two {l:List UInt8}{ps:List (List UInt8)}(h:z2q l 2=some ps):z2q l 1=some ps∧2≤ps.length:=by
 unfold z2q at h ⊢
 split at h
 ·rename_i hc
  injection h with h
  subst h;exact⟨if_pos ⟨hc.1,by omega,hc.2.2⟩,hc.2.1⟩
 ·cases h
theorem z90 {l:List UInt8}{ps:List (List UInt8)}(h:z2q l 2=none)(h1:z2q l 1=some ps):ps.length<2:=by
 obtain⟨a,rfl,c⟩:=z8t h1;unfold z2q at h;split at h
 ·cases h
 ·rename_i hc
  exact Nat.lt_of_not_le fun hh=>hc ⟨a,hh,c⟩
theorem z91 (s:ByteArray)(ps:List (List UInt8))(w:World)(he:Env w)(hs:s.size≤2000000)(h:z2q s.data.toList 2=some ps):
  Calls prog 174 #[.string s] w fun e w'=>e=.returned (.tuple #[.slice (some ⟨w.heap.size,0,none⟩) ps.length ps.length,.bool true])∧w.alloc (.cells (z6v ps).toArray 9)=w':=by
 obtain⟨h1,h2⟩:=dir_two h;have H:=hd_ (z8y s ps w he hs h1);clear h h1 he;have hd:decide ((ps.length:Int)<2)=false:=by simp;omega
 generalize w.alloc (.cells (z6v ps).toArray 9)=W at H ⊢;go_enter func174,ntmps174;go_wp2_with fail;refine H.out.mono ?_;rintro e w' ⟨rfl,rfl⟩;go_wp2
 go_ret2;exact⟨rfl,rfl⟩
theorem z92 (s:ByteArray)(w:World)(he:Env w)(hs:s.size≤2000000)(h:z2q s.data.toList 2=none):
  Calls prog 174 #[.string s] w fun e w'=>e=.returned (.tuple #[.slice none 0 0,.bool false])∧Below w.heap.size w w':=by
 cases h1:z2q s.data.toList 1 with
 | none =>
  have H:=hd_ (z8z s w he hs h1);clear h h1 he;go_enter func174,ntmps174;go_wp2_with fail;refine H.out.mono ?_;rintro e w' ⟨rfl,hb⟩;go_wp2
  go_ret2;exact⟨rfl,hb⟩
 | some ps =>
  have h2:=z90 h h1;have H:=hd_ (z8y s ps w he hs h1);have hd:decide ((ps.length:Int)<2)=true:=by simp;omega
  have hbw:Below w.heap.size w (w.alloc (.cells (z6v ps).toArray 9)):=(Below.refl _ _).alloc (Nat.le_refl _) _;clear h h1 he;generalize w.alloc (.cells (z6v ps).toArray 9)=W at H hbw;go_enter func174,ntmps174;go_wp2_with fail;refine H.out.mono ?_;rintro e w' ⟨rfl,rfl⟩;go_wp2
  go_ret2;exact⟨rfl,hbw⟩
theorem z93 (ps:List (List UInt8))(bk o c:Nat)(w:World)(hc:z8k w bk o ps)(h0:0<ps.length)(hcap:ps.length≤c)(hn:ps.length≤2000000)(hlen:(Lib.join ps [47]).length≤10000000000):
  Calls prog 248 #[.slice (some ⟨bk,o,none⟩) ps.length c] w fun e w'=>e=.returned (.string (baL (z8j ps)))∧Below w.heap.size w w':=by
 have HJ:=hd_ (z8n ps bk o c w hc h0 hcap hn hlen);clear hc;go_enter func248,ntmps248;go_wp2_with fail;refine HJ.out.mono ?_;rintro e w' ⟨rfl,hb⟩;have hsz:(baL (Lib.join ps [47])).size≤10000000000:=by rw[z6x];exact hlen
 go_wp2
 go_ret;exact⟨congrArg (fun s=>Ending.returned (.string s)) (z1m rfl),hb⟩
end Go.Proofs.YtegeboijhifmcaaGreatDoor
