/- A part. -/
import Derived.Test.YtijghobkkdbhnaaGreatDoorMcw4
import Derived.Test.YtijghobkkdbhnaaGreatDoorMcw6
import Derived.Sort.LotA
import Derived.Deep.DeepCutAuto
import Derived.Laws.EntriesVeiled
import Derived.Deep.RegionLaw
import Derived.Deep.LoopGhost
set_option linter.unusedVariables false
set_option linter.unusedSimpArgs false
set_option maxHeartbeats 1000000
namespace Go.Proofs.YtijghobkkdbhnaaGreatDoor
open Go.Proofs.Tryz
open Go.Sort
section
variable {α : Type} [Inhabited α]
def z5m (d:Array α)(a m b x:Nat):α:=
 if a≤x∧x<a+(b - m) then d[x+(m - a)]! else if a+(b - m)≤x∧x<b then d[x - (b - m)]! else d[x]!
def z5n (d:Array α)(a b:Nat):Nat→Array α
 | 0=>d
 | n+1=>swp (z5n d a b n) (a+n) (b+n)
theorem z5o (d:Array α)(a b n:Nat):(z5n d a b n).size=d.size:=by
 induction n with
 | zero=>rfl
 | succ n ih=>rw[z5n,swp_size,ih]
theorem z5p (d:Array α)(a b:Nat):∀ n,a+n≤b→b+n≤d.size→∀ x,(z5n d a b n)[x]! = if a≤x∧x<a+n then d[x+(b - a)]! else if b≤x∧x<b+n then d[x - (b - a)]! else d[x]!:=by
 intro n;induction n with
 | zero=>intro h hb x;rw[z5n,if_neg (by omega),if_neg (by omega)]
 | succ n ih =>
  intro h hb x;have ih:=ih (by omega) (by omega)
  rw[z5n,swp_get _ (by rw[z5o];omega) (by rw[z5o];omega),ih,ih,ih]
  by_cases h1:x=b+n
  ·subst h1;rw[if_pos rfl,if_neg (by omega),if_neg (by omega),if_neg (by omega),if_pos (by omega)]
   congr 1;omega
  ·rw[if_neg h1];by_cases h2:x=a+n
   ·subst h2;rw[if_pos rfl,if_neg (by omega),if_neg (by omega),if_pos (by omega)]
    congr 1;omega
   ·rw[if_neg h2];by_cases h3:a≤x∧x<a+n
    ·rw[if_pos h3,if_pos (by omega)]
    ·rw[if_neg h3,if_neg (show ¬(a≤x∧x<a+(n+1)) by omega)]
     by_cases h4:b≤x∧x<b+n
     ·rw[if_pos h4,if_pos (by omega)]
     ·rw[if_neg h4,if_neg (by omega)]
theorem z5q (d:Array α)(a b lo hi:Nat):∀ n,lo≤a→lo≤b→a+n≤hi→b+n≤hi→hi≤d.size→PermIn lo hi d (z5n d a b n):=by
 intro n;induction n with
 | zero=>intros;exact permIn_refl _ _ _
 | succ n ih =>
  intro h1 h2 h3 h4 h5;exact permIn_trans _ _ _ _ _ (ih h1 h2 (by omega) (by omega) h5) (swp_permIn _ _ _ _ _ (by omega) (by omega) (by omega) (by omega) (by rw[z5o];exact h5))
def z5r (d:Array α)(a m b:Nat)(d':Array α)(i j:Nat):Prop:=
 0<i∧0<j∧i≤m - a∧j≤b - m∧PermIn a b d d'∧∀ x,z5m d' (m - i) m (m+j) x=z5m d a m b x
theorem z5r.start {d:Array α}{a m b:Nat}(h1:a<m)(h2:m<b):z5r d a m b d (m - a) (b - m):=
 ⟨by omega,by omega,by omega,by omega,permIn_refl _ _ _,fun x=>by rw[show m - (m - a)=a by omega,show m+(b - m)=b by omega]⟩
theorem z5r.left {d d':Array α}{a m b i j:Nat}(h:z5r d a m b d' i j)(ha:a<m)(hm:m<b)(hb:b≤d.size)(hij:j<i):z5r d a m b (z5n d' (m - i) m j) (i - j) j:=by
 obtain⟨h1,h2,h3,h4,h5,h6⟩:=h;have hs:=h5.1;refine⟨by omega,h2,by omega,h4,permIn_trans _ _ _ _ _ h5 (z5q _ _ _ _ _ _ (by omega) (by omega) (by omega) (by omega) (by omega)),fun x=>?_⟩
 rw[← h6 x];unfold z5m;have g:=z5p d' (m - i) m j (by omega) (by omega)
 rw[g,g,g];by_cases c1:x<m - i
 ·rw[if_neg (by omega),if_neg (by omega),if_neg (by omega),if_neg (by omega),if_neg (by omega),if_neg (by omega)]
 ·by_cases c2:x<m - i+j
  ·rw[if_neg (by omega),if_neg (by omega),if_pos (by omega),if_pos (by omega)]
   (try (congr 1;omega))
  ·by_cases c3:m+j≤x
   ·rw[if_neg (by omega),if_neg (by omega),if_neg (by omega),if_neg (by omega),if_neg (by omega),if_neg (by omega)]
   ·by_cases c4:x<m - (i - j)+j
    ·rw[if_pos (by omega),if_neg (by omega),if_pos (by omega),if_neg (by omega),if_pos (by omega)]
     congr 1;omega
    ·rw[if_neg (by omega),if_pos (by omega),if_neg (by omega),if_neg (by omega),if_neg (by omega),if_pos (by omega)]
     (try (congr 1;omega))
theorem z5r.right {d d':Array α}{a m b i j:Nat}(h:z5r d a m b d' i j)(ha:a<m)(hm:m<b)(hb:b≤d.size)(hij:i<j):z5r d a m b (z5n d' (m - i) (m+j - i) i) i (j - i):=by
 obtain⟨h1,h2,h3,h4,h5,h6⟩:=h;have hs:=h5.1;refine⟨h1,by omega,h3,by omega,permIn_trans _ _ _ _ _ h5 (z5q _ _ _ _ _ _ (by omega) (by omega) (by omega) (by omega) (by omega)),fun x=>?_⟩
 rw[← h6 x];unfold z5m;have g:=z5p d' (m - i) (m+j - i) i (by omega) (by omega)
 rw[g,g,g];by_cases c1:x<m - i
 ·rw[if_neg (by omega),if_neg (by omega),if_neg (by omega),if_neg (by omega),if_neg (by omega),if_neg (by omega)]
 ·by_cases c3:m+j≤x
  ·rw[if_neg (by omega),if_neg (by omega),if_neg (by omega),if_neg (by omega),if_neg (by omega),if_neg (by omega)]
  ·by_cases c2:m+j - i≤x
   ·rw[if_neg (by omega),if_neg (by omega),if_neg (by omega),if_pos (by omega),if_neg (by omega),if_pos (by omega)]
    congr 1;omega
   ·by_cases c4:x<m - i+(m+(j - i) - m)
    ·rw[if_pos (show m - i≤x∧x<m - i+(m+(j - i) - m) by omega),if_neg (by omega)]
     by_cases c5:x+(m - (m - i))<m+j - i
     ·rw[if_neg (by omega),if_pos (by omega)]
     ·omega
    ·rw[if_neg (show ¬(m - i≤x∧x<m - i+(m+(j - i) - m)) by omega),if_pos (show m - i+(m+(j - i) - m)≤x∧x<m+(j - i) by omega),if_pos (by omega),if_pos (by omega)]
     congr 1;omega
theorem z5r.fin {d d':Array α}{a m b i:Nat}(h:z5r d a m b d' i i)(ha:a<m)(hm:m<b)(hb:b≤d.size):
  PermIn a b d (z5n d' (m - i) m i)∧∀ x,(z5n d' (m - i) m i)[x]! = z5m d a m b x:=by
 obtain⟨h1,h2,h3,h4,h5,h6⟩:=h;have hs:=h5.1;refine⟨permIn_trans _ _ _ _ _ h5 (z5q _ _ _ _ _ _ (by omega) (by omega) (by omega) (by omega) (by omega)),fun x=>?_⟩
 rw[← h6 x,z5p d' (m - i) m i (by omega) (by omega)]
 unfold z5m;by_cases c1:m - i≤x∧x<m - i+i
 ·rw[if_pos c1,if_pos (by omega)]
 ·rw[if_neg c1,if_neg (show ¬(m - i≤x∧x<m - i+(m+i - m)) by omega)]
  by_cases c2:m≤x∧x<m+i
  ·rw[if_pos c2,if_pos (by omega)];congr 1;omega
  ·rw[if_neg c2,if_neg (by omega)]
variable {lt : α → α → Bool}
theorem SortedIn.sub {d:Array α}{a b a' b':Nat}(h:SortedIn lt a b d)(ha:a≤a')(hb:b'≤b):SortedIn lt a' b' d:=fun i j hi hij hj=>h i j (by omega) hij (by omega)
theorem SortedIn.same {d d':Array α}{a b:Nat}(h:SortedIn lt a b d)(he:∀ x,a≤x→x<b→d'[x]! = d[x]!):SortedIn lt a b d':=fun i j hi hij hj=>by
 rw[he i hi (by omega),he j (by omega) hj];exact h i j hi hij hj
omit [Inhabited α] in
theorem SWO.le (hO:SWO lt){x y z:α}(h1:lt y x=false)(h2:lt z y=false):lt z x=false:=hO.ntrans _ _ _ h2 h1
structure CutAt (lt:α→α→Bool)(d:Array α)(a m b mid s:Nat):Prop where
 lo:a≤s
 hi:s≤m
 le:s≤mid
 elo:m+s≤mid+m
 ehi:mid+m≤b+s
 below:a<s→mid+m<b+s→lt d[mid+m - s]! d[s - 1]! = false
 above:s<m→s<mid→lt d[mid+m - s - 1]! d[s]! = true
structure z5s (lt:α→α→Bool)(d:Array α)(n s0 r0 s r:Nat):Prop where
 lo:s0≤s
 mid:s≤r
 hi:r≤r0
 below:∀ c,s0≤c→c<s→lt d[n - 1 - c]! d[c]! = false
 above:∀ c,r≤c→c<r0→lt d[n - 1 - c]! d[c]! = true
theorem z5s.cut (hO:SWO lt){d:Array α}{a m b s0 r0 s:Nat}(ham:a<m)(hmb:m<b)(h0:((a+b) / 2<m∧s0=(a+b) / 2+m - b∧r0=(a+b) / 2)∨(m≤(a+b) / 2∧s0=a∧r0=m))
  (h:z5s lt d ((a+b) / 2+m) s0 r0 s s):CutAt lt d a m b ((a+b) / 2) s:=by
 obtain⟨h1,-,h2,h3,h4⟩:=h;refine⟨by omega,by omega,by omega,by omega,by omega,fun g1 g2=>?_,fun g1 g2=>?_⟩
 ·have:=h3 (s - 1) (by omega) (by omega)
  rw[show (a+b) / 2+m - 1 - (s - 1)=(a+b) / 2+m - s by omega] at this
  exact this
 ·have:=h4 s (Nat.le_refl _) (by omega)
  rw[show (a+b) / 2+m - 1 - s=(a+b) / 2+m - s - 1 by omega] at this
  exact this
theorem z5s.go (hO:SWO lt){d:Array α}{a m b n s0 r0 s r c:Nat}(h:z5s lt d n s0 r0 s r)(hs:s≤c)(hr:c<r)(ha:a≤s0)(hr0:r0≤m)(hn1:m+r0≤n)(hn2:n≤b+s0)(hL:SortedIn lt a m d)(hR:SortedIn lt m b d)
  (hc:lt d[n - 1 - c]! d[c]! = false):z5s lt d n s0 r0 (c+1) r:=by
 obtain⟨h1,h2,h3,h4,h5⟩:=h;refine⟨by omega,by omega,h3,fun x hx hx2=>?_,h5⟩
 by_cases e:x=c
 ·rw[e];exact hc
 ·have k1:lt d[c]! d[x]! = false:=hL _ _ (by omega) (by omega) (by omega)
  have k2:lt d[n - 1 - x]! d[n - 1 - c]! = false:=hR _ _ (by omega) (by omega) (by omega)
  exact SWO.le hO (SWO.le hO k1 hc) k2
theorem z5s.back (hO:SWO lt){d:Array α}{a m b n s0 r0 s r c:Nat}(h:z5s lt d n s0 r0 s r)(hs:s≤c)(hr:c<r)(ha:a≤s0)(hr0:r0≤m)(hn1:m+r0≤n)(hn2:n≤b+s0)(hL:SortedIn lt a m d)(hR:SortedIn lt m b d)
  (hc:lt d[n - 1 - c]! d[c]! = true):z5s lt d n s0 r0 s c:=by
 obtain⟨h1,h2,h3,h4,h5⟩:=h;refine⟨h1,hs,by omega,h4,fun x hx hx2=>?_⟩
 by_cases e:x=c
 ·rw[e];exact hc
 ·have k1:lt d[x]! d[c]! = false:=hL _ _ (by omega) (by omega) (by omega)
  have k2:lt d[n - 1 - c]! d[n - 1 - x]! = false:=hR _ _ (by omega) (by omega) (by omega)
  cases hh:lt d[n - 1 - x]! d[x]! with
  | true=>rfl
  | false =>
   have:=SWO.le hO (SWO.le hO k1 hh) k2;rw[hc] at this;cases this
def z5t (lt:α→α→Bool)(d:Array α)(n bs q:Nat):Prop:=∀ k,q≤k→SortedIn lt (k * bs) (min ((k+1) * bs) n) d
def z5u (lt:α→α→Bool)(d:Array α)(n bs q:Nat):Prop:=∀ k,k<q→SortedIn lt (k * bs) (min ((k+1) * bs) n) d
theorem z5u.zero (d:Array α)(n bs:Nat):z5u lt d n bs 0:=fun k hk=>by omega
theorem z5u.step {d d':Array α}{n bs q lo hi:Nat}(h:z5u lt d n bs q)(hlo:lo=q * bs)(hp:PermIn lo hi d d')(hs:SortedIn lt (q * bs) (min ((q+1) * bs) n) d'):z5u lt d' n bs (q+1):=by
 intro k hk;by_cases e:k=q
 ·subst e;exact hs
 ·refine SortedIn.same (h k (by omega)) fun x hx hx2=>hp.2.1 x (.inl ?_)
  have:(k+1) * bs≤q * bs:=Nat.mul_le_mul_right _ (by omega)
  omega
theorem z5t.step {d d':Array α}{n bs q lo hi:Nat}(h:z5t lt d n bs q)(hlo:hi=(q+2) * bs)(hp:PermIn lo hi d d'):z5t lt d' n bs (q+2):=by
 intro k hk;refine SortedIn.same (h k (by omega)) fun x hx hx2=>hp.2.1 x (.inr ?_)
 have:(q+2) * bs≤k * bs:=Nat.mul_le_mul_right _ hk;omega
theorem z5u.all {d:Array α}{n bs q:Nat}(h:z5u lt d n bs q)(hq:n≤q * bs):z5t lt d n bs 0:=by
 intro k _;by_cases hk:k<q
 ·exact h k hk
 ·intro i j hi hij hj;have:q * bs≤k * bs:=Nat.mul_le_mul_right _ (by omega)
  omega
theorem z5t.whole {d:Array α}{n bs:Nat}(h:z5t lt d n bs 0)(hn:n≤bs):SortedIn lt 0 n d:=by
 have:=h 0 (Nat.le_refl _);rw[Nat.zero_mul,Nat.zero_add,Nat.one_mul,Nat.min_eq_right hn] at this;exact this
end
open Go.RowKit
def z82 (part:ByteArray):ByteArray:=part.extract 1 part.size
def z83 (part comp:ByteArray):ByteArray:=if z7b part then ⟨(Lib.trimSuffix comp.data.toList (z82 part).data.toList).toArray⟩ else z2q
def z84 (part comp:ByteArray):Bool:=if z7b part then Lib.hasSuffix comp.data.toList (z82 part).data.toList && !decide (z83 part comp=z2q) else decide (part=comp)
theorem z85 {s:ByteArray}(h:z7b s=true):1≤s.size:=by
 rcases Nat.eq_zero_or_pos s.size with h0 | h0
 ·have:s.data.toList=[]:=List.eq_nil_of_length_eq_zero (by simpa using h0)
  unfold z7b at h;rw[this] at h;cases h
 ·exact h0
theorem z86 (a b:ByteArray):(a.toList == b.toList)=decide (a=b):=by
 rw[Bool.eq_iff_iff,beq_iff_eq,decide_eq_true_eq,toList_inj]
theorem z87 {x y:ByteArray}{a b:Bool}(h1:x=y)(h2:a=b):Ending.returned (.tuple #[.string x,.bool a])=.returned (.tuple #[.string y,.bool b]):=by rw[h1,h2]
theorem z88 (part comp:ByteArray)(w:World)(hp:part.size≤9223372036854775807)(hs:comp.size≤9223372036854775807):
  Calls prog 134 #[.string part,.string comp] w fun e w'=>e=.returned (.tuple #[.string (z83 part comp),.bool (z84 part comp)])∧w=w':=by
 have HI:=hd_ (z7m part w);have HC:=hd_ (Tryz.strings_CutSuffix comp (part.extract 1 part.size) w hs);cases hst:z7b part with
 | false =>
  have HV:Hid (z83 part comp=⟨#[]⟩∧z84 part comp=decide (part=comp)):=hd_ (by unfold z83 z84;rw[hst];exact⟨rfl,rfl⟩)
  have HE:=hd_ (z86 part comp);rw[hst] at HI;clear hst;go_enter func134,ntmps134;go_wp2_with (go_at_call 135;refine HI.out.mono ?_;rintro e w' ⟨rfl,rfl⟩)
  go_ret2;exact⟨z87 HV.out.1.symm (by rw[HV.out.2];exact HE.out),rfl⟩
 | true =>
  have h1:1≤part.size:=z85 hst;have HV:Hid (z83 part comp=⟨(Lib.trimSuffix comp.data.toList (z82 part).data.toList).toArray⟩∧z84 part comp=(Lib.hasSuffix comp.data.toList (z82 part).data.toList && !decide (z83 part comp=z2q))):=hd_ ⟨by unfold z83;rw[hst];rfl,by unfold z84;rw[hst];rfl⟩
  rw[hst] at HI;clear hst;change Hid (Calls prog 191 #[.string comp,.string (part.extract 1 part.size)] w fun e w'=>e=.returned (.tuple #[.string ⟨(Lib.trimSuffix comp.data.toList (z82 part).data.toList).toArray⟩,.bool (Lib.hasSuffix comp.data.toList (z82 part).data.toList)])∧w'=w) at HC;generalize (⟨(Lib.trimSuffix comp.data.toList (z82 part).data.toList).toArray⟩:ByteArray)=x at HC HV;generalize Lib.hasSuffix comp.data.toList (z82 part).data.toList=ok at HC HV;have HE:=hd_ (z86 x ⟨#[]⟩);go_enter func134,ntmps134;cases ok with
  | false =>
   go_wp2_with (first
    | (go_at_call 135;refine HI.out.mono ?_;rintro e w' ⟨rfl,rfl⟩)
    | (go_at_call 191;refine HC.out.mono ?_;rintro e w' ⟨rfl,rfl⟩))
   go_ret2;exact⟨z87 HV.out.1.symm (by rw[HV.out.2];rfl),rfl⟩
  | true =>
   by_cases hx:x=⟨#[]⟩
   ·have HX:=hd_ hx;have q:(x.toList == (⟨#[]⟩:ByteArray).toList)=true:=by rw[HE.out];simpa using hx
    have q2:x.toList=[]:=by rw[hx,ByteArray.toList_eq]
    clear hx;go_wp2_with (first
     | (go_at_call 135;refine HI.out.mono ?_;rintro e w' ⟨rfl,rfl⟩)
     | (go_at_call 191;refine HC.out.mono ?_;rintro e w' ⟨rfl,rfl⟩))
    go_ret2;exact⟨z87 HV.out.1.symm (by rw[HV.out.2,HV.out.1,HX.out];rfl),rfl⟩
   ·have HX:=hd_ hx;have q:(x.toList == (⟨#[]⟩:ByteArray).toList)=false:=by rw[HE.out];simpa using hx
    have q2:¬ x.toList=[]:=fun h=>hx (toList_inj.1 (h.trans (by rw[ByteArray.toList_eq])))
    have q3:x.toList.isEmpty=false:=by cases hh:x.toList;exact absurd hh q2;rfl
    clear hx;go_wp2_with (first
     | (go_at_call 135;refine HI.out.mono ?_;rintro e w' ⟨rfl,rfl⟩)
     | (go_at_call 191;refine HC.out.mono ?_;rintro e w' ⟨rfl,rfl⟩))
    go_ret2;exact⟨z87 HV.out.1.symm (by rw[HV.out.2,HV.out.1,decide_eq_false (show ¬ x=z2q from HX.out)];rfl),rfl⟩
def natV (n:Nat):Value:=.int .i64 n
def zdr (w:World)(B:Nat)(cnt:ByteArray→Nat):Prop:=∃ f,z2k Value.string natV w B f∧∀ p,(f p).getD 0=cnt p
theorem zds (w:World):(zeroValue 3).run prog w=.ok (natV 0) w:=by kernel_rfl
section
variable {w w' : World} {B : Nat} {cnt : ByteArray → Nat}
theorem zdr.new (w:World):zdr (w.alloc (.map #[] 0)) w.heap.size (fun _=>0):=⟨_,z2k.new _ _ w,fun _=>rfl⟩
theorem zdr.alloc (h:zdr w B cnt)(o:Obj):zdr (w.alloc o) B cnt:=by obtain⟨f,h,r⟩:=h;exact⟨f,h.alloc o,r⟩
theorem zdr.lt (h:zdr w B cnt):B<w.heap.size:=by obtain⟨f,h,r⟩:=h;exact h.lt
theorem zdr.look (h:zdr w B cnt)(p:ByteArray):(Instr.lookup 162 (.map (some B)) (.string p) false).run prog w=.ok (.int .i64 (cnt p)) w:=by
 obtain⟨f,h,r⟩:=h;rw[z2k.lookup h z7s underlying162 (zds w) p false,← r p];unfold z2m;cases f p <;> rfl
end
theorem ret_i {k:IntKind}{a b:Int}(h:a=b):Ending.returned (.int k a)=.returned (.int k b):=by rw[h]
theorem zho (b:Int)(k l x:Bool)(w:World):
  Calls prog 206 #[.agg #[.int .i64 b,.bool k,.bool l,.bool x]] w fun e w'=>e=.returned (.int .i64 (z2p 90 (z2o b k x)))∧zB w w':=by
 by_cases h0:1≤b∧b≤3
 ·have hb:b=1∨b=2∨b=3:=by omega
  rcases hb with rfl | rfl | rfl <;> cases k <;> cases x
  all_goals
   go_enter func206,ntmps206;go_wp2
   go_ret;exact⟨rfl,(Below.refl _ _).alloc (Nat.le_refl _) _⟩
 ·have H:Hid (z2o b k x=false):=hd_ (by
   unfold z2o;have h1:(b == 1)=false:=by rw[beq_eq_false_iff_ne];omega
   have h2:(b == 2)=false:=by rw[beq_eq_false_iff_ne];omega
   have h3:(b == 3)=false:=by rw[beq_eq_false_iff_ne];omega
   simp [h1,h2,h3])
  by_cases hb:b<1
  ·clear h0;go_enter func206,ntmps206;go_wp2
   go_ret;exact⟨ret_i (by rw[H.out];rfl),(Below.refl _ _).alloc (Nat.le_refl _) _⟩
  ·have hb3:3<b:=by omega
   clear h0;go_enter func206,ntmps206;go_wp2
   go_ret;exact⟨ret_i (by rw[H.out];rfl),(Below.refl _ _).alloc (Nat.le_refl _) _⟩
variable {f : ByteArray → Option Rev} {b : ByteArray} {x : Edt}
