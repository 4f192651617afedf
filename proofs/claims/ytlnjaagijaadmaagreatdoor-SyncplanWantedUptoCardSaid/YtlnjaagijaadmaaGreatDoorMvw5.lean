/- A part. -/
import Derived.Test.YtlnjaagijaadmaaGreatDoorMvw2
import Derived.Test.YtlnjaagijaadmaaGreatDoorMxShelf
import Derived.Sort.LotA
set_option linter.unusedVariables false
set_option linter.unusedSimpArgs false
set_option maxHeartbeats 1000000
namespace Go.Proofs.YtlnjaagijaadmaaGreatDoor
open Go.Proofs.Tryz
open Go.Sort
section
variable {α : Type} [Inhabited α]
def z4f (d:Array α)(a m b x:Nat):α:=
 if a<=x/\x<a+(b - m) then d[x+(m - a)]! else if a+(b - m)<=x/\x<b then d[x - (b - m)]! else d[x]!
def z4g (d:Array α)(a b:Nat):Nat->Array α
 | 0=>d
 | n+1=>swp (z4g d a b n) (a+n) (b+n)
theorem z4h (d:Array α)(a b n:Nat):(z4g d a b n).size=d.size:=by
 induction n with
 | zero=>rfl
 | succ n ih=>rw[z4g,swp_size,ih]
theorem z4i (d:Array α)(a b:Nat):∀ n,a+n<=b->b+n<=d.size->∀ x,(z4g d a b n)[x]! = if a<=x/\x<a+n then d[x+(b - a)]! else if b<=x/\x<b+n then d[x - (b - a)]! else d[x]!:=by
 intro n;induction n with
 | zero=>intro h hb x;rw[z4g,if_neg (by omega),if_neg (by omega)]
 | succ n ih =>
  intro h hb x;have ih:=ih (by omega) (by omega)
  rw[z4g,swp_get _ (by rw[z4h];omega) (by rw[z4h];omega),ih,ih,ih]
  by_cases h1:x=b+n
  ·subst h1;rw[if_pos rfl,if_neg (by omega),if_neg (by omega),if_neg (by omega),if_pos (by omega)]
   congr 1;omega
  ·rw[if_neg h1];by_cases h2:x=a+n
   ·subst h2;rw[if_pos rfl,if_neg (by omega),if_neg (by omega),if_pos (by omega)]
    congr 1;omega
   ·rw[if_neg h2];by_cases h3:a<=x/\x<a+n
    ·rw[if_pos h3,if_pos (by omega)]
    ·rw[if_neg h3,if_neg (show ¬(a<=x/\x<a+(n+1)) by omega)]
     by_cases h4:b<=x/\x<b+n
     ·rw[if_pos h4,if_pos (by omega)]
     ·rw[if_neg h4,if_neg (by omega)]
theorem z4j (d:Array α)(a b lo hi:Nat):∀ n,lo<=a->lo<=b->a+n<=hi->b+n<=hi->hi<=d.size->PermIn lo hi d (z4g d a b n):=by
 intro n;induction n with
 | zero=>intros;exact permIn_refl _ _ _
 | succ n ih =>
  intro h1 h2 h3 h4 h5;exact permIn_trans _ _ _ _ _ (ih h1 h2 (by omega) (by omega) h5) (swp_permIn _ _ _ _ _ (by omega) (by omega) (by omega) (by omega) (by rw[z4h];exact h5))
def z4k (d:Array α)(a m b:Nat)(d':Array α)(i j:Nat):Prop:=
 0<i/\0<j/\i<=m - a/\j<=b - m/\PermIn a b d d'/\∀ x,z4f d' (m - i) m (m+j) x=z4f d a m b x
theorem z4k.start {d:Array α}{a m b:Nat}(h1:a<m)(h2:m<b):z4k d a m b d (m - a) (b - m):=
 ⟨by omega,by omega,by omega,by omega,permIn_refl _ _ _,fun x=>by rw[show m - (m - a)=a by omega,show m+(b - m)=b by omega]⟩
theorem z4k.left {d d':Array α}{a m b i j:Nat}(h:z4k d a m b d' i j)(ha:a<m)(hm:m<b)(hb:b<=d.size)(hij:j<i):z4k d a m b (z4g d' (m - i) m j) (i - j) j:=by
 obtain⟨h1,h2,h3,h4,h5,h6⟩:=h;have hs:=h5.1;refine⟨by omega,h2,by omega,h4,permIn_trans _ _ _ _ _ h5 (z4j _ _ _ _ _ _ (by omega) (by omega) (by omega) (by omega) (by omega)),fun x=>?_⟩
 rw[<- h6 x];unfold z4f;have g:=z4i d' (m - i) m j (by omega) (by omega)
 rw[g,g,g];by_cases c1:x<m - i
 ·rw[if_neg (by omega),if_neg (by omega),if_neg (by omega),if_neg (by omega),if_neg (by omega),if_neg (by omega)]
 ·by_cases c2:x<m - i+j
  ·rw[if_neg (by omega),if_neg (by omega),if_pos (by omega),if_pos (by omega)]
   (try (congr 1;omega))
  ·by_cases c3:m+j<=x
   ·rw[if_neg (by omega),if_neg (by omega),if_neg (by omega),if_neg (by omega),if_neg (by omega),if_neg (by omega)]
   ·by_cases c4:x<m - (i - j)+j
    ·rw[if_pos (by omega),if_neg (by omega),if_pos (by omega),if_neg (by omega),if_pos (by omega)]
     congr 1;omega
    ·rw[if_neg (by omega),if_pos (by omega),if_neg (by omega),if_neg (by omega),if_neg (by omega),if_pos (by omega)]
     (try (congr 1;omega))
theorem z4k.right {d d':Array α}{a m b i j:Nat}(h:z4k d a m b d' i j)(ha:a<m)(hm:m<b)(hb:b<=d.size)(hij:i<j):z4k d a m b (z4g d' (m - i) (m+j - i) i) i (j - i):=by
 obtain⟨h1,h2,h3,h4,h5,h6⟩:=h;have hs:=h5.1;refine⟨h1,by omega,h3,by omega,permIn_trans _ _ _ _ _ h5 (z4j _ _ _ _ _ _ (by omega) (by omega) (by omega) (by omega) (by omega)),fun x=>?_⟩
 rw[<- h6 x];unfold z4f;have g:=z4i d' (m - i) (m+j - i) i (by omega) (by omega)
 rw[g,g,g];by_cases c1:x<m - i
 ·rw[if_neg (by omega),if_neg (by omega),if_neg (by omega),if_neg (by omega),if_neg (by omega),if_neg (by omega)]
 ·by_cases c3:m+j<=x
  ·rw[if_neg (by omega),if_neg (by omega),if_neg (by omega),if_neg (by omega),if_neg (by omega),if_neg (by omega)]
  ·by_cases c2:m+j - i<=x
   ·rw[if_neg (by omega),if_neg (by omega),if_neg (by omega),if_pos (by omega),if_neg (by omega),if_pos (by omega)]
    congr 1;omega
   ·by_cases c4:x<m - i+(m+(j - i) - m)
    ·rw[if_pos (show m - i<=x/\x<m - i+(m+(j - i) - m) by omega),if_neg (by omega)]
     by_cases c5:x+(m - (m - i))<m+j - i
     ·rw[if_neg (by omega),if_pos (by omega)]
     ·omega
    ·rw[if_neg (show ¬(m - i<=x/\x<m - i+(m+(j - i) - m)) by omega),if_pos (show m - i+(m+(j - i) - m)<=x/\x<m+(j - i) by omega),if_pos (by omega),if_pos (by omega)]
     congr 1;omega
theorem z4k.fin {d d':Array α}{a m b i:Nat}(h:z4k d a m b d' i i)(ha:a<m)(hm:m<b)(hb:b<=d.size):
  PermIn a b d (z4g d' (m - i) m i)/\∀ x,(z4g d' (m - i) m i)[x]! = z4f d a m b x:=by
 obtain⟨h1,h2,h3,h4,h5,h6⟩:=h;have hs:=h5.1;refine⟨permIn_trans _ _ _ _ _ h5 (z4j _ _ _ _ _ _ (by omega) (by omega) (by omega) (by omega) (by omega)),fun x=>?_⟩
 rw[<- h6 x,z4i d' (m - i) m i (by omega) (by omega)]
 unfold z4f;by_cases c1:m - i<=x/\x<m - i+i
 ·rw[if_pos c1,if_pos (by omega)]
 ·rw[if_neg c1,if_neg (show ¬(m - i<=x/\x<m - i+(m+i - m)) by omega)]
  by_cases c2:m<=x/\x<m+i
  ·rw[if_pos c2,if_pos (by omega)];congr 1;omega
  ·rw[if_neg c2,if_neg (by omega)]
variable {lt : α -> α -> Bool}
theorem SortedIn.sub {d:Array α}{a b a' b':Nat}(h:SortedIn lt a b d)(ha:a<=a')(hb:b'<=b):SortedIn lt a' b' d:=fun i j hi hij hj=>h i j (by omega) hij (by omega)
theorem SortedIn.same {d d':Array α}{a b:Nat}(h:SortedIn lt a b d)(he:∀ x,a<=x->x<b->d'[x]! = d[x]!):SortedIn lt a b d':=fun i j hi hij hj=>by
 rw[he i hi (by omega),he j (by omega) hj];exact h i j hi hij hj
omit [Inhabited α] in
theorem SWO.le (hO:SWO lt){x y z:α}(h1:lt y x=false)(h2:lt z y=false):lt z x=false:=hO.ntrans _ _ _ h2 h1
structure CutAt (lt:α->α->Bool)(d:Array α)(a m b mid s:Nat):Prop where
 lo:a<=s
 hi:s<=m
 le:s<=mid
 elo:m+s<=mid+m
 ehi:mid+m<=b+s
 kw:a<s->mid+m<b+s->lt d[mid+m - s]! d[s - 1]! = false
 above:s<m->s<mid->lt d[mid+m - s - 1]! d[s]! = true
structure z4l (lt:α->α->Bool)(d:Array α)(n s0 r0 s r:Nat):Prop where
 lo:s0<=s
 mid:s<=r
 hi:r<=r0
 kw:∀ c,s0<=c->c<s->lt d[n - 1 - c]! d[c]! = false
 above:∀ c,r<=c->c<r0->lt d[n - 1 - c]! d[c]! = true
theorem z4l.cut (hO:SWO lt){d:Array α}{a m b s0 r0 s:Nat}(ham:a<m)(hmb:m<b)(h0:((a+b) / 2<m/\s0=(a+b) / 2+m - b/\r0=(a+b) / 2)\/(m<=(a+b) / 2/\s0=a/\r0=m))
  (h:z4l lt d ((a+b) / 2+m) s0 r0 s s):CutAt lt d a m b ((a+b) / 2) s:=by
 obtain⟨h1,-,h2,h3,h4⟩:=h;refine⟨by omega,by omega,by omega,by omega,by omega,fun g1 g2=>?_,fun g1 g2=>?_⟩
 ·have:=h3 (s - 1) (by omega) (by omega)
  rw[show (a+b) / 2+m - 1 - (s - 1)=(a+b) / 2+m - s by omega] at this
  exact this
 ·have:=h4 s (Zd _) (by omega)
  rw[show (a+b) / 2+m - 1 - s=(a+b) / 2+m - s - 1 by omega] at this
  exact this
theorem z4l.go (hO:SWO lt){d:Array α}{a m b n s0 r0 s r c:Nat}(h:z4l lt d n s0 r0 s r)(hs:s<=c)(hr:c<r)(ha:a<=s0)(hr0:r0<=m)(hn1:m+r0<=n)(hn2:n<=b+s0)(hL:SortedIn lt a m d)(hR:SortedIn lt m b d)
  (hc:lt d[n - 1 - c]! d[c]! = false):z4l lt d n s0 r0 (c+1) r:=by
 obtain⟨h1,h2,h3,h4,h5⟩:=h;refine⟨by omega,by omega,h3,fun x hx hx2=>?_,h5⟩
 by_cases e:x=c
 ·rw[e];exact hc
 ·have k1:lt d[c]! d[x]! = false:=hL _ _ (by omega) (by omega) (by omega)
  have k2:lt d[n - 1 - x]! d[n - 1 - c]! = false:=hR _ _ (by omega) (by omega) (by omega)
  exact SWO.le hO (SWO.le hO k1 hc) k2
theorem z4l.back (hO:SWO lt){d:Array α}{a m b n s0 r0 s r c:Nat}(h:z4l lt d n s0 r0 s r)(hs:s<=c)(hr:c<r)(ha:a<=s0)(hr0:r0<=m)(hn1:m+r0<=n)(hn2:n<=b+s0)(hL:SortedIn lt a m d)(hR:SortedIn lt m b d)
  (hc:lt d[n - 1 - c]! d[c]! = true):z4l lt d n s0 r0 s c:=by
 obtain⟨h1,h2,h3,h4,h5⟩:=h;refine⟨h1,hs,by omega,h4,fun x hx hx2=>?_⟩
 by_cases e:x=c
 ·rw[e];exact hc
 ·have k1:lt d[x]! d[c]! = false:=hL _ _ (by omega) (by omega) (by omega)
  have k2:lt d[n - 1 - c]! d[n - 1 - x]! = false:=hR _ _ (by omega) (by omega) (by omega)
  cases hh:lt d[n - 1 - x]! d[x]! with
  | true=>rfl
  | false =>
   have:=SWO.le hO (SWO.le hO k1 hh) k2;rw[hc] at this;cases this
def z4m (lt:α->α->Bool)(d:Array α)(n bs q:Nat):Prop:=∀ k,q<=k->SortedIn lt (k * bs) (min ((k+1) * bs) n) d
def z4n (lt:α->α->Bool)(d:Array α)(n bs q:Nat):Prop:=∀ k,k<q->SortedIn lt (k * bs) (min ((k+1) * bs) n) d
theorem z4n.zero (d:Array α)(n bs:Nat):z4n lt d n bs 0:=fun k hk=>by omega
theorem z4n.step {d d':Array α}{n bs q lo hi:Nat}(h:z4n lt d n bs q)(hlo:lo=q * bs)(hp:PermIn lo hi d d')(hs:SortedIn lt (q * bs) (min ((q+1) * bs) n) d'):z4n lt d' n bs (q+1):=by
 intro k hk;by_cases e:k=q
 ·subst e;exact hs
 ·refine SortedIn.same (h k (by omega)) fun x hx hx2=>hp.2.1 x (.inl ?_)
  have:(k+1) * bs<=q * bs:=Ye _ (by omega)
  omega
theorem z4m.step {d d':Array α}{n bs q lo hi:Nat}(h:z4m lt d n bs q)(hlo:hi=(q+2) * bs)(hp:PermIn lo hi d d'):z4m lt d' n bs (q+2):=by
 intro k hk;refine SortedIn.same (h k (by omega)) fun x hx hx2=>hp.2.1 x (.inr ?_)
 have:(q+2) * bs<=k * bs:=Ye _ hk;omega
theorem z4n.all {d:Array α}{n bs q:Nat}(h:z4n lt d n bs q)(hq:n<=q * bs):z4m lt d n bs 0:=by
 intro k _;by_cases hk:k<q
 ·exact h k hk
 ·intro i j hi hij hj;have:q * bs<=k * bs:=Ye _ (by omega)
  omega
theorem z4m.whole {d:Array α}{n bs:Nat}(h:z4m lt d n bs 0)(hn:n<=bs):SortedIn lt 0 n d:=by
 have:=h 0 (Zd _);rw[Nat.zero_mul,ZV,Nat.one_mul,Nat.min_eq_right hn] at this;exact this
end
open Go.RowKit
def Env (w:zW):Prop:=∃ m:Int,w.cell? ⟨0,0,none⟩=some (zI m)
theorem Env.kw {w w':zW}(h:Env w)(hb:zB w w'):Env w':=by
 obtain⟨m,hm⟩:=h;exact⟨m,(hb.cell (p:=⟨0,0,none⟩) (z03 hm)).trans hm⟩
theorem Env.alloc {w:zW}(h:Env w)(o:Obj):Env (w.alloc o):=h.kw (zR)
def baL (p:List UInt8):zA:=⟨p.toArray⟩
def z9a (ps:List (List UInt8)):List zV:=ps.map fun p=>zS (baL p)
theorem z9b (p:List UInt8):(baL p).data.toList=p:=rfl
theorem z9c (p:List UInt8):(baL p).size=p.length:=by simp [baL,ByteArray.size]
theorem z9d (s p body:zA)(w:zW)(h:Lib.hasPrefix s.data.toList p.data.toList=true)(hb:body.data.toList=s.data.toList.drop p.data.toList.length):
  Calls prog 224 #[zS s,zS p] w fun e w'=>e=.returned (.tuple #[zS body,.bool true])/\w=w':=by
 refine (Tryz.strings_CutPrefix s p w).mono ?_;rintro e w' ⟨rfl,rfl⟩;rw[h];have:(⟨(Lib.trimPrefix s.data.toList p.data.toList).toArray⟩:zA)=body:=z1s (by rw[hb];unfold Lib.trimPrefix;rw[h];rfl)
 rw[this];exact⟨rfl,rfl⟩
theorem cutP_no (s p:zA)(w:zW)(h:Lib.hasPrefix s.data.toList p.data.toList=false):
  Calls prog 224 #[zS s,zS p] w fun e w'=>e=.returned (.tuple #[zS s,.bool false])/\w=w':=by
 refine (Tryz.strings_CutPrefix s p w).mono ?_;rintro e w' ⟨rfl,rfl⟩;rw[h];have:(⟨(Lib.trimPrefix s.data.toList p.data.toList).toArray⟩:zA)=s:=z1s (by unfold Lib.trimPrefix;rw[h];rfl)
 rw[this];exact⟨rfl,rfl⟩
theorem z9e (s:zA)(w:zW)(he:Env w)(hs:s.size<4294967281):
  Calls prog 202 #[zS s,zS ⟨#[47]⟩] w fun e w' =>
   e=.returned (zL (some ⟨w.heap.size,0,none⟩) (z1e s.data.toList).length (z1e s.data.toList).length)/\w.alloc (.cells (z9a (z1e s.data.toList)).toArray 9)=w':=by
 obtain⟨m,hm⟩:=he;refine (Tryz.strings_Split s ⟨#[47]⟩ m w hs hm (by decide)).mono ?_
 rintro e w' ⟨rfl,rfl⟩;rw[z1u,z1t];exact⟨rfl,by unfold z9a;rw[List.map_map];rfl⟩
theorem Blk.strs {w:zW}{g:Nat}{ps:List (List UInt8)}(h:Blk w g 9 (z9a ps))(k:Nat)(hk:k<ps.length):w.cell? ⟨g,k,none⟩=some (zS (baL ps[k])):=by
 rw[h.cell];simp [z9a,hk]
theorem z9f (s:zA)(least:Nat)(ps:List (List UInt8))(w:zW)(he:Env w)(hs:s.size<=2000000)(hl:least<=2)(h:z2w s.data.toList least=some ps):
  Calls prog 203 #[zS s,zI least] w fun e w'=>e=.returned (.tuple #[zL (some ⟨w.heap.size,0,none⟩) ps.length ps.length,.bool true])/\w.alloc (.cells (z9a ps).toArray 9)=w':=by
 unfold z2w at h;split at h
 ·rename_i hc
  obtain⟨h1,h2,h3⟩:=hc;injection h with h
  have hbl:(baL (s.data.toList.drop 2)).size<=2000000:=by rw[z9c,Zu];have:s.data.toList.length=s.size:=rfl;omega
  have hmem:∀ p∈ps,z0y p=true/\p.length<=2000000:=fun p hp=>by
   rw[<- h] at hp;exact⟨ZB.1 h3 p hp,by have:=(z1i hp).2;rw[z9c] at hbl;omega⟩
  have HS:=hd_ (z9e (baL (s.data.toList.drop 2)) w he (by omega))
  have HP:=hd_ (z9d s ⟨#[47,47]⟩ (baL (s.data.toList.drop 2)) w h1 rfl);rw[z9b,h] at HS;rw[h] at h2;have hlen:ps.length<=2000001:=by rw[<- h];have:=z1k (s.data.toList.drop 2);rw[z9c] at hbl;omega
  have HM:=hd_ hmem;have hd2:decide (ps.length<least)=false:=by simp;omega
  have hd3:decide ((ps.length:Int)<(least:Int))=false:=by simp;omega
  have HB:=hd_ (z0l w (z9a ps) 9);clear h h1 h3 hmem;generalize w.alloc (.cells (z9a ps).toArray 9)=W at HS HB |-;go_enter func203,ntmps203;go_wp2_with fail;refine HP.mono ?_;rintro e w' ⟨rfl,rfl⟩;go_wp2_with fail;refine HS.mono ?_;rintro e w' ⟨rfl,rfl⟩;go_wp2
  go_loop [26] (fun i=>∃ k:Nat,k<=ps.length/\i=zI k) (fun i=>ps.length - (intOf i).toNat)
  exact⟨0,Zg _,rfl⟩
  obtain⟨k,hk,rfl⟩:=hrel;by_cases hlt:k<ps.length
  ·have hcell:=HB.out.strs k hlt;obtain⟨hc1,hc2⟩:=HM.out ps[k] (by simp)
   have hcs:z0z (baL ps[k])=true:=hc1;go_wp2_with (go_at_call 101;refine (z1d _ _ (by rw[z9c];unfold maxLen;omega)).mono ?_;rintro e w' ⟨rfl,rfl⟩)
   go_round
   exact⟨k+1,by omega,by go_num⟩
   simp [intOf];omega
  ·go_wp2
   go_ret2;exact⟨rfl,rfl⟩
 ·cases h
theorem z9g {α:Type}(ps:List α)(f:α->Bool)(k:Nat)(hk:k<ps.length)(h:(ps.take k).all f=true)(hf:f ps[k]=true):(ps.take (k+1)).all f=true:=by
 rw[Zr hk,List.all_append,h];simp [hf]
theorem z9h (s:zA)(least:Nat)(w:zW)(he:Env w)(hs:s.size<=2000000)(h:z2w s.data.toList least=none):
  Calls prog 203 #[zS s,zI least] w fun e w'=>e=.returned (.tuple #[zL none 0 0,.bool false])/\zB w w':=by
 cases h1:Lib.hasPrefix s.data.toList [47,47]
 ·have HP:=hd_ (cutP_no s ⟨#[47,47]⟩ w h1);clear h h1;go_enter func203,ntmps203;go_wp2_with fail;refine HP.mono ?_;rintro e w' ⟨rfl,rfl⟩;go_wp2
  go_ret2;exact⟨rfl,Zb _ _⟩
 ·have hbl:(baL (s.data.toList.drop 2)).size<=2000000:=by rw[z9c,Zu];have:s.data.toList.length=s.size:=rfl;omega
  have HS:=hd_ (z9e (baL (s.data.toList.drop 2)) w he (by omega))
  have HP:=hd_ (z9d s ⟨#[47,47]⟩ (baL (s.data.toList.drop 2)) w h1 rfl);rw[z9b] at HS;have hmem:∀ p∈z1e (s.data.toList.drop 2),p.length<=2000000:=fun p hp=>by
   have:=(z1i hp).2;rw[z9c] at hbl;omega
  have hlen:(z1e (s.data.toList.drop 2)).length<=2000001:=by have:=z1k (s.data.toList.drop 2);rw[z9c] at hbl;omega
  have hno:¬(least<=(z1e (s.data.toList.drop 2)).length/\(z1e (s.data.toList.drop 2)).all z0y=true):=fun hc=>by
   unfold z2w at h;rw[if_pos ⟨h1,hc⟩] at h;cases h
  clear h h1;generalize z1e (s.data.toList.drop 2)=ps at HS hmem hlen hno;have HB:=hd_ (z0l w (z9a ps) 9);have HM:=hd_ hmem;have hbw:zB w (w.alloc (.cells (z9a ps).toArray 9)):=zR;clear hmem;by_cases h2:least<=ps.length
  ·have hd2:decide (ps.length<least)=false:=by simp;omega
   have hd3:decide ((ps.length:Int)<(least:Int))=false:=by simp;omega
   have hno':ps.all z0y=false:=by cases hh:ps.all z0y;rfl;exact absurd ⟨h2,hh⟩ hno
   have HN:=hd_ hno';clear hno hno';generalize w.alloc (.cells (z9a ps).toArray 9)=W at HS HB hbw;go_enter func203,ntmps203;go_wp2_with fail;refine HP.mono ?_;rintro e w' ⟨rfl,rfl⟩;go_wp2_with fail;refine HS.mono ?_;rintro e w' ⟨rfl,rfl⟩;go_wp2
   go_loop [26] (fun i=>∃ k:Nat,k<=ps.length/\i=zI k/\(ps.take k).all z0y=true) (fun i=>ps.length - (intOf i).toNat)
   exact⟨0,Zg _,rfl,rfl⟩
   obtain⟨k,hk,rfl,hall⟩:=hrel;have HA:=hd_ hall;clear hall;by_cases hlt:k<ps.length
   ·have hcell:=HB.out.strs k hlt;have hc2:=HM.out ps[k] (by simp)
    cases hc1:z0y ps[k]
    ·have hcs:z0z (baL ps[k])=false:=hc1;clear hc1;go_wp2_with (go_at_call 101;refine (z1d _ _ (by rw[z9c];unfold maxLen;omega)).mono ?_;rintro e w' ⟨rfl,rfl⟩)
     go_ret2;exact⟨rfl,hbw⟩
    ·have hcs:z0z (baL ps[k])=true:=hc1;have HC:=hd_ hc1;clear hc1;go_wp2_with (go_at_call 101;refine (z1d _ _ (by rw[z9c];unfold maxLen;omega)).mono ?_;rintro e w' ⟨rfl,rfl⟩)
     go_round
     exact⟨k+1,by omega,by go_num,z9g ps z0y k hlt HA HC⟩
     simp [intOf];omega
   ·have:=HA.out;rw[ZQ (by omega),HN.out] at this
    cases this
  ·have hd2:decide (ps.length<least)=true:=by simp;omega
   have hd3:decide ((ps.length:Int)<(least:Int))=true:=by simp;omega
   clear hno;generalize w.alloc (.cells (z9a ps).toArray 9)=W at HS HB hbw;go_enter func203,ntmps203;go_wp2_with fail;refine HP.mono ?_;rintro e w' ⟨rfl,rfl⟩;go_wp2_with fail;refine HS.mono ?_;rintro e w' ⟨rfl,rfl⟩;go_wp2
   go_ret2;exact⟨rfl,hbw⟩
theorem z9i (s:zA)(ps:List (List UInt8))(w:zW)(he:Env w)(hs:s.size<=2000000)(h:z2w s.data.toList 2=some ps):
  Calls prog 163 #[zS s] w fun e w'=>e=.returned (.tuple #[zL (some ⟨w.heap.size,0,none⟩) ps.length ps.length,zI 0])/\w.alloc (.cells (z9a ps).toArray 9)=w':=by
 have H:=hd_ (z9f s 2 ps w he hs (by omega) h)
 generalize w.alloc (.cells (z9a ps).toArray 9)=W at H |-;clear h he;go_enter func163,ntmps163;go_wp2_with fail;refine H.mono ?_;rintro e w' ⟨rfl,rfl⟩;go_wp2
 go_ret2;exact⟨rfl,rfl⟩
theorem z9j (s:zA)(w:zW)(he:Env w)(hs:s.size<=2000000)(h:z2w s.data.toList 2=none):
  Calls prog 163 #[zS s] w fun e w'=>e=.returned (.tuple #[zL none 0 0,zI 20])/\zB w w':=by
 have H:=hd_ (z9h s 2 w he hs h);clear h he;go_enter func163,ntmps163;go_wp2_with fail;refine H.mono ?_;rintro e w' ⟨rfl,hb⟩;go_wp2
 go_ret2;exact⟨rfl,hb⟩
def z9k (ps:List (List UInt8)):List UInt8:=[47,47]++Lib.join ps [47]
def z9l (w:zW)(bk o:Nat)(ps:List (List UInt8)):Prop:=∀ k (hk:k<ps.length),w.cell? ⟨bk,o+k,none⟩=some (zS (baL ps[k]))
theorem z9l.lt {w:zW}{bk o:Nat}{ps:List (List UInt8)}(h:z9l w bk o ps)(h0:0<ps.length):bk<w.heap.size:=z03 (h 0 h0)
theorem z9l.kw {w w':zW}{bk o:Nat}{ps:List (List UInt8)}(h:z9l w bk o ps)(hb:zB w w'):z9l w' bk o ps:=fun k hk=>z04 (h k hk) hb (z03 (h k hk))
theorem z9l.of_blk {w:zW}{g:Nat}{ps:List (List UInt8)}(h:Blk w g 9 (z9a ps)):z9l w g 0 ps:=fun k hk=>by rw[ZV];exact h.strs k hk
theorem z9m (ps:List (List UInt8))(j:Nat)(x:zA)(h:(ps.map baL)[j]? = some x):∃ hk:j<ps.length,x=baL ps[j]:=by
 rw[ZA] at h;rcases hj:ps[j]? with _ | p
 ·rw[hj] at h;cases h
 ·rw[hj] at h;obtain⟨hk,e⟩:=ZR.1 hj;exact⟨hk,by rw[e];simpa using h.symm⟩
theorem z9n (ps:List (List UInt8)):(ps.map baL).map (·.data.toList)=ps:=by
 rw[List.map_map];conv=>rhs;rw[<- List.map_id ps]
 exact List.map_congr_left fun p _=>z9b p
theorem z9o (ps:List (List UInt8))(bk o c:Nat)(w:zW)(hc:z9l w bk o ps)(h0:0<ps.length)(hcap:ps.length<=c)(hn:ps.length<=2000000)(hlen:(Lib.join ps [47]).length<=10000000000):
  Calls prog 111 #[zL (some ⟨bk,o,none⟩) ps.length c,zS ⟨#[47]⟩] w fun e w'=>e=.returned (zS (baL (Lib.join ps [47])))/\zB w w':=by
 have H:=Tryz.strings_Join bk o c (ps.map baL) ⟨#[47]⟩ w (fun j x hx=>by obtain⟨hk,rfl⟩:=z9m ps j x hx;exact hc j hk) (hc.lt h0) (by simp;omega) (by simpa using hcap)
  (by rw[z9n];show (Lib.join ps [47]).length<=_;omega)
 rw[z9n,Zk] at H;exact H
def letters:List UInt8:=[65,66,67,68,69,70,71,72,73,74,75,76,77,78,79,80,81,82,83,84,85,86,87,88,89,90,97,98,99,100,101,102,103,104,105,106,107,108,109,110,111,112,113,114,115,116,117,118,119,120,121,122,48,49,50,51,52,53,54,55,56,57,95,46,43,45]
theorem z9p:∀ n:Fin 256,decide (Lib.indexByte letters (UInt8.ofNat n.val)<0)=!z0x (n.val:Int):=by decide +kernel
theorem z9q (c:UInt8):decide (Lib.indexByte letters c<0)=!z0x c.toNat:=by
 have:=z9p ⟨c.toNat,c.toNat_lt⟩;simpa using this
theorem z9r (c:UInt8):((c.toNat:Int)).toNat.toUInt8=c:=by simp
theorem z9s (c:UInt8)(w:zW)(b:Bool)(h:z0x c.toNat=b):Calls prog 137 #[zS ⟨letters.toArray⟩,.int .u8 c.toNat] w fun e w'=>∃ n:Int,e=.returned (zI n)/\decide (n<0)=(!b)/\w=w':=by
 refine (Tryz.strings_IndexByte ⟨letters.toArray⟩ c.toNat w).mono ?_;rintro e w' ⟨rfl,rfl⟩;exact⟨_,rfl,by rw[z9r];show decide (Lib.indexByte letters c<0)=_;rw[z9q,h],rfl⟩
theorem z9t (s:zA)(w:zW)(hs:s.size<=maxLen):
  Calls prog 83 #[zS s] w fun e w'=>e=.returned (.bool (z0z s))/\w=w':=by
 unfold maxLen at hs;rcases ZU s.size with h0 | h0
 ·have hne:s.toList=[]:=by rw[ByteArray.toList_eq];exact Zt (by simpa using h0)
  have H0:=hd_ (z19 h0);clear h0;go_enter func83,ntmps83;go_wp2_with fail;go_ret;exact⟨z12 H0.symm,rfl⟩
 ·obtain⟨c,t,hd,hc⟩:=z18 h0;have hne:s.toList.isEmpty=false:=by rw[ByteArray.toList_eq,hd];rfl
  have hne2:¬ s.toList=[]:=by rw[ByteArray.toList_eq,hd];simp
  have HD:=hd_ hd;by_cases hc46:c=46
  ·have h46:((s[0].toNat:Int) == 46)=true:=by rw[hc,hc46];rfl
   clear hd hc;go_enter func83,ntmps83;go_wp2_with fail;go_ret;exact⟨z12 (z1a HD hc46).symm,rfl⟩
  ·have h46:((s[0].toNat:Int) == 46)=false:=by
    rw[hc,beq_eq_false_iff_ne];intro h;exact hc46 (UInt8.toNat.inj (show c.toNat=46 by omega))
   have HE:=hd_ (z1b HD hc46);clear hd hc HD hc46;go_enter func83,ntmps83;go_wp2_with fail;clear h46;go_loop [3] (fun i=>∃ k:Nat,k<=s.size/\i=zI k/\(s.data.toList.take k).all (fun c=>z0x c.toNat)=true) (fun i=>s.size - (intOf i).toNat)
   exact⟨0,Zg _,rfl,rfl⟩
   obtain⟨k,hk,rfl,hall⟩:=hrel;have HA:=hd_ hall;clear hall;by_cases hlt:k<s.size
   ·cases hl:z0x s[k].toNat
    ·have HL:=hd_ hl;clear hl;go_wp2_with fail;refine (z9s s[k] _ _ HL).mono ?_;rintro e w' ⟨n,rfl,hn,rfl⟩;have hn':decide (n<0)=true:=hn;clear hn;go_wp2
     go_ret;exact⟨z12 (z1c (z16 s (fun c=>z0x c.toNat) k hlt HL)).symm,rfl⟩
    ·have HL:=hd_ hl;clear hl;go_wp2_with fail;refine (z9s s[k] _ _ HL).mono ?_;rintro e w' ⟨n,rfl,hn,rfl⟩;have hn':decide (n<0)=false:=hn;clear hn;go_wp2
     go_round
     exact⟨k+1,by omega,by go_num,z15 s (fun c=>z0x c.toNat) k hlt HA HL⟩
     simp [intOf];omega
   ·go_wp2_with fail;go_ret;exact⟨z12 (by rw[HE.out,z17 s _ k hlt HA.out]),rfl⟩
theorem z9u {l:List UInt8}{ps:List (List UInt8)}(h:z2w l 1=some ps):Lib.hasPrefix l [47,47]=true/\ps=z1e (l.drop 2)/\ps.all z0y=true:=by
 unfold z2w at h;split at h
 ·rename_i hc;injection h with h;subst h;exact⟨hc.1,rfl,hc.2.2⟩
 ·cases h
theorem z9v {l:List UInt8}(h:z2w l 1=none)(h1:Lib.hasPrefix l [47,47]=true):(z1e (l.drop 2)).all z0y=false:=by
 unfold z2w at h;split at h
 ·cases h
 ·rename_i hc
  cases hh:(z1e (l.drop 2)).all z0y
  ·rfl
  ·exact absurd ⟨h1,by have:=z1f (l.drop 2);cases hs:z1e (l.drop 2) <;> simp_all,hh⟩ hc
theorem z9w {s:zA}(h:Lib.hasPrefix s.data.toList [47,47]=true):2<=s.size:=by
 have:s.data.toList.length=s.size:=rfl;rw[<- this];cases hl:s.data.toList with
 | nil=>rw[hl] at h;cases h
 | cons a l=>cases l with
  | nil=>rw[hl] at h;unfold Lib.hasPrefix at h;simp at h
  | cons b l=>simp
theorem hasPR (s p:zA)(w:zW)(b:Bool)(h:Lib.hasPrefix s.data.toList p.data.toList=b):Calls prog 100 #[zS s,zS p] w fun e w'=>e=.returned (.bool b)/\w=w':=by
 refine (Tryz.strings_HasPrefix s p w).mono ?_;rintro e w' ⟨rfl,rfl⟩;exact⟨by rw[h],rfl⟩
theorem ext_eq (s:zA)(k:Nat):s.extract k s.size=baL (s.data.toList.drop k):=z1s (by
 rw[z9b];exact Lib.extract_to_end s k)
theorem z9x (s:zA)(k:Nat)(w:zW)(he:Env w)(hs:s.size<=2000000):
  Calls prog 202 #[zS (s.extract k s.size),zS ⟨#[47]⟩] w fun e w' =>
   e=.returned (zL (some ⟨w.heap.size,0,none⟩) (z1e (s.data.toList.drop k)).length (z1e (s.data.toList.drop k)).length)/\w.alloc (.cells (z9a (z1e (s.data.toList.drop k))).toArray 9)=w':=by
 rw[ext_eq];exact z9e (baL (s.data.toList.drop k)) w he (by rw[z9c,Zu];have:s.data.toList.length=s.size:=rfl;omega)
theorem z9y (s:zA)(k:Nat)(hs:s.size<=2000000):(z1e (s.data.toList.drop k)).length<=2000001/\∀ p∈z1e (s.data.toList.drop k),p.length<=2000000:=by
 have h1:=z1k (s.data.toList.drop k);have hl:(s.data.toList.drop k).length<=2000000:=by rw[Zu];have:s.data.toList.length=s.size:=rfl;omega
 exact⟨by omega,fun p hp=>by have:=(z1i hp).2;omega⟩
theorem z9z (s:zA)(ps:List (List UInt8))(w:zW)(he:Env w)(hs:s.size<=2000000)(h:z2w s.data.toList 1=some ps):
  Calls prog 208 #[zS s] w fun e w'=>e=.returned (.tuple #[zL (some ⟨w.heap.size,0,none⟩) ps.length ps.length,.bool true])/\w.alloc (.cells (z9a ps).toArray 9)=w':=by
 obtain⟨h1,rfl,h3⟩:=z9u h;have h2:=z9w h1;have HP:=hd_ (hasPR s ⟨#[47,47]⟩ w true h1);obtain⟨hb1,hb2⟩:=z9y s 2 hs;have HS:=hd_ (z9x s 2 w he hs);clear h h1;generalize z1e (s.data.toList.drop 2)=ps at *;have HB:=hd_ (z0l w (z9a ps) 9);have HM:=hd_ hb2;have HA:=hd_ h3;clear hb2 h3;generalize w.alloc (.cells (z9a ps).toArray 9)=W at HS HB |-;go_enter func208,ntmps208;go_wp2_with fail;refine HP.mono ?_;rintro e w' ⟨rfl,rfl⟩;go_wp2_with fail;refine HS.mono ?_;rintro e w' ⟨rfl,rfl⟩;go_wp2_with fail;go_loop [15] (fun i=>∃ k:Nat,k<=ps.length/\i=zI k) (fun i=>ps.length - (intOf i).toNat)
 exact⟨0,Zg _,rfl⟩
 obtain⟨k,hk,rfl⟩:=hrel;by_cases hlt:k<ps.length
 ·have hcell:=HB.out.strs k hlt;have hc2:=HM.out ps[k] (by simp)
  have hcs:z0z (baL ps[k])=true:=ZB.1 HA _ (Za hlt);go_wp2_with (go_at_call 83;refine (z9t _ _ (by rw[z9c];unfold maxLen;omega)).mono ?_;rintro e w' ⟨rfl,rfl⟩)
  go_round
  exact⟨k+1,by omega,by go_num⟩
  simp [intOf];omega
 ·go_wp2
  go_ret2;exact⟨rfl,rfl⟩
theorem za0 (s:zA)(w:zW)(he:Env w)(hs:s.size<=2000000)(h:z2w s.data.toList 1=none):
  Calls prog 208 #[zS s] w fun e w'=>e=.returned (.tuple #[zL none 0 0,.bool false])/\zB w w':=by
 cases h1:Lib.hasPrefix s.data.toList [47,47]
 ·have HP:=hd_ (hasPR s ⟨#[47,47]⟩ w false h1);clear h h1;go_enter func208,ntmps208;go_wp2_with fail;refine HP.mono ?_;rintro e w' ⟨rfl,rfl⟩;go_wp2
  go_ret2;exact⟨rfl,Zb _ _⟩
 ·have h2:=z9w h1;have HP:=hd_ (hasPR s ⟨#[47,47]⟩ w true h1);have HN:=hd_ (z9v h h1);obtain⟨hb1,hb2⟩:=z9y s 2 hs;have HS:=hd_ (z9x s 2 w he hs);clear h h1;generalize z1e (s.data.toList.drop 2)=ps at *;have HB:=hd_ (z0l w (z9a ps) 9);have HM:=hd_ hb2;have hbw:zB w (w.alloc (.cells (z9a ps).toArray 9)):=zR;clear hb2;generalize w.alloc (.cells (z9a ps).toArray 9)=W at HS HB hbw |-;go_enter func208,ntmps208;go_wp2_with fail;refine HP.mono ?_;rintro e w' ⟨rfl,rfl⟩;go_wp2_with fail;refine HS.mono ?_;rintro e w' ⟨rfl,rfl⟩;go_wp2_with fail;go_loop [15] (fun i=>∃ k:Nat,k<=ps.length/\i=zI k/\(ps.take k).all z0y=true) (fun i=>ps.length - (intOf i).toNat)
  exact⟨0,Zg _,rfl,rfl⟩
  obtain⟨k,hk,rfl,hall⟩:=hrel;have HA:=hd_ hall;clear hall;by_cases hlt:k<ps.length
  ·have hcell:=HB.out.strs k hlt;have hc2:=HM.out ps[k] (by simp)
   cases hc1:z0y ps[k]
   ·have hcs:z0z (baL ps[k])=false:=hc1;clear hc1;go_wp2_with (go_at_call 83;refine (z9t _ _ (by rw[z9c];unfold maxLen;omega)).mono ?_;rintro e w' ⟨rfl,rfl⟩)
    go_ret2;exact⟨rfl,hbw⟩
   ·have hcs:z0z (baL ps[k])=true:=hc1;have HD:=hd_ hc1;clear hc1;go_wp2_with (go_at_call 83;refine (z9t _ _ (by rw[z9c];unfold maxLen;omega)).mono ?_;rintro e w' ⟨rfl,rfl⟩)
    go_round
    exact⟨k+1,by omega,by go_num,z9g ps z0y k hlt HA HD⟩
    simp [intOf];omega
  ·have:=HA.out;rw[ZQ (by omega),HN.out] at this
   cases this
theorem dir_two {l:List UInt8}{ps:List (List UInt8)}(h:z2w l 2=some ps):z2w l 1=some ps/\2<=ps.length:=by
 unfold z2w at h |-
 split at h
 ·rename_i hc
  injection h with h
  subst h;exact⟨if_pos ⟨hc.1,by omega,hc.2.2⟩,hc.2.1⟩
 ·cases h
theorem za1 {l:List UInt8}{ps:List (List UInt8)}(h:z2w l 2=none)(h1:z2w l 1=some ps):ps.length<2:=by
 obtain⟨a,rfl,c⟩:=z9u h1;unfold z2w at h;split at h
 ·cases h
 ·rename_i hc
  exact Nat.lt_of_not_le fun hh=>hc ⟨a,hh,c⟩
theorem za2 (s:zA)(ps:List (List UInt8))(w:zW)(he:Env w)(hs:s.size<=2000000)(h:z2w s.data.toList 2=some ps):
  Calls prog 171 #[zS s] w fun e w'=>e=.returned (.tuple #[zL (some ⟨w.heap.size,0,none⟩) ps.length ps.length,.bool true])/\w.alloc (.cells (z9a ps).toArray 9)=w':=by
 obtain⟨h1,h2⟩:=dir_two h;have H:=hd_ (z9z s ps w he hs h1);clear h h1 he;have hd:decide ((ps.length:Int)<2)=false:=by simp;omega
 generalize w.alloc (.cells (z9a ps).toArray 9)=W at H |-;go_enter func171,ntmps171;go_wp2_with fail;refine H.mono ?_;rintro e w' ⟨rfl,rfl⟩;go_wp2
 go_ret2;exact⟨rfl,rfl⟩
theorem za3 (s:zA)(w:zW)(he:Env w)(hs:s.size<=2000000)(h:z2w s.data.toList 2=none):
  Calls prog 171 #[zS s] w fun e w'=>e=.returned (.tuple #[zL none 0 0,.bool false])/\zB w w':=by
 cases h1:z2w s.data.toList 1 with
 | none =>
  have H:=hd_ (za0 s w he hs h1);clear h h1 he;go_enter func171,ntmps171;go_wp2_with fail;refine H.mono ?_;rintro e w' ⟨rfl,hb⟩;go_wp2
  go_ret2;exact⟨rfl,hb⟩
 | some ps =>
  have h2:=za1 h h1;have H:=hd_ (z9z s ps w he hs h1);have hd:decide ((ps.length:Int)<2)=true:=by simp;omega
  have hbw:zB w (w.alloc (.cells (z9a ps).toArray 9)):=zR;clear h h1 he;generalize w.alloc (.cells (z9a ps).toArray 9)=W at H hbw;go_enter func171,ntmps171;go_wp2_with fail;refine H.mono ?_;rintro e w' ⟨rfl,rfl⟩;go_wp2
  go_ret2;exact⟨rfl,hbw⟩
theorem za4 (ps:List (List UInt8))(bk o c:Nat)(w:zW)(hc:z9l w bk o ps)(h0:0<ps.length)(hcap:ps.length<=c)(hn:ps.length<=2000000)(hlen:(Lib.join ps [47]).length<=10000000000):
  Calls prog 207 #[zL (some ⟨bk,o,none⟩) ps.length c] w fun e w'=>e=.returned (zS (baL (z9k ps)))/\zB w w':=by
 have HJ:=hd_ (z9o ps bk o c w hc h0 hcap hn hlen);clear hc;go_enter func207,ntmps207;go_wp2_with fail;refine HJ.mono ?_;rintro e w' ⟨rfl,hb⟩;have hsz:(baL (Lib.join ps [47])).size<=10000000000:=by rw[z9c];exact hlen
 go_wp2
 go_ret;exact⟨congrArg (fun s=>Ending.returned (zS s)) (z1s rfl),hb⟩
