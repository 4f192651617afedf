/- A part of the proof. -/
import Derived.Test.YtegeboijhifmcaaGreatDoorMgs17
import Derived.Test.YtegeboijhifmcaaGreatDoorMgs16
set_option linter.unusedVariables false
set_option linter.unusedSimpArgs false
set_option maxHeartbeats 4000000
set_option maxRecDepth 100000
namespace Go.Proofs.YtegeboijhifmcaaGreatDoor
open Go.Proofs.Tryz
open Go.RowKit
section
variable {hs ws : List Hav} {op dt : List ByteArray}
theorem z6m {α β:Type}{f g:α→Option β}:∀ {l:List α},(∀ x∈l,f x=g x)→l.filterMap f=l.filterMap g
 | [],_=>rfl
 | a :: l,h=>by
  rw[List.filterMap_cons,List.filterMap_cons,h a (List.mem_cons_self ..),z6m fun x hx=>h x (List.mem_cons_of_mem _ hx)]
end
def zc2 (l r:Pat)(s:ByteArray):Option ByteArray:=(z8e l s).map (zbu r)
def zc3 (w:World)(o:Option ByteArray)(e:Ending)(w':World):Prop:=e=.returned (.tuple #[.string (o.getD ⟨#[]⟩),.bool o.isSome])∧Below w.heap.size w w'
theorem zc4 (l r:Pat)(s:ByteArray)(A B:Option Addr)(a b:Nat)(w:World)(he:Env w)(hs:s.size≤1000000)(hl:za9 w (.slice A l.parts.length a) l)(hr:za9 w (.slice B r.parts.length b) r)(hf:∀ caps,z8e l s=some caps→zbv r caps):
  Calls prog 85 #[.agg #[.slice A l.parts.length a,.bool l.rest],.agg #[.slice B r.parts.length b,.bool r.rest],.string s] w (zc3 w (zc2 l r s)):=by
 have hA:Below w.heap.size w ((w.alloc (.cells #[.slice A l.parts.length a,.bool l.rest] 97)).alloc (.cells #[.slice B r.parts.length b,.bool r.rest] 97)):=((Below.refl _ _).alloc (Nat.le_refl _) _).alloc (by simp) _
 have h2:zbo ((w.alloc (.cells #[.slice A l.parts.length a,.bool l.rest] 97)).alloc (.cells #[.slice B r.parts.length b,.bool r.rest] 97)) w.heap.size (.slice A l.parts.length a) l.rest:=(z0l w [.slice A l.parts.length a,.bool l.rest] 97).alloc _;have h3:zbo ((w.alloc (.cells #[.slice A l.parts.length a,.bool l.rest] 97)).alloc (.cells #[.slice B r.parts.length b,.bool r.rest] 97)) (w.heap.size+1) (.slice B r.parts.length b) r.rest:=by
  have:=z0l (w.alloc (.cells #[.slice A l.parts.length a,.bool l.rest] 97)) [.slice B r.parts.length b,.bool r.rest] 97;rw[World.size_alloc] at this;exact this
 have HM:=hd_ (fun X (hX:Below w.heap.size w X)=>zbk l s A a X (he.below hX) hs (hl.below hX).1 hl.small);have HFI:=hd_ (fun X (hX:Below w.heap.size w X) caps cv (hc:Strs X cv caps) (h:z8e l s=some caps)=>fill_ok r caps B b cv X (he.below hX) (hr.below hX) hc (hf caps h));have HT:Hid (zc2 l r s=(z8e l s).map (zbu r)):=hd_ rfl;clear he hl hr hf;go_enter func85,ntmps85;go_upto_region 1 with fail;generalize (w.alloc (.cells #[.slice A l.parts.length a,.bool l.rest] 97)).alloc (.cells #[.slice B r.parts.length b,.bool r.rest] 97)=W1 at hA h2 h3 ⊢;have x0:=h2.c0;have x1:=h2.c1;have HA:=hd_ hA;have H3:=hd_ h3;have HM1:=hd_ (HM.out W1 hA);clear h2 h3 hA HM;go_wp2_with fail;refine HM1.out.mono ?_;rintro e w2 ⟨A',n,c,rfl,hb,hm⟩;have HB:=hd_ (z0r HA.out hb);have h3:=H3.out.low hb;have y0:=h3.c0;have y1:=h3.c1;clear x0 x1 hb h3 HM1;obtain⟨o,ho⟩:∃ o,z8e l s=o:=⟨_,rfl⟩;have HO:=hd_ ho;rw[ho] at HT hm ⊢;clear ho;cases o with
 | none =>
  have HR:Hid (zc2 l r s=none):=hd_ (by rw[HT.out];rfl)
  clear hm HT;go_wp2_with fail;go_ret2;exact⟨by rw[HR.out];rfl,HB.out⟩
 | some caps =>
  have HR:Hid (zc2 l r s=some (zbu r caps)):=hd_ (by rw[HT.out];rfl)
  obtain⟨rfl,hcs⟩:=hm caps rfl;have HC:=hd_ (HFI.out w2 HB.out caps _ hcs HO.out);generalize zbu r caps=tx at HC HR;clear hm hcs HT HFI;go_wp2_with fail;refine HC.out.mono ?_;rintro e w3 ⟨rfl,hb⟩;have HB3:=hd_ (z0r HB.out hb);clear hb y0 y1;go_wp2_with fail;go_ret2;exact⟨by rw[HR.out];rfl,HB3.out⟩
theorem zc5 (ex:Bool)(l r:Pat)(s:ByteArray)(A B:Option Addr)(a b:Nat)(w:World)(he:Env w)(hs:s.size≤1000000)(hl:za9 w (.slice A l.parts.length a) l)(hr:za9 w (.slice B r.parts.length b) r)(h0:za8 l r=0)(hf:∀ caps,z8e l s=some caps→zbv r caps):
  Calls prog 55 #[.agg #[.bool ex,.slice A l.parts.length a,.bool l.rest,.slice B r.parts.length b,.bool r.rest],.string s] w (zc3 w (zc2 l r s)):=by
 have hB:=z0l w [.bool ex,.slice A l.parts.length a,.bool l.rest,.slice B r.parts.length b,.bool r.rest] 119;have hA:Below w.heap.size w (w.alloc (.cells #[.bool ex,.slice A l.parts.length a,.bool l.rest,.slice B r.parts.length b,.bool r.rest] 119)):=(Below.refl _ _).alloc (Nat.le_refl _) _;have HC:=hd_ (fun X (hX:Below w.heap.size w X)=>zaa ex l r A B a b X (hl.below hX) (hr.below hX));rw[h0] at HC;have HT:=hd_ (fun X (hX:Below w.heap.size w X)=>zc4 l r s A B a b X (he.below hX) hs (hl.below hX) (hr.below hX) hf);clear he hl hr hf h0;generalize zc2 l r s=o at HT ⊢;go_enter func55,ntmps55;go_upto_region 1 with fail;generalize w.alloc (.cells #[.bool ex,.slice A l.parts.length a,.bool l.rest,.slice B r.parts.length b,.bool r.rest] 119)=W1 at hA hB ⊢;obtain⟨d0,d1,d2,d3,d4⟩:=(⟨hB.cell 0,hB.cell 1,hB.cell 2,hB.cell 3,hB.cell 4⟩:W1.cell? ⟨w.heap.size,0,none⟩=some (.bool ex)∧W1.cell? ⟨w.heap.size,1,none⟩=some (.slice A l.parts.length a)∧W1.cell? ⟨w.heap.size,2,none⟩=some (.bool l.rest)∧W1.cell? ⟨w.heap.size,3,none⟩=some (.slice B r.parts.length b)∧W1.cell? ⟨w.heap.size,4,none⟩=some (.bool r.rest));have HB:=hd_ hB;have HA:=hd_ hA;have HC1:=hd_ (HC.out W1 hA);clear hA hB HC;go_wp2_with fail;refine HC1.out.mono ?_;rintro e w2 ⟨rfl,hb⟩;have hB2:=HB.out.below hb HB.out.lt;have HB2:=hd_ (z0r HA.out hb);have HT2:=hd_ (HT.out w2 HB2.out);clear hb d0 d1 d2 d3 d4 HC1 HT;obtain⟨d1,d2,d3,d4⟩:=(⟨hB2.cell 1,hB2.cell 2,hB2.cell 3,hB2.cell 4⟩:w2.cell? ⟨w.heap.size,1,none⟩=some (.slice A l.parts.length a)∧w2.cell? ⟨w.heap.size,2,none⟩=some (.bool l.rest)∧w2.cell? ⟨w.heap.size,3,none⟩=some (.slice B r.parts.length b)∧w2.cell? ⟨w.heap.size,4,none⟩=some (.bool r.rest));clear hB2;go_wp2_with fail;refine HT2.out.mono ?_;rintro e w3 ⟨rfl,hb⟩;have HB3:=hd_ (z0r HB2.out hb);clear hb d1 d2 d3 d4;go_wp2_with fail;go_ret2;exact⟨rfl,HB3.out⟩
theorem zdh (p q:Pat)(A B:Option Addr)(a b:Nat)(hv hu:Value)(w:World)(hp:za9 w (.slice A p.parts.length a) p)(hq:za9 w (.slice B q.parts.length b) q)(hm:zai p q=none):
  Calls prog 66 #[.agg #[.slice A p.parts.length a,.bool p.rest,hv],.agg #[.slice B q.parts.length b,.bool q.rest,hu]] w fun e w'=>e=.returned (.bool false)∧Below w.heap.size w w':=by
 obtain⟨W1,hW1⟩:∃ W,W=(w.alloc (.cells #[.slice A p.parts.length a,.bool p.rest,hv] 115)).alloc (.cells #[.slice B q.parts.length b,.bool q.rest,hu] 115):=⟨_,rfl⟩;have hA:Below w.heap.size w W1:=by rw[hW1];exact ((Below.refl _ _).alloc (Nat.le_refl _) _).alloc (by simp) _
 have h2:Blk W1 w.heap.size 115 [.slice A p.parts.length a,.bool p.rest,hv]:=by rw[hW1];exact (z0l w _ _).alloc _
 have h3:Blk W1 (w.heap.size+1) 115 [.slice B q.parts.length b,.bool q.rest,hu]:=by
  rw[hW1];have:=z0l (w.alloc (.cells #[.slice A p.parts.length a,.bool p.rest,hv] 115)) [.slice B q.parts.length b,.bool q.rest,hu] 115;simp only[World.size_alloc] at this
  exact this
 have HME:=hd_ (zbr p q A B a b W1 (hp.below hA) (hq.below hA));have HM:=hd_ hm;have HA:=hd_ hA;have HW1:=hd_ hW1;obtain⟨x0,x1⟩:=(⟨h2.cell 0,h2.cell 1⟩:W1.cell? ⟨w.heap.size,0,none⟩=some (.slice A p.parts.length a)∧W1.cell? ⟨w.heap.size,1,none⟩=some (.bool p.rest));obtain⟨y0,y1⟩:=(⟨h3.cell 0,h3.cell 1⟩:W1.cell? ⟨w.heap.size+1,0,none⟩=some (.slice B q.parts.length b)∧W1.cell? ⟨w.heap.size+1,1,none⟩=some (.bool q.rest));clear hp hq hm hA hW1 h2 h3;go_enter func66,ntmps66;go_upto_region 1 with fail;rw[← HW1.out];go_wp2_with fail;refine HME.out.mono ?_;rintro e w4 ⟨hb,⟨-,rfl⟩ | ⟨m',A6,c6,hmm,-⟩⟩
 case inr=>rw[HM.out] at hmm;cases hmm
 have HB:=hd_ (z0r HA.out hb);have hX:Below w4.heap.size w4 (w4.alloc (.cells #[.slice none 0 0,.bool false] 97)):=(Below.refl _ _).alloc (Nat.le_refl _) _;have HB5:=hd_ (z0r HB.out hX);clear x0 x1 y0 y1 hb hX;go_upto_region 2 with fail;generalize w4.alloc (.cells #[.slice none 0 0,.bool false] 97)=W5 at HB5 ⊢;go_quiet (fail)
 go_wp2_with fail;go_ret;exact⟨rfl,HB5.out.trans ((zqq W5 _).mono HB5.out.size)⟩
def zff:List ByteArray:=[⟨#[47,47,100,47,97]⟩,⟨#[47,47,100,47,97,47,97]⟩,⟨#[47,47,100,47,98]⟩,⟨#[47,47,100,47,120,47,97]⟩,⟨#[47,47,100,47,120,47,98]⟩,⟨#[47,47,101,47,97]⟩]
theorem zfg:z5x (fun q:ByteArray=>q) zff:=by
 unfold z5x zff;simp only[List.pairwise_cons,List.mem_cons,List.not_mem_nil,or_false,forall_eq_or_imp,forall_eq]
 refine⟨⟨?_,?_,?_,?_,?_⟩,⟨?_,?_,?_,?_⟩,⟨?_,?_,?_⟩,⟨?_,?_⟩,?_,?_⟩ <;> first | decide +kernel | (intro a ha;cases ha) | exact⟨fun a h=>(by cases h),List.Pairwise.nil⟩
theorem zfh:∀ p∈zff,z3q p=true:=by decide +kernel
structure zfi (f:ByteArray→Option ByteArray):Prop where
 path:∀ p∈zff,∀ l,f p=some l→z3q l=true
 inj:∀ p∈zff,∀ q∈zff,∀ l,f p=some l→f q=some l→p=q
def zfj (D:List Rev)(f:ByteArray→Option ByteArray)(m:Int)(p:ByteArray):Option Hav:=
 match z30 D p (fun v:Rev=>decide (v.chg≤m)) with
 | none=>none
 | some r=>if z2v r.act then (f p).map (fun l=>⟨p,r.num,l⟩) else none
def zfk (D:List Rev)(f:ByteArray→Option ByteArray)(m:Int):List Hav:=zff.filterMap (zfj D f m)
theorem zfl {D:List Rev}{p:ByteArray}{t:Rev→Bool}{r:Rev}(h:z30 D p t=some r):r∈D∧r.path=p∧t r=true:=by
 unfold z30 at h;suffices H:∀(l:List Rev) (o:Option Rev),(∀ x,o=some x→x∈D∧x.path=p∧t x=true)→(∀ x∈l,x∈D)→∀ r,l.foldl (fun o r=>if r.path=p∧t r=true then (match o with | none=>some r | some b=>if b.num<r.num then some r else some b) else o) o=some r→r∈D∧r.path=p∧t r=true from
  H D none (fun x e=>by cases e) (fun x hx=>hx) r h
 intro l;induction l with
 | nil=>intro o ho _ r hr;exact ho r hr
 | cons a l ih =>
  intro o ho hl r hr;rw[List.foldl_cons] at hr;refine ih _ (fun x hx=>?_) (fun x hx=>hl x (List.mem_cons_of_mem _ hx)) r hr;split at hx
  ·rename_i hc
   have ha:a∈D∧a.path=p∧t a=true:=⟨hl a (List.mem_cons_self ..),hc.1,hc.2⟩;cases o with
   | none=>rw[← Option.some.inj hx];exact ha
   | some b =>
    simp only at hx
    split at hx
    ·rw[← Option.some.inj hx];exact ha
    ·rw[← Option.some.inj hx];exact ho b rfl
  ·exact ho x hx
theorem zfm {D:List Rev}{f:ByteArray→Option ByteArray}{m:Int}{p:ByteArray}{h:Hav}(e:zfj D f m p=some h):h.path=p∧f p=some h.loc∧∃ r∈D,r.path=p∧r.num=h.num∧z30 D p (fun v:Rev=>decide (v.chg≤m))=some r∧z2v r.act=true:=by
 unfold zfj at e;cases hg:z30 D p (fun v:Rev=>decide (v.chg≤m)) with
 | none=>rw[hg] at e;cases e
 | some r =>
  rw[hg] at e;simp only at e
  cases hl:z2v r.act with
  | false=>rw[hl] at e;cases e
  | true =>
   rw[hl,if_pos rfl,Option.map_eq_some_iff] at e;obtain⟨l,e1,e2⟩:=e;subst e2;obtain⟨m1,m2,-⟩:=zfl hg;exact⟨rfl,e1,r,m1,m2,rfl,rfl,hl⟩
theorem zfn {D:List Rev}{f:ByteArray→Option ByteArray}{m:Int}(hn:∀ r∈D,1≤r.num)(hf:zfi f):zf0 (zfk D f m):=by
 have hm:∀ x∈zfk D f m,∃ p∈zff,zfj D f m p=some x:=fun x hx=>List.mem_filterMap.1 hx;refine⟨?_,fun x hx=>?_,fun x hx y hy e=>?_⟩
 ·unfold zfk;have:∀ qs:List ByteArray,z5x (fun q:ByteArray=>q) qs→z6b (qs.filterMap (zfj D f m)):=by
   intro qs;induction qs with
   | nil=>intro _;exact List.Pairwise.nil
   | cons q qs ih =>
    intro hq;rw[List.filterMap_cons];split
    ·exact ih hq.tail
    ·rename_i x hx
     refine List.pairwise_cons.2 ⟨fun b hb=>?_,ih hq.tail⟩;obtain⟨p,hp,e⟩:=List.mem_filterMap.1 hb;rw[(zfm hx).1,(zfm e).1];exact hq.head p hp
  exact this _ zfg
 ·obtain⟨p,hp,e⟩:=hm x hx;obtain⟨e1,e2,r,r1,r2,r3,-⟩:=zfm e;unfold Hav.okB;rw[e1,zfh p hp,hf.path p hp _ e2];have:=hn r r1;simp
  omega
 ·obtain⟨p,hp,e1⟩:=hm x hx;obtain⟨q,hq,e2⟩:=hm y hy;obtain⟨a1,a2,-⟩:=zfm e1;obtain⟨b1,b2,-⟩:=zfm e2;rw[a1,b1];rw[e] at a2;exact hf.inj p hp q hq _ a2 b2
theorem zfo {D:List Rev}{f:ByteArray→Option ByteArray}{m:Int}:∀ x∈zfk D f m,x.path∈zff:=fun x hx=>by
 obtain⟨p,hp,e⟩:=List.mem_filterMap.1 hx;rw[(zfm e).1];exact hp
theorem zfp {D:List Rev}{f:ByteArray→Option ByteArray}{m:Int}:(zfk D f m).length≤6:=by
 unfold zfk;exact Nat.le_trans (List.length_filterMap_le ..) (by decide)
def c_ (t:List UInt8):ByteArray:=⟨([47,47,99,47]++t).toArray⟩
def w_ (t:List UInt8):ByteArray:=⟨([47,47,119,47]++t).toArray⟩
def fwdT:Nat→List (Option ByteArray)
 | 0=>[some (c_ [97]),some (c_ [97,47,97]),some (c_ [98]),some (c_ [120,47,97]),some (c_ [120,47,98]),none]
 | 1=>[some (c_ [97]),some (c_ [97,47,97]),some (c_ [98]),none,none,none]
 | 2=>[none,none,none,some (c_ [97]),some (c_ [98]),some (w_ [97])]
 | 3=>[some (c_ [98]),none,some (c_ [97]),some (c_ [120,47,97]),some (c_ [120,47,98]),none]
 | 4=>[some (c_ [97]),none,some (c_ [98]),none,none,some (c_ [101])]
 | 5=>[none,some (w_ [97,47,122]),none,some (w_ [120,47,122]),none,some (c_ [97])]
 | 6=>[some (c_ [97]),some (c_ [97,47,97]),some (c_ [98]),some (c_ [120,47,97]),some (c_ [120,47,98]),some (w_ [97])]
 | _=>[none,none,none,none,none,none]
def zfq (k:Nat)(p:ByteArray):Option ByteArray:=((zff.zip (fwdT k)).find? (fun x=>decide (x.1=p))).bind (·.2)
theorem zfr (k:Nat):zfi (zfq k):=by
 have h:∀ k<8,(∀ p∈zff,∀ l,zfq k p=some l→z3q l=true)∧∀ p∈zff,∀ q∈zff,(zfq k p).isSome=true→zfq k p=zfq k q→p=q:=by
  have a:∀ k<8,∀ p∈zff,((zfq k p).map z3q).getD true=true:=by decide +kernel
  have b:∀ k<8,∀ p∈zff,∀ q∈zff,(zfq k p).isSome=true→zfq k p=zfq k q→p=q:=by decide +kernel
  exact fun k hk=>⟨fun p hp l e=>by have:=a k hk p hp;rw[e] at this;exact this,b k hk⟩
 by_cases hk:k<8
 ·exact⟨(h k hk).1,fun p hp q hq l e1 e2=>(h k hk).2 p hp q hq (by rw[e1];rfl) (e1.trans e2.symm)⟩
 ·have e:fwdT k=fwdT 7:=by
   match k,hk with
   | k+8,_=>rfl
   | 0,hk=>exact absurd (by decide) hk
   | 1,hk=>exact absurd (by decide) hk
   | 2,hk=>exact absurd (by decide) hk
   | 3,hk=>exact absurd (by decide) hk
   | 4,hk=>exact absurd (by decide) hk
   | 5,hk=>exact absurd (by decide) hk
   | 6,hk=>exact absurd (by decide) hk
   | 7,hk=>exact absurd (by decide) hk
  have e2:zfq k=zfq 7:=by funext p;unfold zfq;rw[e]
  rw[e2];exact⟨(h 7 (by decide)).1,fun p hp q hq l e1 e2=>(h 7 (by decide)).2 p hp q hq (by rw[e1];rfl) (e1.trans e2.symm)⟩
theorem ret_i {k:IntKind}{a b:Int}(h:a=b):Ending.returned (.int k a)=.returned (.int k b):=by rw[h]
theorem zi3 (b:Int)(k l x:Bool)(w:World):
  Calls prog 176 #[.agg #[.int .i64 b,.bool k,.bool l,.bool x]] w fun e w'=>e=.returned (.int .i64 (z2k 90 (z2j b k x)))∧Below w.heap.size w w':=by
 by_cases h0:1≤b∧b≤3
 ·have hb:b=1∨b=2∨b=3:=by omega
  rcases hb with rfl | rfl | rfl <;> cases k <;> cases x
  all_goals
   go_enter func176,ntmps176;go_wp2
   go_ret;exact⟨rfl,(Below.refl _ _).alloc (Nat.le_refl _) _⟩
 ·have H:Hid (z2j b k x=false):=hd_ (by
   unfold z2j;have h1:(b == 1)=false:=by rw[beq_eq_false_iff_ne];omega
   have h2:(b == 2)=false:=by rw[beq_eq_false_iff_ne];omega
   have h3:(b == 3)=false:=by rw[beq_eq_false_iff_ne];omega
   simp [h1,h2,h3])
  by_cases hb:b<1
  ·clear h0;go_enter func176,ntmps176;go_wp2
   go_ret;exact⟨ret_i (by rw[H.out];rfl),(Below.refl _ _).alloc (Nat.le_refl _) _⟩
  ·have hb3:3<b:=by omega
   clear h0;go_enter func176,ntmps176;go_wp2
   go_ret;exact⟨ret_i (by rw[H.out];rfl),(Below.refl _ _).alloc (Nat.le_refl _) _⟩
variable {f : ByteArray → Option Rev} {b : ByteArray} {x : Edt}
open Go.Sort (grow)
theorem z6t.grown_own {S:List Nat}{w W w':World}{row:Option Nat}(h:z6t S w W)(hg:W.grownBy w' row)(hr:∀ k,row=some k→w.heap.size≤k):z6t S w w':=
 ⟨hg.os.trans h.os,hg.tape.trans h.tape,hg.output.trans h.output,Nat.le_trans h.size hg.size,fun k hk hs=>(hg.block k (Nat.lt_of_lt_of_le hk h.size) (fun e=>by have:=hr k e.symm;omega)).trans (h.block k hk hs)⟩
theorem z6t.under {S:List Nat}{w W w':World}(h:z6t S w W)(hb:Below W.heap.size W w'):z6t S w w':=h.trans (z6t.below hb)
theorem zlh {S:List Nat}{w w':World}{B:Nat}{e:TypeId}{size n:Nat}{v:Value}{xs:List Value}(h:w.ownsRow B e size v n xs)(hK:z6t S w w')(hS:∀ x,v.ownBlock=some x→x∉S):w'.ownsRow B e size v n xs:=by
 refine⟨h.1,?_⟩;rcases h.2 with e1 | ⟨g,cap,cur,e1,h1,h2,h3⟩
 ·exact .inl e1
 ·exact .inr ⟨g,cap,cur,e1,h1,(hK.block g (Array.getElem?_eq_some_iff.1 h2).1 (hS g (by rw[e1];rfl))).trans h2,h3⟩
def zli (D:List Rev):Int:=(D.getLast?.map (·.chg)).getD 0
theorem zlj {D:List Rev}{k:Nat}(hk:D.length=k+1):zli D=(D[k]'(by omega)).chg:=by
 have e:D.getLast? = some (D[k]'(by omega)):=by
  rw[List.getLast?_eq_getElem?,show D.length - 1=k by omega,List.getElem?_eq_getElem]
 unfold zli;rw[e];rfl
theorem zlk (D:List Rev)(dv dr:Value)(w:World)(hR:z45 w dv D)(hl:D.length≤1000000):Calls prog 26 #[.agg #[dv,dr]] w fun e w'=>e=.returned (.int .i64 (zli D))∧Below w.heap.size w w':=by
 obtain⟨A,c,rfl,-⟩:=id hR;have hB:=z0l w [.slice A D.length c,dr] 26;have hA:Below w.heap.size w (w.alloc (.cells #[.slice A D.length c,dr] 26)):=(Below.refl _ _).alloc (Nat.le_refl _) _;have HR:=hd_ (hR.below hA);have HA:=hd_ hA;clear hR hA;go_enter func26,ntmps26;go_upto_region 1 with fail;generalize w.alloc (.cells #[.slice A D.length c,dr] 26)=W1 at hB HR HA ⊢;have d0:W1.cell? ⟨w.heap.size,0,none⟩=some (.slice A D.length c):=hB.cell 0;clear hB;rcases Nat.eq_zero_or_pos D.length with h0 | h0
 ·have hD:D=[]:=List.eq_nil_of_length_eq_zero h0;subst hD;have HT:Hid (zli []=0):=hd_ rfl;go_wp2_with fail;go_ret;exact⟨z34 HT.out.symm,HA.out⟩
 ·obtain⟨k,hk⟩:∃ k,D.length=k+1:=⟨D.length - 1,by omega⟩
  obtain⟨ad,rfl,hab,hc⟩:=HR.out.at_ (k:=k) (by omega)
  have HT:=hd_ (zlj hk);generalize D[k]=r at hc HT;obtain⟨-,-,c2,-⟩:=hc;have q0:((D.length:Int) == 0)=false:=by rw[beq_eq_false_iff_ne];omega
  have q1:IntKind.i64.wrap ((D.length:Int) - 1)=(k:Int):=by rw[IntKind.wrap_i64];omega
  have q2:¬((k:Int)<0):=by omega
  have q3:(k:Int)<(D.length:Int):=by omega
  have q4:¬ D=[]:=by rintro rfl;simp at hk
  clear hk h0 hl;go_wp2_with fail;go_ret;exact⟨z34 HT.out.symm,HA.out⟩
theorem zll (w:World):Calls prog 15 #[] w fun e w'=>e=.returned (.slice (some ⟨w.heap.size,0,none⟩) 6 6)∧w'=w.alloc (.cells (zff.map Value.string).toArray 9):=by
 go_enter func15,ntmps15;go_wp2_with fail;go_ret;exact⟨rfl,rfl⟩
theorem zlm (w:World):Calls prog 33 #[] w fun e w'=>e=.returned (.slice (some ⟨w.heap.size,0,none⟩) 8 8)∧w'=w.alloc (.cells (zle.map Value.string).toArray 9):=by
 go_enter func33,ntmps33;go_wp2_with fail;go_ret;exact⟨rfl,rfl⟩
theorem zln:z0e prog 29 9 1 16:=z0f underlying29 (z:=.string ⟨#[]⟩) (by kernel_rfl) rfl (by decide)
theorem hI_lt {w:World}{B g:Nat}{e:TypeId}{size n:Nat}{v:Value}{xs:List Value}(h:w.ownsRow B e size v n xs)(hg:g<B):∀ x,v.ownBlock=some x→x≠g:=fun x hx=>by have:=(h.lt x hx).1;omega
structure FewSt (w wr:World)(U g m:Nat)(l l':List ByteArray)(v:Value):Prop where
 own:wr.ownsRow w.heap.size 9 1 v l'.length (l'.map .string)
 tape:zgf wr U g (m+1+l'.length)
 kept:z6t [g] w wr
 sub:∀ x∈l',x∈l
def zlo (w:World)(U g m:Nat)(l:List ByteArray)(e:Ending)(w':World):Prop:=∃(l':List ByteArray) (v:Value),e=.returned v∧Strs w' v l'∧l'.length≤2∧(∀ x∈l',x∈l)∧zgf w' U g (m+3)∧z6t [g] w w'∧∀ x,v.ownBlock=some x→w.heap.size≤x
theorem zlp (U g m:Nat)(l:List ByteArray)(A:Option Addr)(c:Nat)(w:World)(hT:zgf w U g m)(hU:U≤w.heap.size)(hm:m≤100000)(hL:∀ W,z6t [g] w W→Strs W (.slice A l.length c) l)(h0:0<l.length)(hl:l.length≤1000):
  Calls prog 32 #[.pointer (some ⟨g,0,none⟩),.slice A l.length c] w (zlo w U g m l):=by
 have hg:=hT.lt;have HN:=hd_ (zgg U g m 3 w hT (by omega) (by omega))
 have HL:=hd_ hL;clear hT hL;go_enter func32,ntmps32;go_wp2_with (refine HN.out.mono ?_;rintro e w1 ⟨k,rfl,hk,hT1,hK1⟩)
 obtain⟨j,rfl⟩:∃ j:Nat,k=j:=⟨k.toNat,by have:=hk.1;omega⟩
 have hj2:j≤2:=by have:=hk.2.1 (by omega);omega
 have HS0:Hid (FewSt w w1 U g m l [] (.slice none 0 0)):=hd_ ⟨World.ownsRow_nil _ _ _ _,hT1,hK1,fun x h=>by cases h⟩
 clear hk hT1 hK1 HN;go_loopw [5,6] (fun v i wr=>∃(j:Nat) (l':List ByteArray) (A':Option Addr) (c':Nat),v=.slice A' l'.length c'∧i=.int .i64 j∧l'.length+j≤2∧Hid (FewSt w wr U g m l l' v)) (fun _ i _=>(intOf i).toNat)
 case atStart=>exact⟨j,[],none,0,rfl,rfl,by simpa using hj2,HS0⟩
 case round =>
  obtain⟨j,l',A',c',rfl,rfl,hlj,HI⟩:=hrel;by_cases h1:0<j
  ·have q1:decide ((0:Int)<(j:Int))=true:=by simp;omega
   have q2:decide ((0:Int)<(l.length:Int))=true:=by simp;omega
   have HX:=hd_ (zgg U g (m+1+l'.length) l.length wr HI.out.tape (by omega) (by omega))
   go_wp2_with (refine HX.out.mono ?_;rintro e w2 ⟨k,rfl,hk,hT2,hK2⟩)
   obtain⟨kk,rfl⟩:∃ kk:Nat,k=kk:=⟨k.toNat,by have:=hk.1;omega⟩
   have hkk:kk<l.length:=by
    rcases Nat.lt_or_ge 1 l.length with h | h
    ·have:=hk.2.1 (by omega);omega
    ·have:=hk.2.2 (by omega);omega
   obtain⟨ad,rfl,hab,s0⟩:=Strs.at_ (HL.out w2 (HI.out.kept.trans hK2)) hkk;have HQM:=hd_ (show l[kk]∈l from List.getElem_mem hkk);generalize l[kk]=q at s0 HQM;have hgl:=hI_lt HI.out.own hg;have hown2:w2.ownsRow w.heap.size 9 1 (.slice A' l'.length c') l'.length (l'.map .string):=zlh HI.out.own hK2 (fun x hx=>by rw[List.mem_singleton];exact hgl x hx)
   have HOWN:=hd_ (zcg hown2 (.cells #[.string q] 9));have HT2:=hd_ hT2;have HK2:=hd_ (HI.out.kept.trans hK2);have hb2:w.heap.size≤(w2.alloc (.cells #[.string q] 9)).heap.size:=by have:=HK2.out.size;simp;omega
   have HH1:=hd_ h1;clear hk hT2 hK2 hown2 hgl h1;go_wp2_with fail;go_simp
   go_wp2_with (at_builtin;refine z0j (base:=w.heap.size) rfl rfl zln HOWN.out rfl (z0i w2 [.string q] _ 1 1 rfl (by decide) _ (by simp)) rfl (by simp [Value.oneCell']) (by omega) (by unfold maxLen;omega) hb2 ?_;intro A6 c6 w6 hO6 hG6 hw6)
   have HN6:Hid (FewSt w w6 U g m l (l'++[q]) (.slice A6 (l'.length+1) c6)):=hd_ (by
    have hK6:z6t [g] w w6:=(HK2.out.under ((Below.refl _ _).alloc (Nat.le_refl _) _)).grown_own hG6 (fun k e=>(HOWN.out.lt k e).1);refine⟨?_,?_,hK6,fun x hx=>?_⟩
    ·rw[List.length_append,List.map_append];exact hO6
    ·have ht:=(HT2.out.below ((Below.refl _ _).alloc (Nat.le_refl _) (.cells #[.string q] 9)));have ht2:=ht.keep hG6.size (fun x hx=>hG6.block x (by simp;have:=HK2.out.size;omega) (fun e=>by have:=(HOWN.out.lt x e.symm).1;omega))
     rw[List.length_append];exact ht2
    ·rcases List.mem_append.1 hx with hx | hx
     ·exact HI.out.sub x hx
     ·rw[List.mem_singleton] at hx;rw[hx];exact HQM.out)
   have h1:=HH1.out;have q5:IntKind.i64.wrap ((j:Int) - 1)=((j - 1:Nat):Int):=by rw[IntKind.wrap_i64];omega
   clear hO6 hG6 hw6;go_wp2_with fail;go_roundw
   case rel=>exact⟨j - 1,l'++[q],A6,c6,by rw[List.length_append];rfl,by first | rfl | go_num,by rw[List.length_append];simp;omega,HN6⟩
   case measure=>simp [intOf];omega
  ·have h0j:j=0:=by omega
   subst h0j;have q1:decide ((0:Int)<((0:Nat):Int))=false:=by simp
   have HF:=hd_ (fun(X:World) (hX:X=wr)=>(⟨l',_,rfl,Row.of_own HI.out.own,by omega,HI.out.sub,HI.out.tape.mono (by omega),HI.out.kept,fun x hx=>(HI.out.own.lt x hx).1⟩:zlo w U g m l (.returned (.slice A' l'.length c')) wr))
   go_wp2_with fail;go_ret;exact HF.out _ rfl
theorem z6t.onto {S:List Nat}{w W w':World}(h:z6t S w W)(hb:Below w.heap.size W w'):z6t S w w':=
 ⟨hb.os.trans h.os,hb.tape.trans h.tape,hb.output.trans h.output,Nat.le_trans h.size hb.size,fun k hk hs=>(hb.block k hk).trans (h.block k hk hs)⟩
theorem zgf.onto {w W w':World}{U g m:Nat}(h:zgf W U g m)(hU:U≤w.heap.size)(hb:Below w.heap.size W w'):zgf w' U g m:=h.keep hb.size fun x hx=>hb.block x (by omega)
def WtPost (w:World)(U g m:Nat)(e:Ending)(w':World):Prop:=∃ ty:Ty,e=.returned ty.val∧zgf w' U g m∧z6t [g] w w'
theorem wt_ret (U g m:Nat)(w w2:World)(ty:Ty)(hB:Blk w2 w.heap.size 61 [.int .i64 0,.bool false,.bool false,.bool false])(hT:zgf w2 U g m)(hK:z6t [g] w w2)(hU:U≤w.heap.size)(u0 u1 u3 u4 u5 u6 u7 u8 u9 gn gt gu gx gy gz gA:Value):
  bodyPost prog Tryz.f92 (WtPost w U g m) .ret ⟨#[u0,u1,.pointer (some ⟨w.heap.size,0,none⟩),u3,u4,u5,u6,u7,u8,u9,gn,gt,gu,gx,gy,gz,gA],[]⟩ ((((w2.setCell ⟨w.heap.size,0,none⟩ (.int .i64 ty.base)).setCell ⟨w.heap.size,1,none⟩ (.bool ty.k)).setCell ⟨w.heap.size,2,none⟩ (.bool ty.l)).setCell ⟨w.heap.size,3,none⟩ (.bool ty.x)):=by
 have hE:=(((hB.set_ 0 (.int .i64 ty.base)).set_ 1 (.bool ty.k)).set_ 2 (.bool ty.l)).set_ 3 (.bool ty.x);have hb:=(((((Below.refl w.heap.size w2).setCell (p:=⟨w.heap.size,0,none⟩) (by simp) (.int .i64 ty.base)).setCell (p:=⟨w.heap.size,1,none⟩) (by simp) (.bool ty.k)).setCell (p:=⟨w.heap.size,2,none⟩) (by simp) (.bool ty.l)).setCell (p:=⟨w.heap.size,3,none⟩) (by simp) (.bool ty.x))
 generalize (((w2.setCell ⟨w.heap.size,0,none⟩ (.int .i64 ty.base)).setCell ⟨w.heap.size,1,none⟩ (.bool ty.k)).setCell ⟨w.heap.size,2,none⟩ (.bool ty.l)).setCell ⟨w.heap.size,3,none⟩ (.bool ty.x)=W8 at hE hb ⊢;have e0:=hE.cell 0;have e1:=hE.cell 1;have e2:=hE.cell 2;have e3:=hE.cell 3;exact bodyPost_ret (v:=ty.val) (by simp [results,results92,go_sem,e0,e1,e2,e3,Ty.val]) rfl ⟨ty,rfl,hT.onto hU hb,hK.onto hb⟩
theorem zmv (U g m:Nat)(w:World)(hT:zgf w U g m)(hU:U≤w.heap.size)(hm:m≤100000):
  Calls prog 92 #[.pointer (some ⟨g,0,none⟩)] w (WtPost w U g (m+1)):=by
 have hg:=hT.lt;obtain⟨W1,hW1⟩:∃ W,W=(w.alloc (.cells #[.int .i64 0,.bool false,.bool false,.bool false] 61)).alloc (.cells #[.int .i64 1,.bool false,.bool false,.bool false,.int .i64 2,.bool false,.bool false,.bool false,.int .i64 1,.bool true,.bool false,.bool false,.int .i64 2,.bool false,.bool false,.bool true,.int .i64 3,.bool false,.bool false,.bool false] 61):=⟨_,rfl⟩;have hA:Below w.heap.size w W1:=by rw[hW1];exact ((Below.refl _ _).alloc (Nat.le_refl _) _).alloc (by simp) _
 have hB0:Blk W1 w.heap.size 61 [.int .i64 0,.bool false,.bool false,.bool false]:=by rw[hW1];exact (z0l w _ _).alloc _
 have hB1:Blk W1 (w.heap.size+1) 61 [.int .i64 1,.bool false,.bool false,.bool false,.int .i64 2,.bool false,.bool false,.bool false,.int .i64 1,.bool true,.bool false,.bool false,.int .i64 2,.bool false,.bool false,.bool true,.int .i64 3,.bool false,.bool false,.bool false]:=by
  rw[hW1];have:=z0l (w.alloc (.cells #[.int .i64 0,.bool false,.bool false,.bool false] 61)) [.int .i64 1,.bool false,.bool false,.bool false,.int .i64 2,.bool false,.bool false,.bool false,.int .i64 1,.bool true,.bool false,.bool false,.int .i64 2,.bool false,.bool false,.bool true,.int .i64 3,.bool false,.bool false,.bool false] 61;simp only[World.size_alloc] at this
  exact this
 have HN:=hd_ (zgg U g m 5 W1 (hT.below hA) (by omega) (by omega))
 have HW:=hd_ hW1;have HB:=hd_ (And.intro hB0 hB1);have HA:=hd_ (z6t.below (S:=[g]) hA);have HU:=hd_ hU;have HG:Hid (w.heap.size∉[g]∧w.heap.size+1∉[g]):=hd_ (by simp;omega)
 clear hT hA hW1 hB0 hB1 hU;go_enter func92,ntmps92;go_upto_region 2 with fail;rw[← HW.out];go_wp2_with fail;refine HN.out.mono ?_;rintro e w2 ⟨k,rfl,hk,hT2,hK2⟩;dsimp only;have HX:Hid (Blk _ _ _ _):=hd_ (hK2.blk HB.out.1 HG.out.1);have hY:=hK2.blk HB.out.2 HG.out.2;obtain⟨y0,y1,y2,y3,y4,y5,y6,y7,y8,y9⟩:=(⟨hY.cell 0,hY.cell 1,hY.cell 2,hY.cell 3,hY.cell 4,hY.cell 5,hY.cell 6,hY.cell 7,hY.cell 8,hY.cell 9⟩:w2.cell? ⟨w.heap.size+1,0,none⟩=some (.int .i64 1)∧w2.cell? ⟨w.heap.size+1,1,none⟩=some (.bool false)∧w2.cell? ⟨w.heap.size+1,2,none⟩=some (.bool false)∧w2.cell? ⟨w.heap.size+1,3,none⟩=some (.bool false)∧w2.cell? ⟨w.heap.size+1,4,none⟩=some (.int .i64 2)∧w2.cell? ⟨w.heap.size+1,5,none⟩=some (.bool false)∧w2.cell? ⟨w.heap.size+1,6,none⟩=some (.bool false)∧w2.cell? ⟨w.heap.size+1,7,none⟩=some (.bool false)∧w2.cell? ⟨w.heap.size+1,8,none⟩=some (.int .i64 1)∧w2.cell? ⟨w.heap.size+1,9,none⟩=some (.bool true));obtain⟨z0,z1,z2,z3,z4,z5,z6,z7,z8,z9⟩:=(⟨hY.cell 10,hY.cell 11,hY.cell 12,hY.cell 13,hY.cell 14,hY.cell 15,hY.cell 16,hY.cell 17,hY.cell 18,hY.cell 19⟩:w2.cell? ⟨w.heap.size+1,10,none⟩=some (.bool false)∧w2.cell? ⟨w.heap.size+1,11,none⟩=some (.bool false)∧w2.cell? ⟨w.heap.size+1,12,none⟩=some (.int .i64 2)∧w2.cell? ⟨w.heap.size+1,13,none⟩=some (.bool false)∧w2.cell? ⟨w.heap.size+1,14,none⟩=some (.bool false)∧w2.cell? ⟨w.heap.size+1,15,none⟩=some (.bool true)∧w2.cell? ⟨w.heap.size+1,16,none⟩=some (.int .i64 3)∧w2.cell? ⟨w.heap.size+1,17,none⟩=some (.bool false)∧w2.cell? ⟨w.heap.size+1,18,none⟩=some (.bool false)∧w2.cell? ⟨w.heap.size+1,19,none⟩=some (.bool false));obtain⟨x0,x1,x2,x3⟩:=(⟨HX.out.cell 0,HX.out.cell 1,HX.out.cell 2,HX.out.cell 3⟩:w2.cell? ⟨w.heap.size,0,none⟩=some (.int .i64 0)∧w2.cell? ⟨w.heap.size,1,none⟩=some (.bool false)∧w2.cell? ⟨w.heap.size,2,none⟩=some (.bool false)∧w2.cell? ⟨w.heap.size,3,none⟩=some (.bool false));obtain⟨f0,f1,f2,f3⟩:=(⟨HX.out.frozen 0,HX.out.frozen 1,HX.out.frozen 2,HX.out.frozen 3⟩:w2.frozen? ⟨w.heap.size,0,none⟩=false∧w2.frozen? ⟨w.heap.size,1,none⟩=false∧w2.frozen? ⟨w.heap.size,2,none⟩=false∧w2.frozen? ⟨w.heap.size,3,none⟩=false)
 have h5:k=0∨k=1∨k=2∨k=3∨k=4:=by obtain⟨a,b,-⟩:=hk;have:=b (by omega);omega
 have HT2:=hd_ hT2;have HK2:=hd_ (HA.out.trans hK2);have HFI:=hd_ (fun ty=>wt_ret U g (m+1) w w2 ty HX.out HT2.out HK2.out HU.out);clear hk hT2 hK2 hY HN;rcases h5 with rfl | rfl | rfl | rfl | rfl
 ·go_wp2_with fail;exact HFI.out ⟨1,false,false,false⟩ _ _ _ _ _ _ _ _ _ _ _ _ _ _ _ _
 ·go_wp2_with fail;exact HFI.out ⟨2,false,false,false⟩ _ _ _ _ _ _ _ _ _ _ _ _ _ _ _ _
 ·go_wp2_with fail;exact HFI.out ⟨1,true,false,false⟩ _ _ _ _ _ _ _ _ _ _ _ _ _ _ _ _
 ·go_wp2_with fail;exact HFI.out ⟨2,false,false,true⟩ _ _ _ _ _ _ _ _ _ _ _ _ _ _ _ _
 ·go_wp2_with fail;exact HFI.out ⟨3,false,false,false⟩ _ _ _ _ _ _ _ _ _ _ _ _ _ _ _ _
end Go.Proofs.YtegeboijhifmcaaGreatDoor
