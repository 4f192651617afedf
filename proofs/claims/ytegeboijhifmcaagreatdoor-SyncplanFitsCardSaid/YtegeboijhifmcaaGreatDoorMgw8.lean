/- slices.SortStableFunc at records: from an own row to a sorted own row. -/
import Derived.Test.YtegeboijhifmcaaGreatDoorMgw2
import Derived.Test.YtegeboijhifmcaaGreatDoorMgw5
import Derived.Test.YtegeboijhifmcaaGreatDoorMgw7
import Derived.Test.YtegeboijhifmcaaGreatDoorMgw6
import Derived.Test.YtegeboijhifmcaaGreatDoorMgw4
import Derived.Shelf.SlSortCmp.KitK
import Derived.Lib.QuietBelow
import Derived.Deep.MidRow
import Derived.Deep.RegionHeld3
import Derived.StillTailTactics
import Derived.IntWalk
import Derived.Laws.EntriesVeiled
import Derived.Deep.DeepCutAuto
import Derived.Deep.RegionLaw
import Derived.Sort.LotA
import Derived.Deep.LoopGhost
namespace Go.Proofs.YtegeboijhifmcaaGreatDoor
set_option linter.unusedVariables false
set_option linter.unusedSimpArgs false
set_option maxHeartbeats 4000000
set_option maxRecDepth 100000
open Go.RowKit Go.Lib
open Go.Sort hiding Below
section
variable {α : Type} [Inhabited α]
end
section
variable {α : Type}
structure z5p (c:α→α→Int):Prop where
 self:∀ x,c x x=0
 anti:∀ x y,c y x=- c x y
 trans:∀ x y z,c x y<0→c y z<0→c x z<0
 same:∀ x y,c x y=0→∀ z,c x z=c y z
theorem z5p.same' {c:α→α→Int}(h:z5p c){x y:α}(he:c x y=0)(z:α):c z x=c z y:=by rw[h.anti x z,h.anti y z,h.same x y he]
theorem z5p.or {c1 c2:α→α→Int}(h1:z5p c1)(h2:z5p c2):z5p (fun x y=>orI (c1 x y) (c2 x y)) where
 self x:=by unfold orI;rw[h1.self,if_pos rfl,h2.self]
 anti x y:=by unfold orI;rw[h1.anti x y,h2.anti x y];split <;> split <;> omega
 trans x y z a b:=by
  unfold orI at a b ⊢
  by_cases e1:c1 x y=0
  ·rw[if_pos e1] at a;rw[h1.same x y e1 z];by_cases e2:c1 y z=0
   ·rw[if_pos e2] at b ⊢;exact h2.trans _ _ _ a b
   ·rw[if_neg e2] at b ⊢;exact b
  ·rw[if_neg e1] at a;by_cases e2:c1 y z=0
   ·rw[← h1.same' e2 x];rw[if_neg e1];exact a
   ·rw[if_neg e2] at b;have:=h1.trans _ _ _ a b;rw[if_neg (by omega)];exact this
 same x y e z:=by
  unfold orI at e ⊢
  by_cases e1:c1 x y=0
  ·rw[if_pos e1] at e;rw[h1.same x y e1 z,h2.same x y e z]
  ·rw[if_neg e1] at e;exact absurd e e1
theorem z5p.swo {c:α→α→Int}(h:z5p c):SWO (ltOf c) where
 irrefl x:=by unfold ltOf;rw[h.self];rfl
 trans x y z a b:=by unfold ltOf at *;simp only[decide_eq_true_eq] at *;exact h.trans _ _ _ a b
 ntrans x y z a b:=by
  unfold ltOf at *
  simp only[decide_eq_false_iff_not,Int.not_lt] at *
  have a':=h.anti x y;have b':=h.anti y z;have c':=h.anti x z;by_cases e1:c x y=0
  ·rw[h.same x y e1 z];exact b
  ·by_cases e2:c y z=0
   ·rw[← h.same' e2 x];exact a
   ·have:=h.trans z y x (by omega) (by omega);omega
theorem z5q (a b:ByteArray):z2u b a=- z2u a b:=by
 unfold z2u;by_cases h:(z2s a && z2s b)=true
 ·rw[if_pos h,if_pos (by rw[Bool.and_comm];exact h)];exact z5a _ _
 ·rw[if_neg h,if_neg (by rw[Bool.and_comm];exact h)];rfl
theorem z5r {a b:ByteArray}(ha:z2s a=true)(hb:z2s b=true)(h:z2u a b=0):a=b:=by
 rw[z5d ha hb] at h;have:=cmpL_eq h;cases a with | mk x=>cases b with | mk y=>exact congrArg ByteArray.mk (Array.toList_inj.1 this)
theorem totP {f:α→ByteArray}(hf:∀ x,z2s (f x)=true):z5p (fun x y=>z2u (f x) (f y)) where
 self x:=z5e _
 anti x y:=z5q _ _
 trans x y z a b:=z5f (hf _) (hf _) (hf _) a b
 same x y e z:=by rw[z5r (hf x) (hf y) e]
end
def Rcd.good (r:Rcd):Prop:=r.small∧z2s r.frm=true∧z2s r.to=true
abbrev z5s:={ r:Rcd // r.good }
def z5t:ByteArray:=⟨#[47,47,97,47,98]⟩
theorem z5u:z2s z5t=true:=by decide
instance:Inhabited z5s:=⟨⟨⟨z5t,0,0,z5t,0,0⟩,⟨by unfold z5t;decide,by unfold z5t;decide⟩,z5u,z5u⟩⟩
def z5s.enc (r:z5s):List Value:=r.1.cells
def z5s.cmp (a b:z5s):Int:=cmpR a.1 b.1
theorem z5v (v cv:Value)(w:World):Calls Tryz.prog 169 #[v,.int .i64 0,.int .i64 0,cv] w fun e w'=>e=.returned (.tuple #[])∧w=w':=by
 go_enter Tryz.func169,Tryz.ntmps169;go_wp2
 refine wp_loop_rounds 1 ?_;rw[rounds_succ];go_wp2
 go_end0
 exact⟨rfl,rfl⟩
theorem z5w (v cv:Value)(w:World):Calls Tryz.prog 119 #[v,.int .i64 0,cv] w fun e w'=>e=.returned (.tuple #[])∧w=w':=by
 have H:=hd_ (z5v v cv w);go_enter Tryz.func119,Tryz.ntmps119;go_wp2
 refine wp_loop_rounds 1 ?_;rw[rounds_succ];go_wp2_with fail;refine H.out.mono ?_;rintro e w' ⟨rfl,rfl⟩;go_wp2
 refine wp_loop_rounds 1 ?_;rw[rounds_succ];go_wp2
 go_end0
 exact⟨rfl,rfl⟩
open Go.RowKit
theorem z87:z0e Tryz.prog 29 9 1 16:=z0f Tryz.underlying29 (z:=.string ⟨#[]⟩) (by kernel_rfl) rfl (by decide)
def z88 (l:List ByteArray)(j:Nat):ByteArray:=(l[j]?).getD z2l
def z89 (cs:List (List UInt8))(j:Nat):ByteArray:=baL ((cs[j]?).getD [])
def z8a (parts:List ByteArray)(cs:List (List UInt8))(k:Nat):Bool:=(List.range k).all fun j=>z82 (z88 parts j) (z89 cs j)
def z8b (parts:List ByteArray)(cs:List (List UInt8)):Nat→List ByteArray
 | 0=>[]
 | k+1=>z8b parts cs k++(if z79 (z88 parts k) then [z81 (z88 parts k) (z89 cs k)] else [])
def z8c (p:Pat)(cs:List (List UInt8)):Bool:=decide (p.parts.length≤cs.length) && (decide (p.parts.length<cs.length) == p.rest)
def z8d (p:Pat)(cs:List (List UInt8)):List ByteArray:=z8b p.parts cs p.parts.length++(if p.rest then [baL (Lib.join (cs.drop p.parts.length) [47])] else [])
def z8e (p:Pat)(s:ByteArray):Option (List ByteArray):=
 match z2q s.data.toList 2 with
 | none=>none
 | some cs=>if z7e p=0∧z8c p cs=true∧z8a p.parts cs p.parts.length=true then some (z8d p cs) else none
theorem z8f {parts:List ByteArray}{cs:List (List UInt8)}{k:Nat}:z8a parts cs (k+1)=(z8a parts cs k && z82 (z88 parts k) (z89 cs k)):=by
 unfold z8a;rw[List.range_succ,List.all_append];simp
theorem z8g {parts:List ByteArray}{cs:List (List UInt8)}{k n:Nat}(hk:k<n)(h:z82 (z88 parts k) (z89 cs k)=false):z8a parts cs n=false:=by
 unfold z8a;rw[List.all_eq_false];exact⟨k,List.mem_range.2 hk,by rw[h];simp⟩
def z8h (w:World)(p:Pat)(s:ByteArray)(e:Ending)(w':World):Prop:=∃ A n c,e=.returned (.tuple #[.slice A n c,.bool (z8e p s).isSome])∧Below w.heap.size w w'∧∀ l,z8e p s=some l→n=l.length∧Strs w' (.slice A n c) l
theorem z8i (s:ByteArray)(w:World)(he:Env w)(hs:s.size≤2000000):
  Calls Tryz.prog 107 #[.string s] w fun e w'=>(z2q s.data.toList 2=none∧e=.returned (.tuple #[.slice none 0 0,.bool false])∧Below w.heap.size w w')∨∃ cs,z2q s.data.toList 2=some cs∧e=.returned (.tuple #[.slice (some ⟨w.heap.size,0,none⟩) cs.length cs.length,.bool true])∧w.alloc (.cells (z6v cs).toArray 9)=w':=by
 cases hd:z2q s.data.toList 2 with
 | none =>
  have H:=hd_ (z78 s w he hs hd);clear hd he;go_enter Tryz.func107,Tryz.ntmps107;go_wp2_with fail;refine H.out.mono ?_;rintro e w' ⟨rfl,hb⟩;have HB:=hd_ hb;clear hb;go_wp2_with fail;go_ret2;exact .inl ⟨by first | rfl | trivial,rfl,HB.out⟩
 | some cs =>
  have H:=hd_ (z77 s cs w he hs hd);clear hd he;generalize hW:w.alloc (.cells (z6v cs).toArray 9)=W at H;have HW:=hd_ hW;clear hW;go_enter Tryz.func107,Tryz.ntmps107;go_wp2_with fail;refine H.out.mono ?_;rintro e w' ⟨rfl,rfl⟩;go_wp2_with fail;go_ret2;exact .inr ⟨cs,rfl,rfl,HW.out⟩
theorem zay {w w':World}(h:Below w.heap.size w w')(row:Option Nat):w.grownBy w' row:=⟨h.os,h.tape,h.output,h.size,fun k hk _=>h.block k hk⟩
theorem zaz {w:World}{B:Nat}{es:Array MapEntry}{c:Nat}(h:w.heap[B]? = some (.map es c))(a:Addr)(ha:a.block=B):¬ ∃ v,w.cell? a=some v:=by
 rintro⟨v,hv⟩;subst ha;unfold World.cell? at hv
 rw[h] at hv;simp at hv
theorem z2f.obj {κ α:Type}[BEq κ]{kv:κ→Value}{enc:α→Value}{w:World}{B:Nat}{f:κ→Option α}(h:z2f kv enc w B f):∃ es c,w.heap[B]? = some (.map es c):=by
 obtain⟨m,⟨es,c,h,_⟩,_⟩:=h;exact⟨es,c,h⟩
theorem Row.turn {w w':World}{size n B:Nat}{v:Value}{xs:List Value}(h:Row w size v n xs)(hs:0<size)(hm:∃ es c,w.heap[B]? = some (.map es c))(hg:w.grownBy w' (some B)):Row w' size v n xs:=by
 obtain⟨A,c,rfl,hc,hm',hl,h0,hx⟩:=h;refine⟨A,c,rfl,hc,hm',hl,h0,fun hn=>?_⟩;obtain⟨ad,e,hb,hcell⟩:=hx hn;obtain⟨es,c2,hB⟩:=hm;have hne:some ad.block≠some B:=by
  intro e2;injection e2 with e2
  have hpos:0<xs.length:=by rw[hl];exact Nat.mul_pos hn hs
  exact zaz hB (ad.add 0) (by rw[z00];exact e2) ⟨xs[0],hcell 0 _ (by simp [hpos])⟩
 refine⟨ad,e,by have:=hg.size;omega,fun j u hu=>?_⟩
 exact hg.cell (hcell j u hu) (by rw[z00];exact hne)
theorem Blk.turn {w w':World}{g B:Nat}{e:TypeId}{cs:List Value}(h:Blk w g e cs)(hm:∃ es c,w.heap[B]? = some (.map es c))(hg:w.grownBy w' (some B)):Blk w' g e cs:=by
 refine Blk.grown h hg ?_;intro e2;injection e2 with e2
 subst e2;obtain⟨es,c,hB⟩:=hm;unfold Blk at h;rw[hB] at h;cases h
theorem zb0 (p:ByteArray)(b:Bool)(h:z2s p=b)(w:World)(hp:p.size≤140737488355328):Calls Tryz.prog 67 #[.string p] w fun e w'=>e=.returned (.bool b)∧w=w':=by
 rw[← h];exact z3c p w hp
def zgs (D:List Rev)(p:ByteArray):Option Rev:=(zgp D p).getLast?
theorem zhw (r:Rev)(w:World):Calls Tryz.prog 96 #[.agg #[.string r.path,.int .i64 r.num,.int .i64 r.chg,.int .i64 r.act,.int .i64 r.ty.base,.bool r.ty.k,.bool r.ty.l,.bool r.ty.x,.int .u64 r.sum,.int .i64 r.size,.string r.frm,.int .i64 r.fnum]] w fun e w'=>e=.returned (.bool (!z2v r.act))∧Below w.heap.size w w':=by
 have hA:Below w.heap.size w (w.alloc (.cells #[.string r.path,.int .i64 r.num,.int .i64 r.chg,.int .i64 r.act,.int .i64 r.ty.base,.bool r.ty.k,.bool r.ty.l,.bool r.ty.x,.int .u64 r.sum,.int .i64 r.size,.string r.frm,.int .i64 r.fnum] 66)):=(Below.refl _ _).alloc (Nat.le_refl _) _;by_cases h3:r.act=3
 ·have q:(r.act == 3)=true:=by simpa using h3
  have HL:Hid ((!z2v r.act)=true):=hd_ (by rw[h3];rfl)
  clear h3;go_enter Tryz.func96,Tryz.ntmps96;go_wp2_with fail;go_ret;exact⟨z0w HL.out.symm,hA⟩
 ·have q:(r.act == 3)=false:=by simpa using h3
  by_cases h5:r.act=5
  ·have q5:(r.act == 5)=true:=by simpa using h5
   have HL:Hid ((!z2v r.act)=true):=hd_ (by rw[h5];rfl)
   clear h3 h5;go_enter Tryz.func96,Tryz.ntmps96;go_wp2_with fail;go_ret;exact⟨z0w HL.out.symm,hA⟩
  ·have q5:(r.act == 5)=false:=by simpa using h5
   have HL:Hid ((!z2v r.act)=false):=hd_ (by unfold z2v;simp [h3,h5])
   clear h3 h5;go_enter Tryz.func96,Tryz.ntmps96;go_wp2_with fail;go_ret;exact⟨z0w HL.out.symm,hA⟩
theorem ret_i {k:IntKind}{a b:Int}(h:a=b):Ending.returned (.int k a)=.returned (.int k b):=by rw[h]
theorem zi3 (b:Int)(k l x:Bool)(w:World):
  Calls Tryz.prog 176 #[.agg #[.int .i64 b,.bool k,.bool l,.bool x]] w fun e w'=>e=.returned (.int .i64 (z2k 90 (z2j b k x)))∧Below w.heap.size w w':=by
 by_cases h0:1≤b∧b≤3
 ·have hb:b=1∨b=2∨b=3:=by omega
  rcases hb with rfl | rfl | rfl <;> cases k <;> cases x
  all_goals
   go_enter Tryz.func176,Tryz.ntmps176;go_wp2
   go_ret;exact⟨rfl,(Below.refl _ _).alloc (Nat.le_refl _) _⟩
 ·have H:Hid (z2j b k x=false):=hd_ (by
   unfold z2j;have h1:(b == 1)=false:=by rw[beq_eq_false_iff_ne];omega
   have h2:(b == 2)=false:=by rw[beq_eq_false_iff_ne];omega
   have h3:(b == 3)=false:=by rw[beq_eq_false_iff_ne];omega
   simp [h1,h2,h3])
  by_cases hb:b<1
  ·clear h0;go_enter Tryz.func176,Tryz.ntmps176;go_wp2
   go_ret;exact⟨ret_i (by rw[H.out];rfl),(Below.refl _ _).alloc (Nat.le_refl _) _⟩
  ·have hb3:3<b:=by omega
   clear h0;go_enter Tryz.func176,Tryz.ntmps176;go_wp2
   go_ret;exact⟨ret_i (by rw[H.out];rfl),(Below.refl _ _).alloc (Nat.le_refl _) _⟩
variable {f : ByteArray → Option Rev} {b : ByteArray} {x : Edt}
end Go.Proofs.YtegeboijhifmcaaGreatDoor
