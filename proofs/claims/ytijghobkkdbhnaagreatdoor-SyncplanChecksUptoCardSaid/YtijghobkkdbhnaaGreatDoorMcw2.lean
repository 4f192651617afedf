/- A part. -/
import Derived.Test.YtijghobkkdbhnaaGreatDoorMcw1
import Derived.Test.YtijghobkkdbhnaaGreatDoorMcw0
set_option linter.unusedVariables false
set_option linter.unusedSimpArgs false
namespace Go.Proofs.YtijghobkkdbhnaaGreatDoor
open Go.RowKit
structure Ty where
 base:Int
 k:Bool
 l:Bool
 x:Bool
deriving DecidableEq
def z2n:Ty:=⟨0,false,false,false⟩
def z2o (b:Int)(k x:Bool):Bool:=(b == 1) || ((b == 2) && !k) || ((b == 3) && !k && !x)
def Ty.ok (t:Ty):Bool:=z2o t.base t.k t.x
def z2p (n:Int):Bool→Int
 | true=>0
 | false=>n
structure Rev where
 path:ByteArray
 num:Int
 chg:Int
 act:Int
 ty:Ty
 sum:Int
 size:Int
 frm:ByteArray
 fnum:Int
deriving DecidableEq
structure Edt where
 path:ByteArray
 act:Int
 ty:Ty
 sum:Int
 size:Int
 base:Int
 frm:ByteArray
 fnum:Int
 fence:Int
deriving DecidableEq
structure Rcd where
 frm:ByteArray
 first:Int
 last:Int
 to:ByteArray
 num:Int
 how:Int
deriving DecidableEq
structure Chg where
 num:Int
 client:ByteArray
 text:ByteArray
 edits:List Edt
 recs:List Rcd
structure Dep where
 revs:List Rev
 recs:List Rcd
abbrev Fil:=ByteArray×Int
def z2q:ByteArray:=⟨#[]⟩
def z2r:Rev:=⟨z2q,0,0,0,z2n,0,0,z2q,0⟩
def z2s:Edt:=⟨z2q,0,z2n,0,0,0,z2q,0,0⟩
def z2t:Fil:=(z2q,0)
def Ty.cells (t:Ty):List Value:=[.int .i64 t.base,.bool t.k,.bool t.l,.bool t.x]
def Ty.val (t:Ty):Value:=.agg #[.int .i64 t.base,.bool t.k,.bool t.l,.bool t.x]
def Rev.cells (r:Rev):List Value:=[.string r.path,.int .i64 r.num,.int .i64 r.chg,.int .i64 r.act,.int .i64 r.ty.base,.bool r.ty.k,.bool r.ty.l,.bool r.ty.x,.int .u64 r.sum,.int .i64 r.size,.string r.frm,.int .i64 r.fnum]
def Edt.cells (e:Edt):List Value:=[.string e.path,.int .i64 e.act,.int .i64 e.ty.base,.bool e.ty.k,.bool e.ty.l,.bool e.ty.x,.int .u64 e.sum,.int .i64 e.size,.int .i64 e.base,.string e.frm,.int .i64 e.fnum,.int .i64 e.fence]
def Rcd.cells (r:Rcd):List Value:=[.string r.frm,.int .i64 r.first,.int .i64 r.last,.string r.to,.int .i64 r.num,.int .i64 r.how]
def z2u (f:Fil):Value:=.agg #[.string f.1,.int .i64 f.2]
def Rev.val (r:Rev):Value:=.agg r.cells.toArray
def Edt.val (e:Edt):Value:=.agg e.cells.toArray
def Rcd.val (r:Rcd):Value:=.agg r.cells.toArray
def z2v (l:List UInt8)(least:Nat):Option (List (List UInt8)):=
 if Lib.hasPrefix l [47,47]=true∧least≤(z1f (l.drop 2)).length∧(z1f (l.drop 2)).all z0z=true then some (z1f (l.drop 2)) else none
def z2w (l:List UInt8):Bool:=(z2v l 2).isSome
def z2x (s:ByteArray):Bool:=z2w s.data.toList
def z2y:List UInt8→List UInt8→Int
 | [],[]=>0
 | [],_ :: _=>-1
 | _ :: _,[]=>1
 | a :: l,b :: m=>if a=b then z2y l m else if a=47 then -1 else if b=47 then 1 else if a<b then -1 else 1
def z2z (a b:ByteArray):Int:=if z2x a && z2x b then z2y a.data.toList b.data.toList else 0
def z30 (a:Int):Bool:=(a != 3) && (a != 5)
def z32 (last:ByteArray→Option Rev)(p:ByteArray):Bool:=match last p with
 | none=>false
 | some r=>z30 r.act
def z33 (last:ByteArray→Option Rev)(p:ByteArray):Rev:=(last p).getD z2r
def orI (a b:Int):Int:=if a=0 then b else a
def z34 (a b:Int):Int:=if a<b then -1 else if b<a then 1 else 0
def cmpR (a b:Rcd):Int:=orI (z2z a.to b.to) (orI (z34 a.num b.num) (orI (z2z a.frm b.frm) (z34 a.first b.first)))
def z35 (last:ByteArray→Option Rev)(n:Int)(e:Edt):Rev:=⟨e.path,(z33 last e.path).num+1,n,e.act,e.ty,e.sum,e.size,e.frm,e.fnum⟩
def z36 (revs:List Rev)(q:ByteArray)(p:Rev→Bool):Option Rev:=
 revs.foldl (fun o r=>if r.path=q∧p r=true then (match o with
  | none=>some r
  | some b=>if b.num<r.num then some r else some b) else o) none
theorem z5f (l:List UInt8):z2y l l=0:=by
 induction l with
 | nil=>rfl
 | cons a l ih=>simp [z2y,ih]
theorem cmpL_eq {l m:List UInt8}(h:z2y l m=0):l=m:=by
 induction l generalizing m with
 | nil=>cases m <;> simp [z2y] at h ⊢
 | cons a l ih =>
  cases m with
  | nil=>simp [z2y] at h
  | cons b m =>
   unfold z2y at h;by_cases e:a=b
   ·rw[if_pos e] at h;rw[e,ih h]
   ·rw[if_neg e] at h;split at h <;> (try split at h) <;> (try split at h) <;> simp at h
theorem z5g (l m:List UInt8):z2y m l=- z2y l m:=by
 induction l generalizing m with
 | nil=>cases m <;> simp [z2y]
 | cons a l ih =>
  cases m with
  | nil=>simp [z2y]
  | cons b m =>
   unfold z2y;by_cases e:a=b
   ·subst e;rw[if_pos rfl,if_pos rfl];exact ih m
   ·rw[if_neg e,if_neg (fun h=>e h.symm)];by_cases ha:a=47
    ·subst ha;rw[if_neg (fun h=>e h.symm),if_pos rfl,if_pos rfl];decide
    ·by_cases hb:b=47
     ·subst hb;rw[if_pos rfl,if_neg ha,if_pos rfl]
     ·rw[if_neg hb,if_neg ha,if_neg ha,if_neg hb];by_cases hl:a<b
      ·have:¬ b<a:=by rw[UInt8.lt_iff_toNat_lt] at hl ⊢;omega
       rw[if_neg this,if_pos hl];decide
      ·have:b<a:=by
        have:a.toNat≠b.toNat:=fun h=>e (UInt8.toNat_inj.1 h);rw[UInt8.lt_iff_toNat_lt] at hl ⊢;omega
       rw[if_neg hl,if_pos this]
def rk (c:UInt8):Nat:=if c=47 then 0 else c.toNat+1
theorem z5h (a b:UInt8)(l m:List UInt8):z2y (a :: l) (b :: m)<0↔rk a<rk b∨(a=b∧z2y l m<0):=by
 rw[z2y];by_cases e:a=b
 ·subst e;simp
 ·rw[if_neg e];unfold rk;by_cases ha:a=47
  ·subst ha;rw[if_pos rfl,if_pos rfl,if_neg (fun h=>e h.symm)];simp
  ·by_cases hb:b=47
   ·subst hb;simp [ha]
   ·simp only[ha,hb,if_false,e,false_and,or_false]
    by_cases hl:a<b
    ·rw[if_pos hl];rw[UInt8.lt_iff_toNat_lt] at hl;simp;omega
    ·rw[if_neg hl];rw[UInt8.lt_iff_toNat_lt] at hl;simp;omega
theorem z5i {l m n:List UInt8}(h1:z2y l m<0)(h2:z2y m n<0):z2y l n<0:=by
 induction l generalizing m n with
 | nil =>
  cases m with
  | nil=>simp [z2y] at h1
  | cons b m=>cases n with
   | nil=>simp [z2y] at h2
   | cons c n=>simp [z2y]
 | cons a l ih =>
  cases m with
  | nil=>simp [z2y] at h1
  | cons b m=>cases n with
   | nil=>simp [z2y] at h2
   | cons c n =>
    rw[z5h] at h1 h2 ⊢;rcases h1 with h1 | ⟨rfl,h1⟩ <;> rcases h2 with h2 | ⟨rfl,h2⟩
    ·left;omega
    ·left;exact h1
    ·left;exact h2
    ·right;exact⟨rfl,ih h1 h2⟩
theorem z5j {a b:ByteArray}(ha:z2x a=true)(hb:z2x b=true):z2z a b=z2y a.data.toList b.data.toList:=by
 unfold z2z;rw[ha,hb];rfl
theorem z5k (a:ByteArray):z2z a a=0:=by
 unfold z2z;split
 ·exact z5f _
 ·rfl
theorem z5l {a b c:ByteArray}(ha:z2x a=true)(hb:z2x b=true)(hc:z2x c=true)(h1:z2z a b<0)(h2:z2z b c<0):z2z a c<0:=by
 rw[z5j ha hb] at h1;rw[z5j hb hc] at h2;rw[z5j ha hc];exact z5i h1 h2
