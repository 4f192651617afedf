/- A part. -/
import Derived.Test.YtlnjaagijaadmaaGreatDoorMvw1
import Derived.Test.YtlnjaagijaadmaaGreatDoorMvw0
set_option linter.unusedVariables false
set_option linter.unusedSimpArgs false
namespace Go.Proofs.YtlnjaagijaadmaaGreatDoor
open Go.RowKit
structure Ty where
 base:Int
 k:Bool
 l:Bool
 x:Bool
deriving DecidableEq
def z2o:Ty:=⟨0,false,false,false⟩
def z2p (b:Int)(k x:Bool):Bool:=(b == 1) || ((b == 2) && !k) || ((b == 3) && !k && !x)
def Ty.ok (t:Ty):Bool:=z2p t.base t.k t.x
def z2q (n:Int):Bool->Int
 | true=>0
 | false=>n
structure Rev where
 kt:zA
 num:Int
 chg:Int
 act:Int
 ty:Ty
 sum:Int
 size:Int
 frm:zA
 fnum:Int
deriving DecidableEq
structure Edt where
 kt:zA
 act:Int
 ty:Ty
 sum:Int
 size:Int
 base:Int
 frm:zA
 fnum:Int
 fence:Int
deriving DecidableEq
structure Rcd where
 frm:zA
 first:Int
 last:Int
 to:zA
 num:Int
 how:Int
deriving DecidableEq
structure Chg where
 num:Int
 client:zA
 text:zA
 edits:List Edt
 recs:List Rcd
structure Dep where
 revs:List Rev
 recs:List Rcd
abbrev Fil:=zA×Int
def z2r:zA:=⟨#[]⟩
def z2s:Rev:=⟨z2r,0,0,0,z2o,0,0,z2r,0⟩
def z2t:Edt:=⟨z2r,0,z2o,0,0,0,z2r,0,0⟩
def z2u:Fil:=(z2r,0)
def Ty.cells (t:Ty):List zV:=[zI t.base,.bool t.k,.bool t.l,.bool t.x]
def Ty.val (t:Ty):zV:=.agg #[zI t.base,.bool t.k,.bool t.l,.bool t.x]
def Rev.cells (r:Rev):List zV:=[zS r.kt,zI r.num,zI r.chg,zI r.act,zI r.ty.base,.bool r.ty.k,.bool r.ty.l,.bool r.ty.x,.int .u64 r.sum,zI r.size,zS r.frm,zI r.fnum]
def Edt.cells (e:Edt):List zV:=[zS e.kt,zI e.act,zI e.ty.base,.bool e.ty.k,.bool e.ty.l,.bool e.ty.x,.int .u64 e.sum,zI e.size,zI e.base,zS e.frm,zI e.fnum,zI e.fence]
def Rcd.cells (r:Rcd):List zV:=[zS r.frm,zI r.first,zI r.last,zS r.to,zI r.num,zI r.how]
def z2v (f:Fil):zV:=.agg #[zS f.1,zI f.2]
def Rev.val (r:Rev):zV:=.agg r.cells.toArray
def Edt.val (e:Edt):zV:=.agg e.cells.toArray
def Rcd.val (r:Rcd):zV:=.agg r.cells.toArray
def z2w (l:List UInt8)(least:Nat):Option (List (List UInt8)):=
 if Lib.hasPrefix l [47,47]=true/\least<=(z1e (l.drop 2)).length/\(z1e (l.drop 2)).all z0y=true then some (z1e (l.drop 2)) else none
def z2x (l:List UInt8):Bool:=(z2w l 2).isSome
def z2y (s:zA):Bool:=z2x s.data.toList
def z2z:List UInt8->List UInt8->Int
 | [],[]=>0
 | [],_ :: _=>-1
 | _ :: _,[]=>1
 | a :: l,b :: m=>if a=b then z2z l m else if a=47 then -1 else if b=47 then 1 else if a<b then -1 else 1
def z30 (a b:zA):Int:=if z2y a && z2y b then z2z a.data.toList b.data.toList else 0
def z32 (a:Int):Bool:=(a != 3) && (a != 5)
def z33 (last:zA->Option Rev)(p:zA):Bool:=match last p with
 | none=>false
 | some r=>z32 r.act
def z34 (last:zA->Option Rev)(p:zA):Rev:=(last p).getD z2s
def orI (a b:Int):Int:=if a=0 then b else a
def z35 (a b:Int):Int:=if a<b then -1 else if b<a then 1 else 0
def ztj (a b:Rcd):Int:=orI (z30 a.to b.to) (orI (z35 a.num b.num) (orI (z30 a.frm b.frm) (z35 a.first b.first)))
def z36 (last:zA->Option Rev)(n:Int)(e:Edt):Rev:=⟨e.kt,(z34 last e.kt).num+1,n,e.act,e.ty,e.sum,e.size,e.frm,e.fnum⟩
def z38 (revs:List Rev)(q:zA)(p:Rev->Bool):Option Rev:=
 revs.foldl (fun o r=>if r.kt=q/\p r=true then (match o with
  | none=>some r
  | some b=>if b.num<r.num then some r else some b) else o) none
def ztk (last:zA->Option Rev)(e:Edt):Bool:=
 decide (e.act=2) && decide (e.ty=(z34 last e.kt).ty) && decide (e.sum=(z34 last e.kt).sum) && decide (e.size=(z34 last e.kt).size)
theorem z6l (l:List UInt8):z2z l l=0:=by
 induction l with
 | nil=>rfl
 | cons a l ih=>simp [z2z,ih]
theorem cmpL_eq {l m:List UInt8}(h:z2z l m=0):l=m:=by
 induction l generalizing m with
 | nil=>cases m <;> simp [z2z] at h |-
 | cons a l ih =>
  cases m with
  | nil=>simp [z2z] at h
  | cons b m =>
   unfold z2z at h;by_cases e:a=b
   ·rw[if_pos e] at h;rw[e,ih h]
   ·rw[if_neg e] at h;split at h <;> (try split at h) <;> (try split at h) <;> simp at h
theorem z6m (l m:List UInt8):z2z m l=- z2z l m:=by
 induction l generalizing m with
 | nil=>cases m <;> simp [z2z]
 | cons a l ih =>
  cases m with
  | nil=>simp [z2z]
  | cons b m =>
   unfold z2z;by_cases e:a=b
   ·subst e;rw[if_pos rfl,if_pos rfl];exact ih m
   ·rw[if_neg e,if_neg (fun h=>e h.symm)];by_cases ha:a=47
    ·subst ha;rw[if_neg (fun h=>e h.symm),if_pos rfl,if_pos rfl];decide
    ·by_cases hb:b=47
     ·subst hb;rw[if_pos rfl,if_neg ha,if_pos rfl]
     ·rw[if_neg hb,if_neg ha,if_neg ha,if_neg hb];by_cases hl:a<b
      ·have:¬ b<a:=by rw[UInt8.lt_iff_toNat_lt] at hl |-;omega
       rw[if_neg this,if_pos hl];decide
      ·have:b<a:=by
        have:a.toNat≠b.toNat:=fun h=>e (UInt8.toNat_inj.1 h);rw[UInt8.lt_iff_toNat_lt] at hl |-;omega
       rw[if_neg hl,if_pos this]
def rk (c:UInt8):Nat:=if c=47 then 0 else c.toNat+1
theorem z6n (a b:UInt8)(l m:List UInt8):z2z (a :: l) (b :: m)<0↔rk a<rk b\/(a=b/\z2z l m<0):=by
 rw[z2z];by_cases e:a=b
 ·subst e;simp
 ·rw[if_neg e];unfold rk;by_cases ha:a=47
  ·subst ha;rw[if_pos rfl,if_pos rfl,if_neg (fun h=>e h.symm)];simp
  ·by_cases hb:b=47
   ·subst hb;simp [ha]
   ·simp only[ha,hb,if_false,e,false_and,or_false]
    by_cases hl:a<b
    ·rw[if_pos hl];rw[UInt8.lt_iff_toNat_lt] at hl;simp;omega
    ·rw[if_neg hl];rw[UInt8.lt_iff_toNat_lt] at hl;simp;omega
theorem z6o {l m n:List UInt8}(h1:z2z l m<0)(h2:z2z m n<0):z2z l n<0:=by
 induction l generalizing m n with
 | nil =>
  cases m with
  | nil=>simp [z2z] at h1
  | cons b m=>cases n with
   | nil=>simp [z2z] at h2
   | cons c n=>simp [z2z]
 | cons a l ih =>
  cases m with
  | nil=>simp [z2z] at h1
  | cons b m=>cases n with
   | nil=>simp [z2z] at h2
   | cons c n =>
    rw[z6n] at h1 h2 |-;rcases h1 with h1 | ⟨rfl,h1⟩ <;> rcases h2 with h2 | ⟨rfl,h2⟩
    ·left;omega
    ·left;exact h1
    ·left;exact h2
    ·right;exact⟨rfl,ih h1 h2⟩
theorem z6p {a b:zA}(ha:z2y a=true)(hb:z2y b=true):z30 a b=z2z a.data.toList b.data.toList:=by
 unfold z30;rw[ha,hb];rfl
theorem z6q (a:zA):z30 a a=0:=by
 unfold z30;split
 ·exact z6l _
 ·rfl
theorem z6r {a b c:zA}(ha:z2y a=true)(hb:z2y b=true)(hc:z2y c=true)(h1:z30 a b<0)(h2:z30 b c<0):z30 a c<0:=by
 rw[z6p ha hb] at h1;rw[z6p hb hc] at h2;rw[z6p ha hc];exact z6o h1 h2
