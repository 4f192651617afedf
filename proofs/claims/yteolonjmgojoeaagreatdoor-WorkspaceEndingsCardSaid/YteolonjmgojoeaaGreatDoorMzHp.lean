/- Plain words for the history of files: revisions, edits, records, changes; what the program's Append answers. No program in sight. -/
import Derived.Test.YteolonjmgojoeaaGreatDoorPath
import Derived.Test.YteolonjmgojoeaaGreatDoorMgw1
import Derived.Test.YteolonjmgojoeaaGreatDoorMap
namespace Go.Proofs.YteolonjmgojoeaaGreatDoor
open Go.RowKit
set_option linter.unusedVariables false

structure Ty where
  base : Int
  k : Bool
  l : Bool
  x : Bool
deriving DecidableEq
def zeroTy : Ty := ⟨0, false, false, false⟩
def tyOk (b : Int) (k x : Bool) : Bool := (b == 1) || ((b == 2) && !k) || ((b == 3) && !k && !x)
def Ty.ok (t : Ty) : Bool := tyOk t.base t.k t.x
def errOf (n : Int) : Bool → Int
  | true => 0
  | false => n

structure Rev where
  path : ByteArray
  num : Int
  chg : Int
  act : Int
  ty : Ty
  sum : Int
  size : Int
  frm : ByteArray
  fnum : Int
deriving DecidableEq
structure Edt where
  path : ByteArray
  act : Int
  ty : Ty
  sum : Int
  size : Int
  base : Int
  frm : ByteArray
  fnum : Int
  fence : Int
deriving DecidableEq
structure Rcd where
  frm : ByteArray
  first : Int
  last : Int
  to : ByteArray
  num : Int
  how : Int
deriving DecidableEq
structure Chg where
  num : Int
  client : ByteArray
  text : ByteArray
  edits : List Edt
  recs : List Rcd
structure Dep where
  revs : List Rev
  recs : List Rcd
abbrev Fil := ByteArray × Int
def emptyS : ByteArray := ⟨#[]⟩
def zeroRev : Rev := ⟨emptyS, 0, 0, 0, zeroTy, 0, 0, emptyS, 0⟩
def zeroEdt : Edt := ⟨emptyS, 0, zeroTy, 0, 0, 0, emptyS, 0, 0⟩
def zeroFil : Fil := (emptyS, 0)

def Ty.cells (t : Ty) : List Value := [.int .i64 t.base, .bool t.k, .bool t.l, .bool t.x]
def Ty.val (t : Ty) : Value := .agg #[.int .i64 t.base, .bool t.k, .bool t.l, .bool t.x]
def Rev.cells (r : Rev) : List Value := [.string r.path, .int .i64 r.num, .int .i64 r.chg, .int .i64 r.act, .int .i64 r.ty.base, .bool r.ty.k, .bool r.ty.l, .bool r.ty.x, .int .u64 r.sum, .int .i64 r.size, .string r.frm, .int .i64 r.fnum]
def Edt.cells (e : Edt) : List Value := [.string e.path, .int .i64 e.act, .int .i64 e.ty.base, .bool e.ty.k, .bool e.ty.l, .bool e.ty.x, .int .u64 e.sum, .int .i64 e.size, .int .i64 e.base, .string e.frm, .int .i64 e.fnum, .int .i64 e.fence]
def Rcd.cells (r : Rcd) : List Value := [.string r.frm, .int .i64 r.first, .int .i64 r.last, .string r.to, .int .i64 r.num, .int .i64 r.how]
def filV (f : Fil) : Value := .agg #[.string f.1, .int .i64 f.2]
def Rev.val (r : Rev) : Value := .agg r.cells.toArray
def Edt.val (e : Edt) : Value := .agg e.cells.toArray
def Rcd.val (r : Rcd) : Value := .agg r.cells.toArray

/-! Paths. -/
def dirL (l : List UInt8) (least : Nat) : Option (List (List UInt8)) :=
  if Lib.hasPrefix l [47, 47] = true ∧ least ≤ (splitL (l.drop 2)).length ∧ (splitL (l.drop 2)).all compL = true then some (splitL (l.drop 2)) else none
def validB (l : List UInt8) : Bool := (dirL l 2).isSome
def validS (s : ByteArray) : Bool := validB s.data.toList
/-- path.Compare's order on the bytes of paths. -/
def cmpL : List UInt8 → List UInt8 → Int
  | [], [] => 0
  | [], _ :: _ => -1
  | _ :: _, [] => 1
  | a :: l, b :: m => if a = b then cmpL l m else if a = 47 then -1 else if b = 47 then 1 else if a < b then -1 else 1
def cmpP (a b : ByteArray) : Int := if validS a && validS b then cmpL a.data.toList b.data.toList else 0

/-! The examination of a change. -/
def liveA (a : Int) : Bool := (a != 3) && (a != 5)
def lastM (f : ByteArray → Option Rev) (r : Rev) : ByteArray → Option Rev :=
  match f r.path with
  | none => upd f r.path r
  | some b => if b.num < r.num then upd f r.path r else f
def lastOf (revs : List Rev) : ByteArray → Option Rev := revs.foldl lastM fun _ => none
def lineV (f : Fil → Option Fil) (r : Rev) : Fil :=
  if r.act = 1 then (r.path, r.num) else if r.act = 4 then (f (r.frm, r.fnum)).getD zeroFil else (f (r.path, r.num - 1)).getD zeroFil
def lineM (f : Fil → Option Fil) (r : Rev) : Fil → Option Fil := if r.act = 5 then f else upd f (r.path, r.num) (lineV f r)
def linesOf (revs : List Rev) : Fil → Option Fil := revs.foldl lineM fun _ => none
def isLast (last : ByteArray → Option Rev) (p : ByteArray) : Bool := match last p with
  | none => false
  | some r => liveA r.act
def lastR (last : ByteArray → Option Rev) (p : ByteArray) : Rev := (last p).getD zeroRev

def sizeE (revs : List Rev) (c : Chg) : Int :=
  if c.edits.length = 0 ∨ 64 < c.edits.length ∨ 64 < c.recs.length then 110
  else if c.num < 1 ∨ 1073741824 < c.num then 112
  else if revs.any (fun r => decide (c.num ≤ r.chg)) then 112 else 0

/-- The action and the base of an edit. -/
def actE (last : ByteArray → Option Rev) (e : Edt) : Int :=
  if e.act = 1 ∨ e.act = 4 then (if isLast last e.path then 113 else 0)
  else if e.act = 2 ∨ e.act = 3 ∨ e.act = 5 then (if isLast last e.path then 0 else 113) else 113
def fromE (last : ByteArray → Option Rev) (e : Edt) : Bool :=
  if e.act = 4 then isLast last e.frm && !decide (e.frm = e.path) && decide (e.fnum = (lastR last e.frm).num)
  else decide (e.frm = emptyS) && decide (e.fnum = 0)
def typeE (last : ByteArray → Option Rev) (e : Edt) : Bool :=
  e.ty.ok && decide (0 ≤ e.size) && (liveA e.act || (decide (e.ty = (lastR last e.path).ty) && decide (e.sum = 0) && decide (e.size = 0)))
def oneE (last : ByteArray → Option Rev) (e : Edt) : Int :=
  if actE last e ≠ 0 then actE last e
  else if e.base ≠ (lastR last e.path).num then 114
  else if fromE last e = false then 115
  else if typeE last e = false then 116 else 0
/-- An edit behind the path of the one ahead ("": none). -/
def editE (last : ByteArray → Option Rev) (before : ByteArray) (e : Edt) : Int :=
  if validS e.path = false ∨ 200 < e.path.size then 111
  else if before ≠ emptyS ∧ 0 ≤ cmpP before e.path then 112 else oneE last e
def everyE (last : ByteArray → Option Rev) : ByteArray → List Edt → Int
  | _, [] => 0
  | before, e :: es => if editE last before e ≠ 0 then editE last before e else everyE last e.path es
def editsOf (es : List Edt) : ByteArray → Option Edt := es.foldl (fun f e => upd f e.path e) fun _ => none

def arrivals (es : List Edt) (p : ByteArray) : Nat := es.countP fun e => decide (e.act = 4) && decide (e.frm = p)
def moveOk (es : List Edt) (ed : ByteArray → Option Edt) (e : Edt) : Bool :=
  if e.act = 5 then decide (arrivals es e.path = 1) else if e.act = 4 then decide (((ed e.frm).getD zeroEdt).act = 5) else true
def movesE (es : List Edt) : Int := if es.all (moveOk es (editsOf es)) then 0 else 117

/-- cmp.Or: the first that is not zero. -/
def orI (a b : Int) : Int := if a = 0 then b else a
def cmpI (a b : Int) : Int := if a < b then -1 else if b < a then 1 else 0
def cmpR (a b : Rcd) : Int := orI (cmpP a.to b.to) (orI (cmpI a.num b.num) (orI (cmpP a.frm b.frm) (cmpI a.first b.first)))

/-- The revision that an edit makes. -/
def madeR (last : ByteArray → Option Rev) (n : Int) (e : Edt) : Rev := ⟨e.path, (lastR last e.path).num + 1, n, e.act, e.ty, e.sum, e.size, e.frm, e.fnum⟩
/-- The revision of a path with the greatest number among those of which p holds. -/
def greatest (revs : List Rev) (q : ByteArray) (p : Rev → Bool) : Option Rev :=
  revs.foldl (fun o r => if r.path = q ∧ p r = true then (match o with
    | none => some r
    | some b => if b.num < r.num then some r else some b) else o) none
def sourceR (revs : List Rev) (r : Rcd) (target : Fil) : Option Rev :=
  match greatest revs r.frm (fun v => decide (v.num = r.last)) with
  | none => none
  | some v =>
    if r.first < 1 ∨ r.last < r.first ∨ (revs.length : Int) ≤ r.last - r.first then none
    else match linesOf revs (r.frm, r.last) with
      | none => none
      | some line => if line = target then none
        else if (List.range (r.last - r.first).toNat).all (fun i => decide (linesOf revs (r.frm, r.first + i) = some line)) then some v else none
def isRec (revs : List Rev) (n : Int) (ed : ByteArray → Option Edt) (r : Rcd) : Bool :=
  match ed r.to with
  | none => false
  | some e =>
    if e.act = 5 ∨ r.num ≠ e.base + 1 ∨ r.how < 1 ∨ 4 < r.how then false
    else match sourceR revs r (lineV (linesOf revs) (madeR (lastOf revs) n e)) with
      | none => false
      | some v => if r.how = 1 then (if v.act = 3 then decide (e.act = 3) else (!decide (e.act = 3)) && decide (e.ty = v.ty) && decide (e.sum = v.sum) && decide (e.size = v.size)) else true
def worked (rs : List Rcd) (p : ByteArray) : Bool := rs.any fun r => decide (r.how ≠ 3) && decide (r.to = p)
def unchanged (last : ByteArray → Option Rev) (e : Edt) : Bool :=
  decide (e.act = 2) && decide (e.ty = (lastR last e.path).ty) && decide (e.sum = (lastR last e.path).sum) && decide (e.size = (lastR last e.path).size)
def recOk (revs : List Rev) (c : Chg) (ed : ByteArray → Option Edt) (r : Rcd) : Bool :=
  isRec revs c.num ed r && (worked c.recs r.to || unchanged (lastOf revs) ((ed r.to).getD zeroEdt))
def recsF (revs : List Rev) (c : Chg) (ed : ByteArray → Option Edt) : Option Rcd → List Rcd → Bool
  | _, [] => true
  | before, r :: rs => (match before with
    | none => true
    | some b => decide (cmpR b r < 0)) && recOk revs c ed r && recsF revs c ed (some r) rs
def recsE (revs : List Rev) (c : Chg) : Int := if recsF revs c (editsOf c.edits) none c.recs then 0 else 118
def roomE (d : Dep) (c : Chg) : Int := if 512 < d.revs.length + c.edits.length ∨ 512 < d.recs.length + c.recs.length then 110 else 0

/-- The first that is not zero. -/
def firstE : List Int → Int
  | [] => 0
  | a :: l => if a ≠ 0 then a else firstE l
def appE (d : Dep) (c : Chg) : Int := firstE [sizeE d.revs c, everyE (lastOf d.revs) emptyS c.edits, movesE c.edits, recsE d.revs c, roomE d c]
def newRevs (d : Dep) (c : Chg) : List Rev := d.revs ++ c.edits.map (madeR (lastOf d.revs) c.num)
end Go.Proofs.YteolonjmgojoeaaGreatDoor
