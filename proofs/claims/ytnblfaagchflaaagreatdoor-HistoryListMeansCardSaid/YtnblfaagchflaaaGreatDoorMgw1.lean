/- Plain words for the history of files: revisions, edits, records, changes; what the program's Append answers. No program in sight. -/
import Derived.Test.YtnblfaagchflaaaGreatDoorMgw0
import Derived.Test.YtnblfaagchflaaaGreatDoorMap
namespace Go.Proofs.YtnblfaagchflaaaGreatDoor
open Go.RowKit
set_option linter.unusedVariables false

structure Ty where
  base : Int
  k : Bool
  l : Bool
  x : Bool
deriving DecidableEq
def zeroTy : Ty := ⟨0, false, false, false⟩
def tyOk (b : Int) (k x : Bool) : Bool := (b == 1) || ((b == 2) && !k) || ((b == 3) && !k && !x)
def Ty.ok (t : Ty) : Bool := tyOk t.base t.k t.x
def errOf (n : Int) : Bool → Int
  | true => 0
  | false => n

structure Rev where
  path : ByteArray
  num : Int
  chg : Int
  act : Int
  ty : Ty
  sum : Int
  size : Int
  frm : ByteArray
  fnum : Int
deriving DecidableEq
structure Edt where
  path : ByteArray
  act : Int
  ty : Ty
  sum : Int
  size : Int
  base : Int
  frm : ByteArray
  fnum : Int
  fence : Int
deriving DecidableEq
structure Rcd where
  frm : ByteArray
  first : Int
  last : Int
  to : ByteArray
  num : Int
  how : Int
deriving DecidableEq
structure Chg where
  num : Int
  client : ByteArray
  text : ByteArray
  edits : List Edt
  recs : List Rcd
structure Dep where
  revs : List Rev
  recs : List Rcd
abbrev Fil := ByteArray × Int
def emptyS : ByteArray := ⟨#[]⟩
def zeroRev : Rev := ⟨emptyS, 0, 0, 0, zeroTy, 0, 0, emptyS, 0⟩
def zeroEdt : Edt := ⟨emptyS, 0, zeroTy, 0, 0, 0, emptyS, 0, 0⟩
def zeroFil : Fil := (emptyS, 0)

def Ty.cells (t : Ty) : List Value := [.int .i64 t.base, .bool t.k, .bool t.l, .bool t.x]
def Ty.val (t : Ty) : Value := .agg #[.int .i64 t.base, .bool t.k, .bool t.l, .bool t.x]
def Rev.cells (r : Rev) : List Value := [.string r.path, .int .i64 r.num, .int .i64 r.chg, .int .i64 r.act, .int .i64 r.ty.base, .bool r.ty.k, .bool r.ty.l, .bool r.ty.x, .int .u64 r.sum, .int .i64 r.size, .string r.frm, .int .i64 r.fnum]
def Edt.cells (e : Edt) : List Value := [.string e.path, .int .i64 e.act, .int .i64 e.ty.base, .bool e.ty.k, .bool e.ty.l, .bool e.ty.x, .int .u64 e.sum, .int .i64 e.size, .int .i64 e.base, .string e.frm, .int .i64 e.fnum, .int .i64 e.fence]
def Rcd.cells (r : Rcd) : List Value := [.string r.frm, .int .i64 r.first, .int .i64 r.last, .string r.to, .int .i64 r.num, .int .i64 r.how]
def filV (f : Fil) : Value := .agg #[.string f.1, .int .i64 f.2]
def Rev.val (r : Rev) : Value := .agg r.cells.toArray
def Edt.val (e : Edt) : Value := .agg e.cells.toArray
def Rcd.val (r : Rcd) : Value := .agg r.cells.toArray

/-! Paths. -/
def dirL (l : List UInt8) (least : Nat) : Option (List (List UInt8)) :=
  if Lib.hasPrefix l [47, 47] = true ∧ least ≤ (splitL (l.drop 2)).length ∧ (splitL (l.drop 2)).all compL = true then some (splitL (l.drop 2)) else none
def validB (l : List UInt8) : Bool := (dirL l 2).isSome
def validS (s : ByteArray) : Bool := validB s.data.toList
/-- path.Compare's order on the bytes of paths. -/
def cmpL : List UInt8 → List UInt8 → Int
  | [], [] => 0
  | [], _ :: _ => -1
  | _ :: _, [] => 1
  | a :: l, b :: m => if a = b then cmpL l m else if a = 47 then -1 else if b = 47 then 1 else if a < b then -1 else 1
def cmpP (a b : ByteArray) : Int := if validS a && validS b then cmpL a.data.toList b.data.toList else 0

/-! The examination of a change. -/
def liveA (a : Int) : Bool := (a != 3) && (a != 5)
def lastM (f : ByteArray → Option Rev) (r : Rev) : ByteArray → Option Rev :=
  match f r.path with
  | none => upd f r.path r
  | some b => if b.num < r.num then upd f r.path r else f
def lastOf (revs : List Rev) : ByteArray → Option Rev := revs.foldl lastM fun _ => none
def lineV (f : Fil → Option Fil) (r : Rev) : Fil :=
  if r.act = 1 then (r.path, r.num) else if r.act = 4 then (f (r.frm, r.fnum)).getD zeroFil else (f (r.path, r.num - 1)).getD zeroFil
def lineM (f : Fil → Option Fil) (r : Rev) : Fil → Option Fil := if r.act = 5 then f else upd f (r.path, r.num) (lineV f r)
def linesOf (revs : List Rev) : Fil → Option Fil := revs.foldl lineM fun _ => none
def isLast (last : ByteArray → Option Rev) (p : ByteArray) : Bool := match last p with
  | none => false
  | some r => liveA r.act
def lastR (last : ByteArray → Option Rev) (p : ByteArray) : Rev := (last p).getD zeroRev

def sizeE (revs : List Rev) (c : Chg) : Int :=
  if c.edits.length = 0 ∨ 64 < c.edits.length ∨ 64 < c.recs.length then 110
  else if c.num < 1 ∨ 1073741824 < c.num then 112
  else if revs.any (fun r => decide (c.num ≤ r.chg)) then 112 else 0

/-- The action and the base of an edit. -/
def actE (last : ByteArray → Option Rev) (e : Edt) : Int :=
  if e.act = 1 ∨ e.act = 4 then (if isLast last e.path then 113 else 0)
  else if e.act = 2 ∨ e.act = 3 ∨ e.act = 5 then (if isLast last e.path then 0 else 113) else 113
def fromE (last : ByteArray → Option Rev) (e : Edt) : Bool :=
  if e.act = 4 then isLast last e.frm && !decide (e.frm = e.path) && decide (e.fnum = (lastR last e.frm).num)
  else decide (e.frm = emptyS) && decide (e.fnum = 0)
def typeE (last : ByteArray → Option Rev) (e : Edt) : Bool :=
  e.ty.ok && decide (0 ≤ e.size) && (liveA e.act || (decide (e.ty = (lastR last e.path).ty) && decide (e.sum = 0) && decide (e.size = 0)))
def oneE (last : ByteArray → Option Rev) (e : Edt) : Int :=
  if actE last e ≠ 0 then actE last e
  else if e.base ≠ (lastR last e.path).num then 114
  else if fromE last e = false then 115
  else if typeE last e = false then 116 else 0
/-- An edit behind the path of the one ahead ("": none). -/
def editE (last : ByteArray → Option Rev) (before : ByteArray) (e : Edt) : Int :=
  if validS e.path = false ∨ 200 < e.path.size then 111
  else if before ≠ emptyS ∧ 0 ≤ cmpP before e.path then 112 else oneE last e
def everyE (last : ByteArray → Option Rev) : ByteArray → List Edt → Int
  | _, [] => 0
  | before, e :: es => if editE last before e ≠ 0 then editE last before e else everyE last e.path es
def editsOf (es : List Edt) : ByteArray → Option Edt := es.foldl (fun f e => upd f e.path e) fun _ => none

def arrivals (es : List Edt) (p : ByteArray) : Nat := es.countP fun e => decide (e.act = 4) && decide (e.frm = p)
def moveOk (es : List Edt) (ed : ByteArray → Option Edt) (e : Edt) : Bool :=
  if e.act = 5 then decide (arrivals es e.path = 1) else if e.act = 4 then decide (((ed e.frm).getD zeroEdt).act = 5) else true
def movesE (es : List Edt) : Int := if es.all (moveOk es (editsOf es)) then 0 else 117

/-- cmp.Or: the first that is not zero. -/
def orI (a b : Int) : Int := if a = 0 then b else a
def cmpI (a b : Int) : Int := if a < b then -1 else if b < a then 1 else 0
def cmpR (a b : Rcd) : Int := orI (cmpP a.to b.to) (orI (cmpI a.num b.num) (orI (cmpP a.frm b.frm) (cmpI a.first b.first)))

/-- The revision that an edit makes. -/
def madeR (last : ByteArray → Option Rev) (n : Int) (e : Edt) : Rev := ⟨e.path, (lastR last e.path).num + 1, n, e.act, e.ty, e.sum, e.size, e.frm, e.fnum⟩
/-- The revision of a path with the greatest number among those of which p holds. -/
def greatest (revs : List Rev) (q : ByteArray) (p : Rev → Bool) : Option Rev :=
  revs.foldl (fun o r => if r.path = q ∧ p r = true then (match o with
    | none => some r
    | some b => if b.num < r.num then some r else some b) else o) none
def sourceR (revs : List Rev) (r : Rcd) (target : Fil) : Option Rev :=
  match greatest revs r.frm (fun v => decide (v.num = r.last)) with
  | none => none
  | some v =>
    if r.first < 1 ∨ r.last < r.first ∨ (revs.length : Int) ≤ r.last - r.first then none
    else match linesOf revs (r.frm, r.last) with
      | none => none
      | some line => if line = target then none
        else if (List.range (r.last - r.first).toNat).all (fun i => decide (linesOf revs (r.frm, r.first + i) = some line)) then some v else none
def isRec (revs : List Rev) (n : Int) (ed : ByteArray → Option Edt) (r : Rcd) : Bool :=
  match ed r.to with
  | none => false
  | some e =>
    if e.act = 5 ∨ r.num ≠ e.base + 1 ∨ r.how < 1 ∨ 4 < r.how then false
    else match sourceR revs r (lineV (linesOf revs) (madeR (lastOf revs) n e)) with
      | none => false
      | some v => if r.how = 1 then (if v.act = 3 then decide (e.act = 3) else (!decide (e.act = 3)) && decide (e.ty = v.ty) && decide (e.sum = v.sum) && decide (e.size = v.size)) else true
def worked (rs : List Rcd) (p : ByteArray) : Bool := rs.any fun r => decide (r.how ≠ 3) && decide (r.to = p)
def unchanged (last : ByteArray → Option Rev) (e : Edt) : Bool :=
  decide (e.act = 2) && decide (e.ty = (lastR last e.path).ty) && decide (e.sum = (lastR last e.path).sum) && decide (e.size = (lastR last e.path).size)
def recOk (revs : List Rev) (c : Chg) (ed : ByteArray → Option Edt) (r : Rcd) : Bool :=
  isRec revs c.num ed r && (worked c.recs r.to || unchanged (lastOf revs) ((ed r.to).getD zeroEdt))
def recsF (revs : List Rev) (c : Chg) (ed : ByteArray → Option Edt) : Option Rcd → List Rcd → Bool
  | _, [] => true
  | before, r :: rs => (match before with
    | none => true
    | some b => decide (cmpR b r < 0)) && recOk revs c ed r && recsF revs c ed (some r) rs
def recsE (revs : List Rev) (c : Chg) : Int := if recsF revs c (editsOf c.edits) none c.recs then 0 else 118
def roomE (d : Dep) (c : Chg) : Int := if 512 < d.revs.length + c.edits.length ∨ 512 < d.recs.length + c.recs.length then 110 else 0

/-- The first that is not zero. -/
def firstE : List Int → Int
  | [] => 0
  | a :: l => if a ≠ 0 then a else firstE l
def appE (d : Dep) (c : Chg) : Int := firstE [sizeE d.revs c, everyE (lastOf d.revs) emptyS c.edits, movesE c.edits, recsE d.revs c, roomE d c]
def newRevs (d : Dep) (c : Chg) : List Rev := d.revs ++ c.edits.map (madeR (lastOf d.revs) c.num)
end Go.Proofs.YtnblfaagchflaaaGreatDoor
/- Plain facts on the order of paths. -/
namespace Go.Proofs.YtnblfaagchflaaaGreatDoor
open Go.RowKit
set_option linter.unusedVariables false
set_option linter.unusedSimpArgs false

theorem cmpL_self (l : List UInt8) : cmpL l l = 0 := by
  induction l with
  | nil => rfl
  | cons a l ih => simp [cmpL, ih]
theorem cmpL_range (l m : List UInt8) : cmpL l m = -1 ∨ cmpL l m = 0 ∨ cmpL l m = 1 := by
  induction l generalizing m with
  | nil => cases m <;> simp [cmpL]
  | cons a l ih =>
    cases m with
    | nil => simp [cmpL]
    | cons b m =>
      unfold cmpL
      by_cases h : a = b
      · rw [if_pos h]; exact ih m
      · rw [if_neg h]; split <;> (try split) <;> (try split) <;> simp
theorem cmpL_eq {l m : List UInt8} (h : cmpL l m = 0) : l = m := by
  induction l generalizing m with
  | nil => cases m <;> simp [cmpL] at h ⊢
  | cons a l ih =>
    cases m with
    | nil => simp [cmpL] at h
    | cons b m =>
      unfold cmpL at h
      by_cases e : a = b
      · rw [if_pos e] at h; rw [e, ih h]
      · rw [if_neg e] at h; split at h <;> (try split at h) <;> (try split at h) <;> simp at h
theorem cmpL_anti (l m : List UInt8) : cmpL m l = - cmpL l m := by
  induction l generalizing m with
  | nil => cases m <;> simp [cmpL]
  | cons a l ih =>
    cases m with
    | nil => simp [cmpL]
    | cons b m =>
      unfold cmpL
      by_cases e : a = b
      · subst e; rw [if_pos rfl, if_pos rfl]; exact ih m
      · rw [if_neg e, if_neg (fun h => e h.symm)]
        by_cases ha : a = 47
        · subst ha
          rw [if_neg (fun h => e h.symm), if_pos rfl, if_pos rfl]
          decide
        · by_cases hb : b = 47
          · subst hb; rw [if_pos rfl, if_neg ha, if_pos rfl]
          · rw [if_neg hb, if_neg ha, if_neg ha, if_neg hb]
            by_cases hl : a < b
            · have : ¬ b < a := by rw [UInt8.lt_iff_toNat_lt] at hl ⊢; omega
              rw [if_neg this, if_pos hl]; decide
            · have : b < a := by
                have : a.toNat ≠ b.toNat := fun h => e (UInt8.toNat_inj.1 h)
                rw [UInt8.lt_iff_toNat_lt] at hl ⊢; omega
              rw [if_neg hl, if_pos this]
def rk (c : UInt8) : Nat := if c = 47 then 0 else c.toNat + 1
theorem rk_inj {a b : UInt8} (h : rk a = rk b) : a = b := by
  unfold rk at h
  split at h <;> split at h
  · simp_all
  · omega
  · omega
  · exact UInt8.toNat_inj.1 (by omega)
theorem cmpL_cons (a b : UInt8) (l m : List UInt8) : cmpL (a :: l) (b :: m) < 0 ↔ rk a < rk b ∨ (a = b ∧ cmpL l m < 0) := by
  rw [cmpL]
  by_cases e : a = b
  · subst e; simp
  · rw [if_neg e]
    unfold rk
    by_cases ha : a = 47
    · subst ha; rw [if_pos rfl, if_pos rfl, if_neg (fun h => e h.symm)]; simp
    · by_cases hb : b = 47
      · subst hb; simp [ha]
      · simp only [ha, hb, if_false, e, false_and, or_false]
        by_cases hl : a < b
        · rw [if_pos hl]; rw [UInt8.lt_iff_toNat_lt] at hl; simp; omega
        · rw [if_neg hl]; rw [UInt8.lt_iff_toNat_lt] at hl; simp; omega
theorem cmpL_trans {l m n : List UInt8} (h1 : cmpL l m < 0) (h2 : cmpL m n < 0) : cmpL l n < 0 := by
  induction l generalizing m n with
  | nil =>
    cases m with
    | nil => simp [cmpL] at h1
    | cons b m => cases n with
      | nil => simp [cmpL] at h2
      | cons c n => simp [cmpL]
  | cons a l ih =>
    cases m with
    | nil => simp [cmpL] at h1
    | cons b m => cases n with
      | nil => simp [cmpL] at h2
      | cons c n =>
        rw [cmpL_cons] at h1 h2 ⊢
        rcases h1 with h1 | ⟨rfl, h1⟩ <;> rcases h2 with h2 | ⟨rfl, h2⟩
        · left; omega
        · left; exact h1
        · left; exact h2
        · right; exact ⟨rfl, ih h1 h2⟩

end Go.Proofs.YtnblfaagchflaaaGreatDoor
/- Plain: a change that was accepted is refused again (HistoryOnce). -/
namespace Go.Proofs.YtnblfaagchflaaaGreatDoor
open Go.RowKit
set_option linter.unusedVariables false
set_option linter.unusedSimpArgs false

theorem everyE_cons {last : ByteArray → Option Rev} {b : ByteArray} {e : Edt} {es : List Edt} (h : everyE last b (e :: es) = 0) : editE last b e = 0 ∧ everyE last e.path es = 0 := by
  unfold everyE at h
  split at h
  · exact absurd h (by assumption)
  · rename_i hn; exact ⟨Decidable.not_not.1 hn, h⟩
theorem editE_zero {last : ByteArray → Option Rev} {b : ByteArray} {e : Edt} (h : editE last b e = 0) : validS e.path = true ∧ e.path.size ≤ 200 ∧ (b ≠ emptyS → cmpP b e.path < 0) ∧ oneE last e = 0 := by
  unfold editE at h
  split at h
  · omega
  · rename_i h1
    split at h
    · omega
    · rename_i h2
      rw [not_or] at h1
      refine ⟨by simpa using h1.1, by omega, fun hb => ?_, h⟩
      have : ¬ 0 ≤ cmpP b e.path := fun hh => h2 ⟨hb, hh⟩
      omega
theorem valid_ne {p : ByteArray} (h : validS p = true) : p ≠ emptyS := by
  intro e; subst e; revert h; decide
theorem cmpP_valid {a b : ByteArray} (ha : validS a = true) (hb : validS b = true) : cmpP a b = cmpL a.data.toList b.data.toList := by
  unfold cmpP; rw [ha, hb]; rfl
theorem cmpP_self (a : ByteArray) : cmpP a a = 0 := by
  unfold cmpP; split
  · exact cmpL_self _
  · rfl
theorem cmpP_trans {a b c : ByteArray} (ha : validS a = true) (hb : validS b = true) (hc : validS c = true) (h1 : cmpP a b < 0) (h2 : cmpP b c < 0) : cmpP a c < 0 := by
  rw [cmpP_valid ha hb] at h1; rw [cmpP_valid hb hc] at h2; rw [cmpP_valid ha hc]; exact cmpL_trans h1 h2
/-- Each edit comes behind the one ahead. -/
theorem everyE_after {last : ByteArray → Option Rev} {b : ByteArray} {es : List Edt} (hb : validS b = true) (h : everyE last b es = 0) : ∀ e ∈ es, validS e.path = true ∧ cmpP b e.path < 0 := by
  induction es generalizing b with
  | nil => intro e he; simp at he
  | cons x es ih =>
    obtain ⟨h1, h2⟩ := everyE_cons h
    obtain ⟨v, -, hc, -⟩ := editE_zero h1
    have hx := hc (valid_ne hb)
    intro e he
    rcases List.mem_cons.1 he with rfl | he
    · exact ⟨v, hx⟩
    · obtain ⟨v2, h3⟩ := ih v h2 e he
      exact ⟨v2, cmpP_trans hb v v2 hx h3⟩
theorem everyE_paths {last : ByteArray → Option Rev} {b : ByteArray} {es : List Edt} (h : everyE last b es = 0) : es.Pairwise (fun x y => cmpP x.path y.path < 0) ∧ ∀ e ∈ es, validS e.path = true ∧ e.path.size ≤ 200 ∧ oneE last e = 0 := by
  induction es generalizing b with
  | nil => simp
  | cons x es ih =>
    obtain ⟨h1, h2⟩ := everyE_cons h
    obtain ⟨v, hz, hc, ho⟩ := editE_zero h1
    obtain ⟨i1, i2⟩ := ih h2
    refine ⟨List.pairwise_cons.2 ⟨fun e he => (everyE_after v h2 e he).2, i1⟩, fun e he => ?_⟩
    rcases List.mem_cons.1 he with rfl | he
    · exact ⟨v, hz, ho⟩
    · exact i2 e he
theorem path_ne {a b : Edt} (h : cmpP a.path b.path < 0) : a.path ≠ b.path := by
  intro e; rw [e, cmpP_self] at h; omega
theorem paths_nodup {es : List Edt} (h : es.Pairwise (fun x y => cmpP x.path y.path < 0)) : (es.map (·.path)).Nodup := by
  rw [List.Nodup, List.pairwise_map]
  exact h.imp path_ne

theorem lastM_other (f : ByteArray → Option Rev) (r : Rev) {p : ByteArray} (h : p ≠ r.path) : lastM f r p = f p := by
  unfold lastM
  cases f r.path with
  | none => simp [upd, h]
  | some b => by_cases hb : b.num < r.num <;> simp [hb, upd, h]
theorem lastM_self (f : ByteArray → Option Rev) (r : Rev) (h : ∀ b, f r.path = some b → b.num < r.num) : lastM f r r.path = some r := by
  unfold lastM
  cases hf : f r.path with
  | none => simp [upd]
  | some b => simp [h b hf, upd]
theorem lasts_other (news : List Rev) (f : ByteArray → Option Rev) {p : ByteArray} (h : p ∉ news.map (·.path)) : news.foldl lastM f p = f p := by
  induction news generalizing f with
  | nil => rfl
  | cons r news ih =>
    rw [List.map_cons, List.mem_cons, not_or] at h
    rw [List.foldl_cons, ih _ h.2, lastM_other f r h.1]
theorem lastOf_app (a b : List Rev) : lastOf (a ++ b) = b.foldl lastM (lastOf a) := by unfold lastOf; rw [List.foldl_append]
theorem made_paths (last : ByteArray → Option Rev) (n : Int) (es : List Edt) : ((es.map (madeR last n)).map (·.path)) = es.map (·.path) := by
  rw [List.map_map]; rfl
/-- The last revision of a path behind the change: the edit's, or the old one. -/
theorem lasts_made (last : ByteArray → Option Rev) (n : Int) (es : List Edt) (hn : (es.map (·.path)).Nodup) (e : Edt) (he : e ∈ es) :
    (es.map (madeR last n)).foldl lastM last e.path = some (madeR last n e) := by
  have key : ∀ (es : List Edt) (f : ByteArray → Option Rev), (es.map (·.path)).Nodup → (∀ x ∈ es, f x.path = last x.path) → e ∈ es → (es.map (madeR last n)).foldl lastM f e.path = some (madeR last n e) := by
    intro es
    induction es with
    | nil => intro f _ _ he; simp at he
    | cons x es ih =>
      intro f hn hf he
      rw [List.map_cons, List.nodup_cons] at hn
      rw [List.map_cons, List.foldl_cons]
      rcases List.mem_cons.1 he with rfl | he
      · rw [lasts_other _ _ (by rw [made_paths]; exact hn.1)]
        refine lastM_self f (madeR last n e) fun b hb => ?_
        have : last e.path = some b := by rw [← hf e (List.mem_cons_self ..)]; exact hb
        show b.num < (lastR last e.path).num + 1
        unfold lastR
        rw [this]
        simp
        omega
      · refine ih _ hn.2 (fun y hy => ?_) he
        have hne : y.path ≠ x.path := fun h => hn.1 (by rw [← h]; exact List.mem_map.2 ⟨y, hy, rfl⟩)
        rw [lastM_other f (madeR last n x) hne]
        exact hf y (List.mem_cons_of_mem _ hy)
  exact key es last hn (fun _ _ => rfl) he

theorem firstE_zero {a : Int} {l : List Int} (h : firstE (a :: l) = 0) : a = 0 ∧ firstE l = 0 := by
  unfold firstE at h
  split at h
  · exact absurd h (by assumption)
  · rename_i hn; exact ⟨Decidable.not_not.1 hn, h⟩
theorem appE_zero {d : Dep} {c : Chg} (h : appE d c = 0) : sizeE d.revs c = 0 ∧ everyE (lastOf d.revs) emptyS c.edits = 0 ∧ movesE c.edits = 0 ∧ recsE d.revs c = 0 ∧ roomE d c = 0 := by
  unfold appE at h
  obtain ⟨h1, h⟩ := firstE_zero h
  obtain ⟨h2, h⟩ := firstE_zero h
  obtain ⟨h3, h⟩ := firstE_zero h
  obtain ⟨h4, h⟩ := firstE_zero h
  obtain ⟨h5, h⟩ := firstE_zero h
  exact ⟨h1, h2, h3, h4, h5⟩
theorem sizeE_zero {revs : List Rev} {c : Chg} (h : sizeE revs c = 0) : 1 ≤ c.edits.length ∧ c.edits.length ≤ 64 ∧ c.recs.length ≤ 64 ∧ 1 ≤ c.num ∧ c.num ≤ 1073741824 ∧ ∀ r ∈ revs, r.chg < c.num := by
  unfold sizeE at h
  split at h
  · omega
  · rename_i h1
    split at h
    · omega
    · rename_i h2
      split at h
      · omega
      · rename_i h3
        refine ⟨by omega, by omega, by omega, by omega, by omega, fun r hr => ?_⟩
        have h3' : (revs.any fun r => decide (c.num ≤ r.chg)) = false := by simpa using h3
        have := List.any_eq_false.1 h3' r hr
        simp at this
        omega
theorem oneE_zero {last : ByteArray → Option Rev} {e : Edt} (h : oneE last e = 0) : actE last e = 0 ∧ e.base = (lastR last e.path).num ∧ fromE last e = true ∧ typeE last e = true := by
  unfold oneE at h
  split at h
  · exact absurd h (by assumption)
  · rename_i h1
    split at h
    · omega
    · rename_i h2
      split at h
      · omega
      · rename_i h3
        split at h
        · omega
        · rename_i h4
          exact ⟨Decidable.not_not.1 h1, Decidable.not_not.1 h2, by simpa using h3, by simpa using h4⟩
theorem firstE_ne {a : Int} {l : List Int} (h : a ≠ 0) : firstE (a :: l) = a := by unfold firstE; rw [if_pos h]
theorem firstE_skip {l : List Int} : firstE (0 :: l) = firstE l := by rw [firstE]; simp

theorem once_plain (d : Dep) (c : Chg) (n : Int) (rs : List Rcd) (h : appE d c = 0) :
    appE ⟨newRevs d c, rs⟩ { c with num := n } = 112 ∨ appE ⟨newRevs d c, rs⟩ { c with num := n } = 113 ∨ appE ⟨newRevs d c, rs⟩ { c with num := n } = 114 := by
  obtain ⟨h1, h2, -, -, -⟩ := appE_zero h
  obtain ⟨a1, a2, a3, -⟩ := sizeE_zero h1
  have hs : sizeE (newRevs d c) { c with num := n } = 112 ∨ sizeE (newRevs d c) { c with num := n } = 0 := by
    unfold sizeE
    rw [if_neg (by show ¬ (c.edits.length = 0 ∨ 64 < c.edits.length ∨ 64 < c.recs.length); omega)]
    split
    · exact .inl rfl
    · split
      · exact .inl rfl
      · exact .inr rfl
  unfold appE
  rcases hs with hs | hs
  · rw [hs]; exact .inl (firstE_ne (by decide))
  · rw [hs, firstE_skip]
    obtain ⟨num, client, text, edits, recs⟩ := c
    cases edits with
    | nil => simp at a1
    | cons e es =>
      obtain ⟨p1, p2⟩ := everyE_paths h2
      obtain ⟨v, hz, ho⟩ := p2 e (List.mem_cons_self ..)
      obtain ⟨o1, o2, o3, o4⟩ := oneE_zero ho
      have hl : lastOf (newRevs d ⟨num, client, text, e :: es, recs⟩) e.path = some (madeR (lastOf d.revs) num e) := by
        unfold newRevs
        rw [lastOf_app]
        exact lasts_made _ _ _ (paths_nodup p1) e (List.mem_cons_self ..)
      generalize newRevs d ⟨num, client, text, e :: es, recs⟩ = revs' at hl hs
      have hE : ∀ x, oneE (lastOf revs') e = x → x ≠ 0 → everyE (lastOf revs') emptyS (e :: es) = x := by
        intro x hx hx0
        have : editE (lastOf revs') emptyS e = x := by
          unfold editE
          rw [if_neg (by simp [v]; omega), if_neg (by simp)]
          exact hx
        unfold everyE
        rw [this, if_pos hx0]
      have hone : oneE (lastOf revs') e = 113 ∨ oneE (lastOf revs') e = 114 := by
        have hlast : isLast (lastOf revs') e.path = liveA e.act := by unfold isLast; rw [hl]; rfl
        have hR : lastR (lastOf revs') e.path = madeR (lastOf d.revs) num e := by unfold lastR; rw [hl]; rfl
        by_cases ha : e.act = 1 ∨ e.act = 4
        · left
          have : actE (lastOf revs') e = 113 := by
            unfold actE; rw [if_pos ha, hlast, if_pos (by rcases ha with h | h <;> rw [h] <;> decide)]
          unfold oneE; rw [this, if_pos (by decide)]
        · by_cases hb : e.act = 2 ∨ e.act = 3 ∨ e.act = 5
          · by_cases h2' : e.act = 2
            · right
              have : actE (lastOf revs') e = 0 := by
                unfold actE; rw [if_neg ha, if_pos hb, hlast, if_pos (by rw [h2']; decide)]
              unfold oneE; rw [this, if_neg (by decide), hR, if_pos]
              show e.base ≠ (lastR (lastOf d.revs) e.path).num + 1
              omega
            · left
              have : actE (lastOf revs') e = 113 := by
                unfold actE; rw [if_neg ha, if_pos hb, hlast, if_neg (by rcases hb with h | h | h <;> rw [h] <;> first | exact absurd h h2' | decide)]
              unfold oneE; rw [this, if_pos (by decide)]
          · exfalso
            unfold actE at o1
            rw [if_neg ha, if_neg hb] at o1
            omega
      rcases hone with h | h
      · rw [hE _ h (by decide)]; exact .inr (.inl (firstE_ne (by decide)))
      · rw [hE _ h (by decide)]; exact .inr (.inr (firstE_ne (by decide)))
end Go.Proofs.YtnblfaagchflaaaGreatDoor
