/- workspace.New and the reference's New: the walks. -/
import Derived.Test.YteolonjmgojoeaaGreatDoorCore
import Derived.Test.YteolonjmgojoeaaGreatDoorMzSource
import Derived.Test.YteolonjmgojoeaaGreatDoorShelf
import Derived.Test.YteolonjmgojoeaaGreatDoorMgw3
import Derived.Test.YteolonjmgojoeaaGreatDoorMzHp
import Derived.Test.YteolonjmgojoeaaGreatDoorMzSm3
import Derived.Test.YteolonjmgojoeaaGreatDoorMzMem
import Derived.Test.YteolonjmgojoeaaGreatDoorMzEvery
import Derived.Test.YteolonjmgojoeaaGreatDoorMgw1
import Derived.Test.YteolonjmgojoeaaGreatDoorRows
import Derived.Test.YteolonjmgojoeaaGreatDoorKLeaf
import Derived.Test.YteolonjmgojoeaaGreatDoorProg
import Derived.IntWalk
import Derived.Deep.DeepCutAuto
import Derived.Lib.QuietBelow
import Derived.RangeFuncNested
import Derived.RangeFuncBound
import Derived.RangeFuncCalls
import Derived.RangeFuncLeaves
import Derived.TacticsInMore
import Derived.LoopNIn
import Derived.LoopIn
import Derived.StillTailTactics
import Derived.Laws.EntriesVeiled
import Derived.Lib.AppendZeros
import Derived.Deep.RegionLaw
import Derived.WalkKit
import Derived.WalkSpells
import Derived.WalkLawsBesides
import Derived.Lib.Hide
import Derived.Deep.QuietTactic
import Derived.BigQuiet
import Derived.Maps.AppendAt
import Derived.OwnWalkIn
import Derived.Lib.AppendStr
import Derived.Lib.IndexLaws
import Derived.Shelf.Small.Utf8
import Derived.Shelf.Small.Bits
import Derived.Shelf.Small.Strs
import Derived.Shelf.Small.Wraps
import Derived.Shelf.Utf8.RuneCount
import Derived.Shelf.Strconv.Itoa0
import Derived.Shelf.Strconv.Itoa1
import Derived.Shelf.LaysM
import Derived.Shelf.Strconv.Itoa2
import Derived.Shelf.Strconv.Itoa3
import Derived.Shelf.Strings.Search1
import Derived.Shelf.Strings.Prefix
import Derived.Shelf.Strings.Runes
import Derived.Shelf.Strings.RuneCount
import Derived.Shelf.Strings.IndexAny
import Derived.Shelf.Strings.AsciiSet
import Derived.Shelf.Strings.IndexAnyAll
import Derived.Shelf.Bits.Mul64
import Derived.Ground.Names2Prog
import Derived.Shelf.Slices.SearchI
import Derived.Shelf.Bytes.SlSearch1
import Derived.Shelf.Bytes.Small
import Derived.Shelf.Bytes.IndexByte
import Derived.Shelf.Bytes.SlIndexAt
import Derived.Lib.SlBytesConst
namespace Go.Proofs.YteolonjmgojoeaaGreatDoor
open Go.RowKit
set_option linter.unusedVariables false
set_option linter.unusedSimpArgs false

def endOk (n : Int) : Bool := (n == 1) || (n == 2)
def endE (n : Int) : Int := if endOk n then 0 else 93
theorem endE_no {n : Int} (h : endOk n = false) : endE n = 93 := by unfold endE; rw [h]; rfl
/-- A tree without files. -/
def NewPost (n : Int) (w : World) (e : Ending) (w' : World) : Prop := Below w.heap.size w w' ∧
  (endOk n = false ∧ e = .returned (.tuple #[.pointer none, .int .i64 93]) ∨
   endOk n = true ∧ e = .returned (.tuple #[.pointer (some ⟨w.heap.size + 4, 0, none⟩), .int .i64 0]) ∧
     w' = ((((w.alloc (.map #[] 0)).alloc (.map #[] 0)).alloc (.map #[] 0)).alloc (.map #[] 0)).alloc (.cells #[.int .i64 n, .map (some w.heap.size), .map (some (w.heap.size + 1)), .map (some (w.heap.size + 2)), .map (some (w.heap.size + 3))] 39))
set_option maxHeartbeats 2000000 in
theorem wsNew_any (n : Int) (w : World) : Calls Tryz.prog 4 #[.int .i64 n] w (NewPost n w) := by
  have hmm := @run_makeMap Tryz.prog
  by_cases h1 : n = 1
  · subst h1
    go_enter Tryz.func4, Tryz.ntmps4
    go_wp2_with fail
    go_ret2
    exact ⟨(((((Below.refl _ _).alloc (Nat.le_refl _) _).alloc (by simp) _).alloc (by simp; omega) _).alloc (by simp; omega) _).alloc (by simp; omega) _, .inr ⟨rfl, rfl, rfl⟩⟩
  · by_cases h2 : n = 2
    · subst h2
      go_enter Tryz.func4, Tryz.ntmps4
      go_wp2_with fail
      go_ret2
      exact ⟨(((((Below.refl _ _).alloc (Nat.le_refl _) _).alloc (by simp) _).alloc (by simp; omega) _).alloc (by simp; omega) _).alloc (by simp; omega) _, .inr ⟨rfl, rfl, rfl⟩⟩
    · have q1 : (n == 1) = false := by simpa using h1
      have q2 : (n == 2) = false := by simpa using h2
      have q3 : (n != 1) = true := by simpa using h1
      have q4 : (n != 2) = true := by simpa using h2
      have H : Hid (endOk n = false) := Lib.hid (by unfold endOk; rw [q1, q2]; rfl)
      clear h1 h2
      go_enter Tryz.func4, Tryz.ntmps4
      go_wp2_with fail
      go_ret2
      exact ⟨Below.refl _ _, .inl ⟨H.out, rfl⟩⟩
theorem blk_four {w : World} {g : Nat} {e : TypeId} {a b c d : Value} (h : Blk w g e [a, b, c, d]) : w.cell? ⟨g, 0, none⟩ = some a ∧ w.cell? ⟨g, 1, none⟩ = some b ∧ w.cell? ⟨g, 2, none⟩ = some c ∧ w.cell? ⟨g, 3, none⟩ = some d ∧ w.frozen? ⟨g, 0, none⟩ = false ∧ w.frozen? ⟨g, 1, none⟩ = false ∧ w.frozen? ⟨g, 2, none⟩ = false ∧ w.frozen? ⟨g, 3, none⟩ = false :=
  ⟨h.cell 0, h.cell 1, h.cell 2, h.cell 3, h.frozen 0, h.frozen 1, h.frozen 2, h.frozen 3⟩
set_option maxHeartbeats 2000000 in
theorem refNew36_any (n : Int) (w : World) : Calls Tryz.prog 5 #[.int .i64 n] w fun e w' => (∃ v, e = .returned (.tuple #[.agg #[.int .i64 v, .slice none 0 0, .slice none 0 0, .slice none 0 0],   .int .i64 (endE n)])) ∧ Below w.heap.size w w' := by
  obtain ⟨k, hk⟩ : ∃ k, k = if endOk n then n else 0 := ⟨_, rfl⟩
  have q1 : (n != 1 && n != 2) = !endOk n := by unfold endOk; rw [bne, bne]; cases (n == 1) <;> cases (n == 2) <;> rfl
  have hb := blk_new w [.int .i64 0, .slice none 0 0, .slice none 0 0, .slice none 0 0] 30
  have hB : Below w.heap.size w (w.alloc (.cells #[.int .i64 0, .slice none 0 0, .slice none 0 0, .slice none 0 0] 30)) := (Below.refl _ _).alloc (Nat.le_refl _) _
  go_enter Tryz.func5, Tryz.ntmps5
  go_upto_region 1 with fail
  generalize w.alloc (.cells #[.int .i64 0, .slice none 0 0, .slice none 0 0, .slice none 0 0] 30) = W at hb hB ⊢
  obtain ⟨c0, c1, c2, c3, f0, f1, f2, f3⟩ := blk_four hb
  have HB := Lib.hid hB
  have HS := Lib.hid (fun v : Int => (((hb.set_ 0 (.int .i64 v)).set_ 1 (.slice none 0 0)).set_ 2 (.slice none 0 0)).set_ 3 (.slice none 0 0))
  have HW := Lib.hid (fun v : Int => (((hB.setCell (p := ⟨w.heap.size, 0, none⟩) (Nat.le_refl _) (.int .i64 v)).setCell (p := ⟨w.heap.size, 1, none⟩) (Nat.le_refl _) (.slice none 0 0)).setCell (p := ⟨w.heap.size, 2, none⟩) (Nat.le_refl _) (.slice none 0 0)).setCell (p := ⟨w.heap.size, 3, none⟩) (Nat.le_refl _) (.slice none 0 0))
  clear hb hB hk
  by_cases h1 : n = 1
  · subst h1
    clear q1
    go_wp2_with fail
    obtain ⟨r0, r1, r2, r3, -⟩ := blk_four (HS.out 1)
    exact bodyPost_ret (v := .tuple #[.agg #[.int .i64 1, .slice none 0 0, .slice none 0 0, .slice none 0 0], .int .i64 0]) (by simp [results, Tryz.results5, go_sem, r0, r1, r2, r3]) rfl ⟨⟨_, rfl⟩, HW.out 1⟩
  · by_cases h2 : n = 2
    · subst h2
      clear q1
      go_wp2_with fail
      obtain ⟨r0, r1, r2, r3, -⟩ := blk_four (HS.out 2)
      exact bodyPost_ret (v := .tuple #[.agg #[.int .i64 2, .slice none 0 0, .slice none 0 0, .slice none 0 0], .int .i64 0]) (by simp [results, Tryz.results5, go_sem, r0, r1, r2, r3]) rfl ⟨⟨_, rfl⟩, HW.out 2⟩
    · have q1 : (n == 1) = false := by simpa using h1
      have q2 : (n == 2) = false := by simpa using h2
      have q3 : (n != 1) = true := by simpa using h1
      have q4 : (n != 2) = true := by simpa using h2
      have H : Hid (endOk n = false) := Lib.hid (by unfold endOk; rw [q1, q2]; rfl)
      clear h1 h2
      go_wp2_with fail
      obtain ⟨r0, r1, r2, r3, -⟩ := blk_four (HS.out 0)
      exact bodyPost_ret (v := .tuple #[.agg #[.int .i64 0, .slice none 0 0, .slice none 0 0, .slice none 0 0], .int .i64 93]) (by simp [results, Tryz.results5, go_sem, r0, r1, r2, r3]) rfl ⟨⟨_, by rw [endE_no H.out]⟩, HW.out 0⟩
end Go.Proofs.YteolonjmgojoeaaGreatDoor
/- isRecord. -/
namespace Go.Proofs.YteolonjmgojoeaaGreatDoor
open Go.RowKit
set_option linter.unusedVariables false
set_option linter.unusedSimpArgs false

/-- What isRecord asks behind the source. -/
def isRecT (e : Edt) (v : Rev) (h : Int) : Bool := if h = 1 then (if v.act = 3 then decide (e.act = 3) else (!decide (e.act = 3)) && decide (e.ty = v.ty) && (decide (e.sum = v.sum) && decide (e.size = v.size))) else true
theorem isRec_none {revs : List Rev} {n : Int} {ed : ByteArray → Option Edt} {x : Rcd} (h : ed x.to = none) : isRec revs n ed x = false := by unfold isRec; rw [h]
theorem isRec_bad {revs : List Rev} {n : Int} {ed : ByteArray → Option Edt} {x : Rcd} {e : Edt} (h : ed x.to = some e) (hb : e.act = 5 ∨ x.num ≠ e.base + 1 ∨ x.how < 1 ∨ 4 < x.how) : isRec revs n ed x = false := by
  unfold isRec; rw [h]; exact if_pos hb
theorem isRec_rest {revs : List Rev} {n : Int} {ed : ByteArray → Option Edt} {x : Rcd} {e : Edt} (h : ed x.to = some e) (hb : ¬ (e.act = 5 ∨ x.num ≠ e.base + 1 ∨ x.how < 1 ∨ 4 < x.how)) :
    isRec revs n ed x = match sourceR revs x (lineV (linesOf revs) (madeR (lastOf revs) n e)) with
      | none => false
      | some v => isRecT e v x.how := by
  unfold isRec; rw [h]
  show (if _ then false else _) = _
  rw [if_neg hb]
  cases sourceR revs x (lineV (linesOf revs) (madeR (lastOf revs) n e)) with
  | none => rfl
  | some v => unfold isRecT; simp only [Bool.and_assoc]
theorem source_is (o : Option Rev) (r : Rev) (b : Bool) (revs : List Rev) (x : Rcd) (t : Fil) (ho : sourceR revs x t = o) (hr : someR o = r) (hb : o.isSome = b) (g : Nat) (dv dr ev rv : Value) (n : Int) (cl tx : ByteArray) (bl be bn : Nat) (w : World) (hk : Chk w g dv dr n cl tx ev rv bl be bn) (hR : Revs w dv revs) (hL : LineMap w bn (linesOf revs)) (hl : revs.length ≤ 1000000) (hw1 : x.last ≤ 9223372036854775807) :
    Calls Tryz.prog 84 #[.pointer (some ⟨g, 0, none⟩), .agg #[.string x.frm, .int .i64 x.first, .int .i64 x.last, .string x.to, .int .i64 x.num, .int .i64 x.how], .agg #[.string t.1, .int .i64 t.2]] w
      fun e w' => e = .returned (.tuple #[.agg #[.string r.path, .int .i64 r.num, .int .i64 r.chg, .int .i64 r.act, .int .i64 r.ty.base, .bool r.ty.k, .bool r.ty.l, .bool r.ty.x, .int .u64 r.sum, .int .i64 r.size, .string r.frm, .int .i64 r.fnum], .bool b]) ∧ Below w.heap.size w w' := by
  subst hb hr ho; exact source_any revs x t g dv dr ev rv n cl tx bl be bn w hk hR hL hl hw1
theorem revision_is (m : Rev) (f : ByteArray → Option Rev) (x : Edt) (n : Int) (hm : madeR f n x = m) (g : Nat) (dv dr ev rv : Value) (cl tx : ByteArray) (bl be bn : Nat) (w : World) (hk : Chk w g dv dr n cl tx ev rv bl be bn) (hL : LastMap w bl f)
    (h1 : 0 ≤ (lastR f x.path).num) (h2 : (lastR f x.path).num ≤ 1000000) :
    Calls Tryz.prog 17 #[.pointer (some ⟨g, 0, none⟩), .agg #[.string x.path, .int .i64 x.act, .int .i64 x.ty.base, .bool x.ty.k, .bool x.ty.l, .bool x.ty.x, .int .u64 x.sum, .int .i64 x.size, .int .i64 x.base, .string x.frm, .int .i64 x.fnum, .int .i64 x.fence]] w
      fun e w' => e = .returned (.agg #[.string m.path, .int .i64 m.num, .int .i64 m.chg, .int .i64 m.act, .int .i64 m.ty.base, .bool m.ty.k, .bool m.ty.l, .bool m.ty.x, .int .u64 m.sum, .int .i64 m.size, .string m.frm, .int .i64 m.fnum]) ∧ Below w.heap.size w w' := by
  subst hm; exact revision_any f x g dv dr ev rv n cl tx bl be bn w hk hL h1 h2
theorem lineOf_is (t : Fil) (f : Fil → Option Fil) (r : Rev) (ht : lineV f r = t) (g : Nat) (dv dr ev rv : Value) (n : Int) (cl tx : ByteArray) (bl be bn : Nat) (w : World) (hk : Chk w g dv dr n cl tx ev rv bl be bn) (hL : LineMap w bn f) (hn : 0 < r.num) (hn2 : r.num ≤ 1000000) :
    Calls Tryz.prog 31 #[.pointer (some ⟨g, 0, none⟩), .agg #[.string r.path, .int .i64 r.num, .int .i64 r.chg, .int .i64 r.act, .int .i64 r.ty.base, .bool r.ty.k, .bool r.ty.l, .bool r.ty.x, .int .u64 r.sum, .int .i64 r.size, .string r.frm, .int .i64 r.fnum]] w
      fun e w' => e = .returned (.agg #[.string t.1, .int .i64 t.2]) ∧ Below w.heap.size w w' := by
  subst ht; exact lineOf_main f r g dv dr ev rv n cl tx bl be bn w hk hL hn hn2

set_option maxRecDepth 100000 in
set_option maxHeartbeats 8000000 in
theorem isRecord_any (revs : List Rev) (ed : ByteArray → Option Edt) (x : Rcd) (g : Nat) (dv dr ev rv : Value) (n : Int) (cl tx : ByteArray) (bl be bn : Nat) (w : World) (hk : Chk w g dv dr n cl tx ev rv bl be bn) (hR : Revs w dv revs) (hA : LastMap w bl (lastOf revs)) (hM : EditMap w be ed) (hL : LineMap w bn (linesOf revs)) (hl : revs.length ≤ 1000000) (hw1 : x.last ≤ 9223372036854775807)
    (hb1 : ∀ p, 0 ≤ (lastR (lastOf revs) p).num) (hb2 : ∀ p, (lastR (lastOf revs) p).num ≤ 999999) (hed : ∀ p e, ed p = some e → 0 ≤ e.base ∧ e.base ≤ 1000000) :
    Calls Tryz.prog 58 #[.pointer (some ⟨g, 0, none⟩), .agg #[.string x.frm, .int .i64 x.first, .int .i64 x.last, .string x.to, .int .i64 x.num, .int .i64 x.how]] w
      fun e w' => e = .returned (.bool (isRec revs n ed x)) ∧ Below w.heap.size w w' := by
  obtain ⟨W, hW⟩ : ∃ W, W = w.alloc (.cells #[.string x.frm, .int .i64 x.first, .int .i64 x.last, .string x.to, .int .i64 x.num, .int .i64 x.how] 77) := ⟨_, rfl⟩
  have hbW : Below w.heap.size w W := by rw [hW]; exact (Below.refl _ _).alloc (Nat.le_refl _) _
  have hX : Blk W w.heap.size 77 [.string x.frm, .int .i64 x.first, .int .i64 x.last, .string x.to, .int .i64 x.num, .int .i64 x.how] := by rw [hW]; exact blk_new w _ _
  have hK : Chk W g dv dr n cl tx ev rv bl be bn := Blk.below hk hbW (Blk.lt hk)
  have HRW := Lib.hid (hR.below hbW)
  have HAW := Lib.hid (FMap.below hA hbW)
  have HMW := Lib.hid (FMap.below hM hbW)
  have HLW := Lib.hid (FMap.below hL hbW)
  have HW := Lib.hid hW
  clear hW
  obtain ⟨e, he⟩ : ∃ e, editR ed x.to = e := ⟨_, rfl⟩
  obtain ⟨bs, hbs⟩ : ∃ b, (ed x.to).isSome = b := ⟨_, rfl⟩
  have hlk : ∀ w', Below W.heap.size W w' → _ := fun w' hb => EditMap.look2 (w := w') (FMap.below HMW.out hb) x.to
  rw [he, hbs] at hlk
  have hsome : bs = true → ed x.to = some e := by
    intro h
    rw [h] at hbs
    cases hq : ed x.to with
    | none => rw [hq] at hbs; cases hbs
    | some a => rw [← he]; unfold editR; rw [hq]; rfl
  have hnone : bs = false → ed x.to = none := by
    intro h
    rw [h] at hbs
    cases hq : ed x.to with
    | none => rfl
    | some a => rw [hq] at hbs; cases hbs
  have HSOME := Lib.hid hsome
  have HNONE := Lib.hid hnone
  have HB1 := Lib.hid hb1
  have HB2 := Lib.hid hb2
  have HED := Lib.hid hed
  clear he hbs hsome hnone hb1 hb2 hed
  obtain ⟨-, -, -, -, -, -, k8, -⟩ := box10 hK
  obtain ⟨c0, c1, c2, c3, c4, c5⟩ := box6 hX
  have HC : Hid (∀ w', Below W.heap.size W w' → w'.cell? ⟨g, 8, none⟩ = some (.map (some be)) ∧ w'.cell? ⟨w.heap.size, 3, none⟩ = some (.string x.to)) := Lib.hid fun w' hb => ⟨cell_below k8 hb (cell_lt k8), cell_below c3 hb (cell_lt c3)⟩
  go_enter Tryz.func58, Tryz.ntmps58
  go_upto_region 1 with fail
  rw [← HW.out]
  go_cut [5, 6] (fun s5 s6 wx => ∃ ge : Nat, s5 = .pointer (some ⟨ge, 0, none⟩) ∧ s6 = .bool bs ∧ Below W.heap.size W wx ∧ Blk wx ge 54 [.string e.path, .int .i64 e.act, .int .i64 e.ty.base, .bool e.ty.k, .bool e.ty.l, .bool e.ty.x, .int .u64 e.sum, .int .i64 e.size, .int .i64 e.base, .string e.frm, .int .i64 e.fnum, .int .i64 e.fence])
  case first =>
    go_region_held3 (fun w' => Below W.heap.size W w' ∧ w'.cell? ⟨g, 8, none⟩ = some (.map (some be)) ∧ w'.cell? ⟨w.heap.size, 3, none⟩ = some (.string x.to))
      ((refine and_of ?_ (HC.out _); first | with_reducible exact (Below.refl _ _).drew | with_reducible assumption | with_reducible exact ((Below.refl _ _).alloc (Nat.le_refl _) _).drew)) (fail)
    all_goals
      have hq1 : Below W.heap.size W (W.alloc (.cells #[.string e.path, .int .i64 e.act, .int .i64 e.ty.base, .bool e.ty.k, .bool e.ty.l, .bool e.ty.x, .int .u64 e.sum, .int .i64 e.size, .int .i64 e.base, .string e.frm, .int .i64 e.fnum, .int .i64 e.fence] 54)).drew := ((Below.refl _ _).alloc (Nat.le_refl _) _).drew
      have hq2 : Blk (W.alloc (.cells #[.string e.path, .int .i64 e.act, .int .i64 e.ty.base, .bool e.ty.k, .bool e.ty.l, .bool e.ty.x, .int .u64 e.sum, .int .i64 e.size, .int .i64 e.base, .string e.frm, .int .i64 e.fnum, .int .i64 e.fence] 54)).drew W.heap.size 54 [.string e.path, .int .i64 e.act, .int .i64 e.ty.base, .bool e.ty.k, .bool e.ty.l, .bool e.ty.x, .int .u64 e.sum, .int .i64 e.size, .int .i64 e.base, .string e.frm, .int .i64 e.fnum, .int .i64 e.fence] := blk_new W _ _
      go_wp2_with fail
      go_meet
      exact ⟨_, rfl, rfl, hq1, hq2⟩
  case rest =>
    obtain ⟨ge, rfl, rfl, hbW2, hE2⟩ := hcut
    generalize wc = W2 at hbW2 hE2 ⊢
    have hX2 := hX.below hbW2 hX.lt
    have hK2 : Chk W2 g dv dr n cl tx ev rv bl be bn := Blk.below hK hbW2 (Blk.lt hK)
    have hb2 := below_next hbW hbW2
    clear hlk HC k8 c0 c1 c2 c3 c4 c5
    obtain ⟨c0, c1, c2, c3, c4, c5⟩ := box6 hX2
    obtain ⟨d0, d1, d2, d3, d4, d5, d6, d7, d8, d9, d10, d11⟩ := box12 hE2
    cases bs
    · have HN := Lib.hid (isRec_none (revs := revs) (n := n) (HNONE.out rfl))
      go_wp2_with fail
      go_ret
      exact ⟨ret_bool HN.out.symm, hb2⟩
    · have HSE := Lib.hid (HSOME.out rfl)
      obtain ⟨hba, hbb⟩ := HED.out _ _ HSE.out
      by_cases h5 : e.act = 5
      · have q5 : (e.act == 5) = true := by rw [h5]; rfl
        have HN := Lib.hid (isRec_bad (revs := revs) (n := n) HSE.out (.inl h5))
        clear h5
        go_wp2_with fail
        go_ret
        exact ⟨ret_bool HN.out.symm, hb2⟩
      · have q5 : (e.act == 5) = false := by simpa using h5
        by_cases hnum : x.num = e.base + 1
        · have qn : (x.num != e.base + 1) = false := by rw [bne_dec]; simp [hnum]
          by_cases hh1 : x.how < 1
          · have HN := Lib.hid (isRec_bad (revs := revs) (n := n) HSE.out (.inr (.inr (.inl hh1))))
            clear hnum h5
            go_wp2_with fail
            go_ret
            exact ⟨ret_bool HN.out.symm, hb2⟩
          · by_cases hh4 : 4 < x.how
            · have HN := Lib.hid (isRec_bad (revs := revs) (n := n) HSE.out (.inr (.inr (.inr hh4))))
              clear hnum h5
              go_wp2_with fail
              go_ret
              exact ⟨ret_bool HN.out.symm, hb2⟩
            · have HR0 := Lib.hid (isRec_rest (revs := revs) (n := n) HSE.out (show ¬ (e.act = 5 ∨ x.num ≠ e.base + 1 ∨ x.how < 1 ∨ 4 < x.how) by omega))
              clear hnum h5
              obtain ⟨m, hm⟩ : ∃ m, madeR (lastOf revs) n e = m := ⟨_, rfl⟩
              obtain ⟨t, ht⟩ : ∃ t, lineV (linesOf revs) m = t := ⟨_, rfl⟩
              obtain ⟨o, ho⟩ : ∃ o, sourceR revs x t = o := ⟨_, rfl⟩
              obtain ⟨r, hr⟩ : ∃ r, someR o = r := ⟨_, rfl⟩
              obtain ⟨bo, hbo⟩ : ∃ b, o.isSome = b := ⟨_, rfl⟩
              rw [hm, ht, ho] at HR0
              have hm1 : 0 < m.num ∧ m.num ≤ 1000000 := by
                rw [← hm]
                have h1 := HB1.out e.path
                have h2 := HB2.out e.path
                show 0 < (lastR (lastOf revs) e.path).num + 1 ∧ (lastR (lastOf revs) e.path).num + 1 ≤ 1000000
                omega
              have H1 := Lib.hid (fun W' (h : Below W2.heap.size W2 W') => (revision_is m (lastOf revs) e n hm g dv dr ev rv cl tx bl be bn W' (Blk.below hK2 h (Blk.lt hK2)) (FMap.below (FMap.below HAW.out hbW2) h) (HB1.out _) (by have := HB2.out e.path; omega)).mono (fun e' w' (h2 : _ ∧ _) => (⟨h2.1, h.trans (h2.2.mono h.size), h2.2⟩ : _ ∧ Below W2.heap.size W2 w' ∧ Below W'.heap.size W' w')))
              have H2 := Lib.hid (fun W' (h : Below W2.heap.size W2 W') => (lineOf_is t (linesOf revs) m ht g dv dr ev rv n cl tx bl be bn W' (Blk.below hK2 h (Blk.lt hK2)) (FMap.below (FMap.below HLW.out hbW2) h) hm1.1 hm1.2).mono (fun e' w' (h2 : _ ∧ _) => (⟨h2.1, h.trans (h2.2.mono h.size), h2.2⟩ : _ ∧ Below W2.heap.size W2 w' ∧ Below W'.heap.size W' w')))
              have H3 := Lib.hid (fun W' (h : Below W2.heap.size W2 W') => (source_is o r bo revs x t ho hr hbo g dv dr ev rv n cl tx bl be bn W' (Blk.below hK2 h (Blk.lt hK2)) ((HRW.out.below hbW2).below h) (FMap.below (FMap.below HLW.out hbW2) h) hl hw1).mono (fun e' w' (h2 : _ ∧ _) => (⟨h2.1, h.trans (h2.2.mono h.size), h2.2⟩ : _ ∧ Below W2.heap.size W2 w' ∧ Below W'.heap.size W' w')))
              have HRR : Hid (isRec revs n ed x = (bo && isRecT e r x.how)) := Lib.hid (by
                rw [HR0.out]
                cases o with
                | none => rw [← hbo]; rfl
                | some v => rw [← hbo, ← hr]; rfl)
              have HC : Hid (∀ w', Below W2.heap.size W2 w' → w'.cell? ⟨w.heap.size, 0, none⟩ = some (.string x.frm) ∧ w'.cell? ⟨w.heap.size, 1, none⟩ = some (.int .i64 x.first) ∧ w'.cell? ⟨w.heap.size, 2, none⟩ = some (.int .i64 x.last) ∧ w'.cell? ⟨w.heap.size, 3, none⟩ = some (.string x.to) ∧ w'.cell? ⟨w.heap.size, 4, none⟩ = some (.int .i64 x.num) ∧ w'.cell? ⟨w.heap.size, 5, none⟩ = some (.int .i64 x.how) ∧ w'.cell? ⟨ge, 0, none⟩ = some (.string e.path) ∧ w'.cell? ⟨ge, 1, none⟩ = some (.int .i64 e.act) ∧ w'.cell? ⟨ge, 2, none⟩ = some (.int .i64 e.ty.base) ∧ w'.cell? ⟨ge, 3, none⟩ = some (.bool e.ty.k) ∧ w'.cell? ⟨ge, 4, none⟩ = some (.bool e.ty.l) ∧ w'.cell? ⟨ge, 5, none⟩ = some (.bool e.ty.x) ∧ w'.cell? ⟨ge, 6, none⟩ = some (.int .u64 e.sum) ∧ w'.cell? ⟨ge, 7, none⟩ = some (.int .i64 e.size) ∧ w'.cell? ⟨ge, 8, none⟩ = some (.int .i64 e.base) ∧ w'.cell? ⟨ge, 9, none⟩ = some (.string e.frm) ∧ w'.cell? ⟨ge, 10, none⟩ = some (.int .i64 e.fnum) ∧ w'.cell? ⟨ge, 11, none⟩ = some (.int .i64 e.fence)) := Lib.hid fun w' hb => ⟨(hX2.below hb hX2.lt).cell 0, (hX2.below hb hX2.lt).cell 1, (hX2.below hb hX2.lt).cell 2, (hX2.below hb hX2.lt).cell 3, (hX2.below hb hX2.lt).cell 4, (hX2.below hb hX2.lt).cell 5, (hE2.below hb hE2.lt).cell 0, (hE2.below hb hE2.lt).cell 1, (hE2.below hb hE2.lt).cell 2, (hE2.below hb hE2.lt).cell 3, (hE2.below hb hE2.lt).cell 4, (hE2.below hb hE2.lt).cell 5, (hE2.below hb hE2.lt).cell 6, (hE2.below hb hE2.lt).cell 7, (hE2.below hb hE2.lt).cell 8, (hE2.below hb hE2.lt).cell 9, (hE2.below hb hE2.lt).cell 10, (hE2.below hb hE2.lt).cell 11⟩
              have hZ0 : Blk (W2.alloc (.cells #[.string ⟨#[]⟩, .int .i64 0, .int .i64 0, .int .i64 0, .int .i64 0, .bool false, .bool false, .bool false, .int .u64 0, .int .i64 0, .string ⟨#[]⟩, .int .i64 0] 74)).drew W2.heap.size 74 [.string ⟨#[]⟩, .int .i64 0, .int .i64 0, .int .i64 0, .int .i64 0, .bool false, .bool false, .bool false, .int .u64 0, .int .i64 0, .string ⟨#[]⟩, .int .i64 0] := blk_new W2 [.string ⟨#[]⟩, .int .i64 0, .int .i64 0, .int .i64 0, .int .i64 0, .bool false, .bool false, .bool false, .int .u64 0, .int .i64 0, .string ⟨#[]⟩, .int .i64 0] 74
              clear hm ht ho hr hbo hm1 HR0
              go_upto_region 4 with fail
              go_cut [6, 7] (fun s6 s7 wx => ∃ gb : Nat, s7 = .pointer (some ⟨gb, 0, none⟩) ∧ s6 = .bool bo ∧ Below W2.heap.size W2 wx ∧ Blk wx gb 74 [.string r.path, .int .i64 r.num, .int .i64 r.chg, .int .i64 r.act, .int .i64 r.ty.base, .bool r.ty.k, .bool r.ty.l, .bool r.ty.x, .int .u64 r.sum, .int .i64 r.size, .string r.frm, .int .i64 r.fnum])
              case first =>
                clear c0 c1 c2 c3 c4 c5 d0 d1 d2 d3 d4 d5 d6 d7 d8 d9 d10 d11
                go_region_held3 (fun w' => Below W2.heap.size W2 w' ∧ w'.cell? ⟨w.heap.size, 0, none⟩ = some (.string x.frm) ∧ w'.cell? ⟨w.heap.size, 1, none⟩ = some (.int .i64 x.first) ∧ w'.cell? ⟨w.heap.size, 2, none⟩ = some (.int .i64 x.last) ∧ w'.cell? ⟨w.heap.size, 3, none⟩ = some (.string x.to) ∧ w'.cell? ⟨w.heap.size, 4, none⟩ = some (.int .i64 x.num) ∧ w'.cell? ⟨w.heap.size, 5, none⟩ = some (.int .i64 x.how) ∧ w'.cell? ⟨ge, 0, none⟩ = some (.string e.path) ∧ w'.cell? ⟨ge, 1, none⟩ = some (.int .i64 e.act) ∧ w'.cell? ⟨ge, 2, none⟩ = some (.int .i64 e.ty.base) ∧ w'.cell? ⟨ge, 3, none⟩ = some (.bool e.ty.k) ∧ w'.cell? ⟨ge, 4, none⟩ = some (.bool e.ty.l) ∧ w'.cell? ⟨ge, 5, none⟩ = some (.bool e.ty.x) ∧ w'.cell? ⟨ge, 6, none⟩ = some (.int .u64 e.sum) ∧ w'.cell? ⟨ge, 7, none⟩ = some (.int .i64 e.size) ∧ w'.cell? ⟨ge, 8, none⟩ = some (.int .i64 e.base) ∧ w'.cell? ⟨ge, 9, none⟩ = some (.string e.frm) ∧ w'.cell? ⟨ge, 10, none⟩ = some (.int .i64 e.fnum) ∧ w'.cell? ⟨ge, 11, none⟩ = some (.int .i64 e.fence))
                  ((refine and_of ?_ (HC.out _); first | with_reducible exact (Below.refl _ _).drew | with_reducible exact ((Below.refl _ _).alloc (Nat.le_refl _) _).drew | with_reducible assumption | with_reducible exact hS5.alloc hS5.size _ | with_reducible exact hS6.alloc hS6.size _ | with_reducible exact hS7.alloc hS7.size _ | with_reducible exact below12 hS7 hge7 r))
                  (first
                    | (go_at_call 17; (with_reducible refine (H1.out _ (Below.refl _ _).drew).mono ?_); rintro e' w5 ⟨rfl, hS5, hb5⟩)
                    | (go_at_call 17; (with_reducible refine (H1.out _ ((Below.refl _ _).alloc (Nat.le_refl _) _).drew).mono ?_); rintro e' w5 ⟨rfl, hS5, hb5⟩; have hZ5 := hZ0.below hb5 hZ0.lt; have hge5 : W2.heap.size ≤ W2.heap.size := Nat.le_refl _)
                    | (go_at_call 31; (with_reducible refine (H2.out w5 hS5).mono ?_); rintro e' w6 ⟨rfl, hS6, hb6⟩; try (have hZ6 := hZ5.below hb6 hZ5.lt; have hge6 := hge5))
                    | (go_at_call 31; (with_reducible refine (H2.out _ (hS5.alloc hS5.size _)).mono ?_); rintro e' w6 ⟨rfl, hS6, hb6⟩; have hZ6 := (blk_new w5 [.string ⟨#[]⟩, .int .i64 0, .int .i64 0, .int .i64 0, .int .i64 0, .bool false, .bool false, .bool false, .int .u64 0, .int .i64 0, .string ⟨#[]⟩, .int .i64 0] 74).below hb6 (by simp); have hge6 : W2.heap.size ≤ w5.heap.size := hS5.size)
                    | (go_at_call 84; (with_reducible refine (H3.out w6 hS6).mono ?_); rintro e' w7 ⟨rfl, hS7, hb7⟩; try (have hZ7 := hZ6.below hb7 hZ6.lt; have hge7 := hge6; obtain ⟨z0, z1, z2, z3, z4, z5, z6, z7, z8, z9, z10, z11⟩ := box12 hZ7; obtain ⟨y0, y1, y2, y3, y4, y5, y6, y7, y8, y9, y10, y11⟩ := frz12 hZ7))
                    | (go_at_call 84; (with_reducible refine (H3.out _ (hS6.alloc hS6.size _)).mono ?_); rintro e' w7 ⟨rfl, hS7, hb7⟩; have hZ7 := (blk_new w6 [.string ⟨#[]⟩, .int .i64 0, .int .i64 0, .int .i64 0, .int .i64 0, .bool false, .bool false, .bool false, .int .u64 0, .int .i64 0, .string ⟨#[]⟩, .int .i64 0] 74).below hb7 (by simp); have hge7 : W2.heap.size ≤ w6.heap.size := hS6.size; obtain ⟨z0, z1, z2, z3, z4, z5, z6, z7, z8, z9, z10, z11⟩ := box12 hZ7; obtain ⟨y0, y1, y2, y3, y4, y5, y6, y7, y8, y9, y10, y11⟩ := frz12 hZ7))
                all_goals
                  first
                    | (have hRR := set12 hZ7 r
                       have hbW5 := below12 hS7 hge7 r
                       go_wp2_with fail
                       go_meet
                       exact ⟨_, rfl, rfl, hbW5, hRR⟩)
                    | (have hRR := blk_new w7 [.string r.path, .int .i64 r.num, .int .i64 r.chg, .int .i64 r.act, .int .i64 r.ty.base, .bool r.ty.k, .bool r.ty.l, .bool r.ty.x, .int .u64 r.sum, .int .i64 r.size, .string r.frm, .int .i64 r.fnum] 74
                       have hbW5 := hS7.alloc hS7.size (.cells #[.string r.path, .int .i64 r.num, .int .i64 r.chg, .int .i64 r.act, .int .i64 r.ty.base, .bool r.ty.k, .bool r.ty.l, .bool r.ty.x, .int .u64 r.sum, .int .i64 r.size, .string r.frm, .int .i64 r.fnum] 74)
                       go_wp2_with fail
                       go_meet
                       exact ⟨_, rfl, rfl, hbW5, hRR⟩)
              case rest =>
                obtain ⟨gb, rfl, rfl, hbW3, hRR⟩ := hcut
                generalize wc = W3 at hbW3 hRR ⊢
                have hX3 := hX2.below hbW3 hX2.lt
                have hE3 := hE2.below hbW3 hE2.lt
                have hb3 := below_next hb2 hbW3
                clear c0 c1 c2 c3 c4 c5 d0 d1 d2 d3 d4 d5 d6 d7 d8 d9 d10 d11 HC H1 H2 H3
                obtain ⟨c0, c1, c2, c3, c4, c5⟩ := box6 hX3
                obtain ⟨d0, d1, d2, d3, d4, d5, d6, d7, d8, d9, d10, d11⟩ := box12 hE3
                obtain ⟨f0, f1, f2, f3, f4, f5, f6, f7, f8, f9, f10, f11⟩ := box12 hRR
                have hty := run_eql_ty e.ty r.ty
                have hcn := run_eql_con e.sum e.size r.sum r.size
                cases bo
                · go_wp2_with fail
                  go_ret
                  exact ⟨ret_bool HRR.out.symm, hb3⟩
                · have HT : Hid (isRec revs n ed x = isRecT e r x.how) := Lib.hid (by rw [HRR.out]; rfl)
                  by_cases hh : x.how = 1
                  · have qh : (x.how == 1) = true := by rw [hh]; rfl
                    by_cases hr3 : r.act = 3
                    · have q3 : (r.act == 3) = true := by rw [hr3]; rfl
                      have HF : Hid (isRec revs n ed x = (e.act == 3)) := Lib.hid (by rw [HT.out]; unfold isRecT; rw [if_pos hh, if_pos hr3, beq_dec])
                      clear hh hr3
                      go_wp2_with fail
                      go_ret
                      exact ⟨ret_bool HF.out.symm, hb3⟩
                    · have q3 : (r.act == 3) = false := by simpa using hr3
                      have HF : Hid (isRec revs n ed x = ((!decide (e.act = 3)) && decide (e.ty = r.ty) && (decide (e.sum = r.sum) && decide (e.size = r.size)))) := Lib.hid (by rw [HT.out]; unfold isRecT; rw [if_pos hh, if_neg hr3])
                      clear hh hr3
                      generalize (decide (e.sum = r.sum) && decide (e.size = r.size)) = bc at hcn HF
                      generalize decide (e.ty = r.ty) = bt at hty HF
                      by_cases he3 : e.act = 3
                      · have qe : (e.act != 3) = false := by rw [bne_dec]; simp [he3]
                        rw [show decide (e.act = 3) = true by simpa using he3] at HF
                        clear he3
                        go_wp2_with fail
                        go_ret
                        exact ⟨ret_bool HF.out.symm, hb3⟩
                      · have qe : (e.act != 3) = true := by rw [bne_dec]; simp [he3]
                        rw [show decide (e.act = 3) = false by simpa using he3] at HF
                        clear he3
                        cases bt
                        all_goals
                          go_wp2_with fail
                          go_ret
                          exact ⟨ret_bool HF.out.symm, hb3⟩
                  · have qh : (x.how == 1) = false := by simpa using hh
                    have HF : Hid (isRec revs n ed x = true) := Lib.hid (by rw [HT.out]; unfold isRecT; rw [if_neg hh])
                    clear hh
                    go_wp2_with fail
                    go_ret
                    exact ⟨ret_bool HF.out.symm, hb3⟩
        · have qn : (x.num != e.base + 1) = true := by rw [bne_dec]; simp [hnum]
          have HN := Lib.hid (isRec_bad (revs := revs) (n := n) HSE.out (.inr (.inl hnum)))
          clear hnum h5
          go_wp2_with fail
          go_ret
          exact ⟨ret_bool HN.out.symm, hb2⟩
end Go.Proofs.YteolonjmgojoeaaGreatDoor
/- records. -/
namespace Go.Proofs.YteolonjmgojoeaaGreatDoor
open Go.RowKit
open Go.Sort (grow)
set_option linter.unusedVariables false
set_option linter.unusedSimpArgs false

def FlagMap (w : World) (B : Nat) (wk : ByteArray → Bool) : Prop := ∃ f, FMap Value.string Value.bool w B f ∧ ∀ p, (f p).getD false = wk p
theorem zero_bool (w : World) : (zeroValue 4).run Tryz.prog w = .ok (.bool false) w := by kernel_rfl
section
variable {w w' : World} {B : Nat} {wk : ByteArray → Bool}
theorem FlagMap.new (w : World) : FlagMap (w.alloc (.map #[] 0)) w.heap.size (fun _ => false) := ⟨_, FMap.new _ _ w, fun _ => rfl⟩
theorem FlagMap.alloc (h : FlagMap w B wk) (o : Obj) : FlagMap (w.alloc o) B wk := by obtain ⟨f, h, r⟩ := h; exact ⟨f, h.alloc o, r⟩
theorem FlagMap.below (h : FlagMap w B wk) (hb : Below w.heap.size w w') : FlagMap w' B wk := by obtain ⟨f, h, r⟩ := h; exact ⟨f, h.below hb, r⟩
theorem FlagMap.look (h : FlagMap w B wk) (p : ByteArray) : (Instr.lookup 132 (.map (some B)) (.string p) false).run Tryz.prog w = .ok (.bool (wk p)) w := by
  obtain ⟨f, h, r⟩ := h
  rw [FMap.lookup h keyOk_str Tryz.underlying132 (zero_bool w) p false, ← r p]
  unfold lookV
  cases f p <;> rfl
theorem FlagMap.set (h : FlagMap w B wk) (p : ByteArray) : ∃ w', (Instr.mapUpdate 132 (.map (some B)) (.string p) (.bool true)).run Tryz.prog w = .ok () w' ∧ FlagMap w' B (fun q => decide (p = q) || wk q) ∧ w.grownBy w' (some B) ∧ w'.heap.size = w.heap.size := by
  obtain ⟨f, h, r⟩ := h
  obtain ⟨w', h1, h2, h3, h4⟩ := FMap.update h keyOk_str Tryz.underlying132 p true
  refine ⟨w', h1, ⟨_, h2, fun q => ?_⟩, h3, h4⟩
  unfold upd
  by_cases e : q = p
  · simp [e]
  · have : ¬ p = q := fun h => e h.symm
    simp [e, this, r q]
end
theorem worked_snoc (rs : List Rcd) (x : Rcd) : worked (rs ++ [x]) = if x.how = 3 then worked rs else (fun q => decide (x.to = q) || worked rs q) := by
  funext q
  unfold worked
  rw [List.any_append]
  by_cases h : x.how = 3
  · simp [h]
  · simp [h, Bool.or_comm]

def prevOf (l : List Rcd) (k : Nat) : Option Rcd := if k = 0 then none else l[k - 1]?
theorem prevOf_succ (l : List Rcd) (k : Nat) (h : k < l.length) : prevOf l (k + 1) = some l[k] := by unfold prevOf; rw [if_neg (by omega)]; simp [h]
theorem recsE_no {revs : List Rev} {c : Chg} (h : recsF revs c (editsOf c.edits) none c.recs = false) : recsE revs c = 118 := by unfold recsE; rw [h]; rfl
theorem recsE_ok {revs : List Rev} {c : Chg} (h : recsF revs c (editsOf c.edits) none c.recs = true) : recsE revs c = 0 := by unfold recsE; rw [h]; rfl
theorem recsF_cons (revs : List Rev) (c : Chg) (ed : ByteArray → Option Edt) (b : Option Rcd) (r : Rcd) (rs : List Rcd) : recsF revs c ed b (r :: rs) = ((match b with
    | none => true
    | some b => decide (cmpR b r < 0)) && recOk revs c ed r && recsF revs c ed (some r) rs) := rfl
theorem isRecord_is (b : Bool) (revs : List Rev) (ed : ByteArray → Option Edt) (x : Rcd) (n : Int) (hb : isRec revs n ed x = b) (g : Nat) (dv dr ev rv : Value) (cl tx : ByteArray) (bl be bn : Nat) (w : World) (hk : Chk w g dv dr n cl tx ev rv bl be bn) (hR : Revs w dv revs) (hA : LastMap w bl (lastOf revs)) (hM : EditMap w be ed) (hL : LineMap w bn (linesOf revs)) (hl : revs.length ≤ 1000000) (hw1 : x.last ≤ 9223372036854775807)
    (hb1 : ∀ p, 0 ≤ (lastR (lastOf revs) p).num) (hb2 : ∀ p, (lastR (lastOf revs) p).num ≤ 999999) (hed : ∀ p e, ed p = some e → 0 ≤ e.base ∧ e.base ≤ 1000000) :
    Calls Tryz.prog 58 #[.pointer (some ⟨g, 0, none⟩), .agg #[.string x.frm, .int .i64 x.first, .int .i64 x.last, .string x.to, .int .i64 x.num, .int .i64 x.how]] w
      fun e w' => e = .returned (.bool b) ∧ Below w.heap.size w w' := by
  subst hb; exact isRecord_any revs ed x g dv dr ev rv n cl tx bl be bn w hk hR hA hM hL hl hw1 hb1 hb2 hed
theorem unchanged_is (b : Bool) (f : ByteArray → Option Rev) (x : Edt) (hb : unchanged f x = b) (g : Nat) (dv dr ev rv : Value) (n : Int) (cl tx : ByteArray) (bl be bn : Nat) (w : World) (hk : Chk w g dv dr n cl tx ev rv bl be bn) (hL : LastMap w bl f) :
    Calls Tryz.prog 59 #[.pointer (some ⟨g, 0, none⟩), .agg #[.string x.path, .int .i64 x.act, .int .i64 x.ty.base, .bool x.ty.k, .bool x.ty.l, .bool x.ty.x, .int .u64 x.sum, .int .i64 x.size, .int .i64 x.base, .string x.frm, .int .i64 x.fnum, .int .i64 x.fence]] w
      fun e w' => e = .returned (.bool b) ∧ Below w.heap.size w w' := by
  subst hb; exact unchanged_any f x g dv dr ev rv n cl tx bl be bn w hk hL

set_option maxRecDepth 100000 in
set_option maxHeartbeats 8000000 in
theorem records_any (revs : List Rev) (c : Chg) (g : Nat) (dv dr ev rv : Value) (bl be bn : Nat) (w : World) (hk : Chk w g dv dr c.num c.client c.text ev rv bl be bn) (hR : Revs w dv revs) (hA : LastMap w bl (lastOf revs)) (hM : EditMap w be (editsOf c.edits)) (hL : LineMap w bn (linesOf revs)) (hQ : Rcds w rv c.recs) (hl : revs.length ≤ 1000000) (hlr : c.recs.length ≤ 1000000)
    (hsm : ∀ r ∈ c.recs, r.small ∧ r.last ≤ 9223372036854775807)
    (hb1 : ∀ p, 0 ≤ (lastR (lastOf revs) p).num) (hb2 : ∀ p, (lastR (lastOf revs) p).num ≤ 999999) (hed : ∀ p e, editsOf c.edits p = some e → 0 ≤ e.base ∧ e.base ≤ 1000000) :
    Calls Tryz.prog 35 #[.pointer (some ⟨g, 0, none⟩)] w fun e w' => e = .returned (.int .i64 (recsE revs c)) ∧ Below w.heap.size w w' := by
  obtain ⟨Aq, cq, rfl, hcq, hmq, -⟩ := id hQ
  have hb0 : Below w.heap.size w (w.alloc (.map #[] 0)) := (Below.refl _ _).alloc (Nat.le_refl _) _
  have hc0 := FlagMap.new w
  have HQ := Lib.hid hQ
  have HK := Lib.hid hk
  have HM := Lib.hid hM
  have HSM := Lib.hid hsm
  have HIS := Lib.hid (fun x (hx : x.last ≤ 9223372036854775807) b hb W' (h : Below w.heap.size w W') => isRecord_is b revs (editsOf c.edits) x c.num hb g dv dr ev (.slice Aq c.recs.length cq) c.client c.text bl be bn W' (Blk.below hk h (Blk.lt hk)) (hR.below h) (FMap.below hA h) (FMap.below hM h) (FMap.below hL h) hl hx hb1 hb2 hed)
  have HUN := Lib.hid (fun x b hb W' (h : Below w.heap.size w W') => unchanged_is b (lastOf revs) x hb g dv dr ev (.slice Aq c.recs.length cq) c.num c.client c.text bl be bn W' (Blk.below hk h (Blk.lt hk)) (FMap.below hA h))
  obtain ⟨-, -, -, -, k6, -, -, -⟩ := box10 (Blk.below hk hb0 (Blk.lt hk))
  clear hQ hk hM hsm hR hA hL hb1 hb2 hed
  unfold maxLen at hmq
  have hmm := @run_makeMap Tryz.prog
  go_enter Tryz.func35, Tryz.ntmps35
  go_wp2_with fail
  clear hmm k6
  go_loopw [15] (fun i wr => ∃ (k : Nat), k ≤ c.recs.length ∧ i = .int .i64 k ∧ Below w.heap.size w wr ∧ FlagMap wr w.heap.size (worked (c.recs.take k))) (fun i _ => c.recs.length - (intOf i).toNat)
  case atStart => exact ⟨0, Nat.zero_le _, rfl, hb0, hc0⟩
  case round =>
    obtain ⟨k, hk, rfl, hbr, hcr⟩ := hrel
    by_cases hlt : k < c.recs.length
    · obtain ⟨ad, rfl, hab, hld⟩ := Rcds.at_ (HQ.out.below hbr) hlt
      have HT := Lib.hid (show c.recs.take (k + 1) = c.recs.take k ++ [c.recs[k]] from List.take_succ_eq_append_getElem hlt)
      generalize c.recs[k] = x at hld HT
      obtain ⟨x0, x1, x2, x3, x4, x5⟩ := hld
      have hbx := hbr.alloc hbr.size (.cells #[.string x.frm, .int .i64 x.first, .int .i64 x.last, .string x.to, .int .i64 x.num, .int .i64 x.how] 77)
      have hcx := hcr.alloc (.cells #[.string x.frm, .int .i64 x.first, .int .i64 x.last, .string x.to, .int .i64 x.num, .int .i64 x.how] 77)
      have HS := Lib.hid (worked_snoc (c.recs.take k) x)
      by_cases h3 : x.how = 3
      · have q3 : (x.how != 3) = false := by rw [bne_dec]; simp [h3]
        rw [if_pos h3] at HS
        clear h3
        go_wp2_with fail
        go_roundw
        case rel => exact ⟨k + 1, by omega, by go_num, hbx, by rw [HT.out, HS.out]; exact hcx⟩
        case measure => simp [intOf]; omega
      · have q3 : (x.how != 3) = true := by rw [bne_dec]; simp [h3]
        rw [if_neg h3] at HS
        clear h3
        obtain ⟨w3, hup, hc3, hg3, hs3⟩ := hcx.set x.to
        have hbw3 : Below w.heap.size w w3 := hbx.grown hg3 hbx.size (fun j e => by injection e with e; omega)
        go_wp2_with fail
        go_roundw
        case rel => exact ⟨k + 1, by omega, by go_num, hbw3, by rw [HT.out, HS.out]; exact hc3⟩
        case measure => simp [intOf]; omega
    · obtain rfl : k = c.recs.length := by omega
      rw [List.take_length] at hcr
      obtain ⟨-, -, -, -, k6, -, -, -⟩ := box10 (Blk.below HK.out hbr (Blk.lt HK.out))
      go_wp2_with fail
      clear k6 hk hlt
      obtain ⟨W, rfl⟩ : ∃ W, wr = W := ⟨_, rfl⟩
      go_loopw [32] (fun i wr => ∃ (k : Nat), k ≤ c.recs.length ∧ i = .int .i64 k ∧ Below w.heap.size w wr ∧ FlagMap wr w.heap.size (worked c.recs) ∧ Hid (recsF revs c (editsOf c.edits) none c.recs = recsF revs c (editsOf c.edits) (prevOf c.recs k) (c.recs.drop k))) (fun i _ => c.recs.length - (intOf i).toNat)
      case atStart => exact ⟨0, Nat.zero_le _, rfl, hbr, hcr, Lib.hid rfl⟩
      case round =>
        clear hbr hcr
        obtain ⟨k, hk, rfl, hbr, hcr, HF⟩ := hrel
        by_cases hlt : k < c.recs.length
        · obtain ⟨ad, rfl, hab, hld⟩ := Rcds.at_ (HQ.out.below hbr) hlt
          have HP := Lib.hid (prevOf_succ c.recs k hlt)
          have hxs := HSM.out c.recs[k] (List.getElem_mem _)
          rw [List.drop_eq_getElem_cons hlt, recsF_cons] at HF
          have hprev : ∀ j, k = j + 1 → ∃ p, prevOf c.recs k = some p ∧ p.small ∧ RcdAt wr (ad.add (j * 6)) p := by
            intro j hj
            obtain ⟨ad2, e2, -, hld2⟩ := Rcds.at_ (HQ.out.below hbr) (show j < c.recs.length by omega)
            injection e2 with e2
            subst e2
            exact ⟨c.recs[j], by have := prevOf_succ c.recs j (by omega); rwa [← hj] at this, (HSM.out _ (List.getElem_mem _)).1, hld2⟩
          generalize c.recs[k] = x at hld HP hxs HF
          obtain ⟨x0, x1, x2, x3, x4, x5⟩ := hld
          have hbx := hbr.alloc hbr.size (.cells #[.string x.frm, .int .i64 x.first, .int .i64 x.last, .string x.to, .int .i64 x.num, .int .i64 x.how] 77)
          have hcx := hcr.alloc (.cells #[.string x.frm, .int .i64 x.first, .int .i64 x.last, .string x.to, .int .i64 x.num, .int .i64 x.how] 77)
          have hX := blk_new wr [.string x.frm, .int .i64 x.first, .int .i64 x.last, .string x.to, .int .i64 x.num, .int .i64 x.how] 77
          have hKx := Blk.below HK.out hbx (Blk.lt HK.out)
          obtain ⟨pre, hpre⟩ : ∃ b, (match prevOf c.recs k with
              | none => true
              | some b => decide (cmpR b x < 0)) = b := ⟨_, rfl⟩
          rw [hpre] at HF
          have HPRE := Lib.hid hpre
          clear hpre
          obtain ⟨ok, hok⟩ : ∃ b, recOk revs c (editsOf c.edits) x = b := ⟨_, rfl⟩
          rw [hok] at HF
          have HOK := Lib.hid hok
          clear hok
          go_upto_region 11 with fail
          go_cut [52] (fun s52 wx => s52 = .bool (!pre) ∧ Below (World.heap (wr.alloc (.cells #[.string x.frm, .int .i64 x.first, .int .i64 x.last, .string x.to, .int .i64 x.num, .int .i64 x.how] 77))).size (wr.alloc (.cells #[.string x.frm, .int .i64 x.first, .int .i64 x.last, .string x.to, .int .i64 x.num, .int .i64 x.how] 77)) wx)
          case first =>
            by_cases hk0 : k = 0
            · have hp1 : pre = true := by rw [← HPRE.out, hk0]; rfl
              subst hp1
              have qk : decide ((0 : Int) < (k : Int)) = false := by simp; omega
              have qk2 : decide (0 < k) = false := by simp; omega
              have qk3 : ¬ 0 < k := by omega
              clear hk0 hprev
              go_quiet (fail)
              go_wp2_with fail
              go_meet
              exact ⟨rfl, below_drewN (Below.refl _ _) _⟩
            · obtain ⟨j, hj⟩ : ∃ j, k = j + 1 := ⟨k - 1, by omega⟩
              obtain ⟨p, hpe, hps, hpa⟩ := hprev j hj
              have hp1 : pre = decide (cmpR p x < 0) := by rw [← HPRE.out, hpe]
              have hcmp := Lib.hid (fun W' => compareRecords_any p x W' hps hxs.1)
              have qk : decide ((0 : Int) < (k : Int)) = true := by simp; omega
              have qk2 : decide (0 < k) = true := by simp; omega
              have qk3 : 0 < k := by omega
              have qw : IntKind.i64.wrap ((k : Int) - 1) = (j : Int) := by rw [IntWalk.i64_in _ (by omega)]; omega
              have qj : (j : Int) < (c.recs.length : Int) := by omega
              have qj0 : (0 : Int) ≤ (j : Int) := by omega
              obtain ⟨p0, p1, p2, p3, p4, p5⟩ := hpa
              obtain ⟨-, -, -, -, k6, -, -, -⟩ := box10 hKx
              obtain ⟨c0, c1, c2, c3, c4, c5⟩ := box6 hX
              have a0 := cell_alloc p0 (.cells #[.string x.frm, .int .i64 x.first, .int .i64 x.last, .string x.to, .int .i64 x.num, .int .i64 x.how] 77)
              have a1 := cell_alloc p1 (.cells #[.string x.frm, .int .i64 x.first, .int .i64 x.last, .string x.to, .int .i64 x.num, .int .i64 x.how] 77)
              have a2 := cell_alloc p2 (.cells #[.string x.frm, .int .i64 x.first, .int .i64 x.last, .string x.to, .int .i64 x.num, .int .i64 x.how] 77)
              have a3 := cell_alloc p3 (.cells #[.string x.frm, .int .i64 x.first, .int .i64 x.last, .string x.to, .int .i64 x.num, .int .i64 x.how] 77)
              have a4 := cell_alloc p4 (.cells #[.string x.frm, .int .i64 x.first, .int .i64 x.last, .string x.to, .int .i64 x.num, .int .i64 x.how] 77)
              have a5 := cell_alloc p5 (.cells #[.string x.frm, .int .i64 x.first, .int .i64 x.last, .string x.to, .int .i64 x.num, .int .i64 x.how] 77)
              have HC : Hid (∀ w', Below (World.heap (wr.alloc (.cells #[.string x.frm, .int .i64 x.first, .int .i64 x.last, .string x.to, .int .i64 x.num, .int .i64 x.how] 77))).size (wr.alloc (.cells #[.string x.frm, .int .i64 x.first, .int .i64 x.last, .string x.to, .int .i64 x.num, .int .i64 x.how] 77)) w' → w'.cell? ⟨g, 6, none⟩ = some (.slice (some ad) c.recs.length cq) ∧ w'.cell? ⟨wr.heap.size, 0, none⟩ = some (.string x.frm) ∧ w'.cell? ⟨wr.heap.size, 1, none⟩ = some (.int .i64 x.first) ∧ w'.cell? ⟨wr.heap.size, 2, none⟩ = some (.int .i64 x.last) ∧ w'.cell? ⟨wr.heap.size, 3, none⟩ = some (.string x.to) ∧ w'.cell? ⟨wr.heap.size, 4, none⟩ = some (.int .i64 x.num) ∧ w'.cell? ⟨wr.heap.size, 5, none⟩ = some (.int .i64 x.how) ∧ w'.cell? (ad.add (j * 6)) = some (.string p.frm) ∧ w'.cell? ⟨(ad.add (j * 6)).block, (ad.add (j * 6)).off + 1, none⟩ = some (.int .i64 p.first) ∧ w'.cell? ⟨(ad.add (j * 6)).block, (ad.add (j * 6)).off + 2, none⟩ = some (.int .i64 p.last) ∧ w'.cell? ⟨(ad.add (j * 6)).block, (ad.add (j * 6)).off + 3, none⟩ = some (.string p.to) ∧ w'.cell? ⟨(ad.add (j * 6)).block, (ad.add (j * 6)).off + 4, none⟩ = some (.int .i64 p.num) ∧ w'.cell? ⟨(ad.add (j * 6)).block, (ad.add (j * 6)).off + 5, none⟩ = some (.int .i64 p.how)) := Lib.hid fun w' hb => ⟨cell_below k6 hb (cell_lt k6), cell_below c0 hb (cell_lt c0), cell_below c1 hb (cell_lt c1), cell_below c2 hb (cell_lt c2), cell_below c3 hb (cell_lt c3), cell_below c4 hb (cell_lt c4), cell_below c5 hb (cell_lt c5), cell_below a0 hb (cell_lt a0), cell_below a1 hb (cell_lt a1), cell_below a2 hb (cell_lt a2), cell_below a3 hb (cell_lt a3), cell_below a4 hb (cell_lt a4), cell_below a5 hb (cell_lt a5)⟩
              have HP1 := Lib.hid hp1
              clear p0 p1 p2 p3 p4 p5 a0 a1 a2 a3 a4 a5 c0 c1 c2 c3 c4 c5 k6 hprev hpe hk0 hj hp1 x0 x1 x2 x3 x4 x5
              go_region_held3 (fun w' => Below (World.heap (wr.alloc (.cells #[.string x.frm, .int .i64 x.first, .int .i64 x.last, .string x.to, .int .i64 x.num, .int .i64 x.how] 77))).size (wr.alloc (.cells #[.string x.frm, .int .i64 x.first, .int .i64 x.last, .string x.to, .int .i64 x.num, .int .i64 x.how] 77)) w' ∧ w'.cell? ⟨g, 6, none⟩ = some (.slice (some ad) c.recs.length cq) ∧ w'.cell? ⟨wr.heap.size, 0, none⟩ = some (.string x.frm) ∧ w'.cell? ⟨wr.heap.size, 1, none⟩ = some (.int .i64 x.first) ∧ w'.cell? ⟨wr.heap.size, 2, none⟩ = some (.int .i64 x.last) ∧ w'.cell? ⟨wr.heap.size, 3, none⟩ = some (.string x.to) ∧ w'.cell? ⟨wr.heap.size, 4, none⟩ = some (.int .i64 x.num) ∧ w'.cell? ⟨wr.heap.size, 5, none⟩ = some (.int .i64 x.how) ∧ w'.cell? (ad.add (j * 6)) = some (.string p.frm) ∧ w'.cell? ⟨(ad.add (j * 6)).block, (ad.add (j * 6)).off + 1, none⟩ = some (.int .i64 p.first) ∧ w'.cell? ⟨(ad.add (j * 6)).block, (ad.add (j * 6)).off + 2, none⟩ = some (.int .i64 p.last) ∧ w'.cell? ⟨(ad.add (j * 6)).block, (ad.add (j * 6)).off + 3, none⟩ = some (.string p.to) ∧ w'.cell? ⟨(ad.add (j * 6)).block, (ad.add (j * 6)).off + 4, none⟩ = some (.int .i64 p.num) ∧ w'.cell? ⟨(ad.add (j * 6)).block, (ad.add (j * 6)).off + 5, none⟩ = some (.int .i64 p.how))
                ((refine and_of ?_ (HC.out _); first | with_reducible exact (Below.refl _ _).drew | with_reducible assumption))
                ((go_at_call 19; refine (hcmp.out _).mono ?_; rintro e' w5 ⟨rfl, hb5⟩; have hS5 := (Below.refl (World.heap (wr.alloc (.cells #[.string x.frm, .int .i64 x.first, .int .i64 x.last, .string x.to, .int .i64 x.num, .int .i64 x.how] 77))).size (wr.alloc (.cells #[.string x.frm, .int .i64 x.first, .int .i64 x.last, .string x.to, .int .i64 x.num, .int .i64 x.how] 77))).drew.trans hb5))
              all_goals
                have hpp : (!pre) = decide ((0 : Int) ≤ cmpR p x) := by rw [HP1.out, Bool.eq_iff_iff]; simp
                go_wp2_with fail
                go_meet
                exact ⟨by rw [hpp], hS5⟩
          case rest =>
            obtain ⟨rfl, hb12⟩ := hcut
            generalize wc = W2 at hb12 ⊢
            have hbw2 := below_next hbx hb12
            have hX2 := hX.below hb12 hX.lt
            have hc2 := hcx.below hb12
            cases pre
            · have HO : Hid (recsE revs c = 118) := Lib.hid (recsE_no (by rw [HF.out]; rfl))
              go_wp2_with fail
              go_ret
              exact ⟨ret_int HO.out.symm, hbw2⟩
            · have HF2 : Hid (recsF revs c (editsOf c.edits) none c.recs = (ok && recsF revs c (editsOf c.edits) (some x) (c.recs.drop (k + 1)))) := Lib.hid (by rw [HF.out]; rfl)
              go_upto_region 13 with fail
              go_cut [75] (fun s75 wx => s75 = .bool (!ok) ∧ Below W2.heap.size W2 wx)
              case first =>
                obtain ⟨ir, hir⟩ : ∃ b, isRec revs c.num (editsOf c.edits) x = b := ⟨_, rfl⟩
                obtain ⟨wk, hwk⟩ : ∃ b, worked c.recs x.to = b := ⟨_, rfl⟩
                obtain ⟨y, hy⟩ : ∃ y, editR (editsOf c.edits) x.to = y := ⟨_, rfl⟩
                obtain ⟨un, hun⟩ : ∃ b, unchanged (lastOf revs) y = b := ⟨_, rfl⟩
                have hoke : ok = (ir && (wk || un)) := by
                  rw [← HOK.out, ← hir, ← hwk, ← hun, ← hy]; rfl
                have HI := Lib.hid (HIS.out x hxs.2 ir hir)
                have HU := Lib.hid (HUN.out y un hun)
                have cI : ∀ d os, Calls Tryz.prog 58 #[.pointer (some ⟨g, 0, none⟩), .agg #[.string x.frm, .int .i64 x.first, .int .i64 x.last, .string x.to, .int .i64 x.num, .int .i64 x.how]] (grow (redrawn W2 d) os) fun e w'' => e = .returned (.bool ir) ∧ ∃ p : Regrown, w'' = grow (redrawn W2 p.d) p.os := fun d os => Calls.regrown_of (HI.out _ (below_step hbw2 hbw2.size (below_regrown W2 d os)))
                have cU : ∀ d os, Calls Tryz.prog 59 #[.pointer (some ⟨g, 0, none⟩), .agg #[.string y.path, .int .i64 y.act, .int .i64 y.ty.base, .bool y.ty.k, .bool y.ty.l, .bool y.ty.x, .int .u64 y.sum, .int .i64 y.size, .int .i64 y.base, .string y.frm, .int .i64 y.fnum, .int .i64 y.fence]] (grow (redrawn W2 d) os) fun e w'' => e = .returned (.bool un) ∧ ∃ p : Regrown, w'' = grow (redrawn W2 p.d) p.os := fun d os => Calls.regrown_of (HU.out _ (below_step hbw2 hbw2.size (below_regrown W2 d os)))
                have hlw := fun d os => FlagMap.look (hc2.below (below_regrown W2 d os)) x.to
                have hle := fun d os => EditMap.look (w := grow (redrawn W2 d) os) (B := be) (FMap.below HM.out (below_step hbw2 hbw2.size (below_regrown W2 d os))) x.to
                rw [hwk] at hlw
                rw [hy] at hle
                have hK2 := Blk.below HK.out hbw2 (Blk.lt HK.out)
                obtain ⟨-, -, -, -, -, -, k8, -⟩ := box10 hK2
                obtain ⟨c0, c1, c2, c3, c4, c5⟩ := box6 hX2
                have m8 := cell_regrown k8
                have m0 := cell_regrown c0
                have m1 := cell_regrown c1
                have m2 := cell_regrown c2
                have m3 := cell_regrown c3
                have m4 := cell_regrown c4
                have m5 := cell_regrown c5
                have HOE := Lib.hid hoke
                clear hir hwk hy hun hoke x0 x1 x2 x3 x4 x5 hprev c0 c1 c2 c3 c4 c5 k8
                cases ir
                · have ho : ok = false := HOE.out
                  subst ho
                  refine wp_region_quiet_below (by kernel_rfl) (by kernel_rfl) ?_
                  repeat (first | go_big_quiet_step (first | exact cI _ _ | exact cU _ _) | quiet_step (first | exact cI _ _ | exact cU _ _))
                  refine wpQuiet_nil ?_
                  intro _ hw'
                  obtain ⟨⟨dq, osq⟩, hw''⟩ := hw'
                  subst hw''
                  have hS5 := below_regrown W2 dq osq
                  generalize grow (redrawn W2 dq) osq = W5 at hS5 ⊢
                  go_wp2_with fail
                  go_meet
                  exact ⟨rfl, hS5⟩
                · cases wk
                  · have ho : ok = un := HOE.out
                    subst ho
                    refine wp_region_quiet_below (by kernel_rfl) (by kernel_rfl) ?_
                    repeat (first | go_big_quiet_step (first | exact cI _ _ | exact cU _ _) | quiet_step (first | exact cI _ _ | exact cU _ _))
                    refine wpQuiet_nil ?_
                    intro _ hw'
                    obtain ⟨⟨dq, osq⟩, hw''⟩ := hw'
                    subst hw''
                    have hS5 := below_regrown W2 dq osq
                    generalize grow (redrawn W2 dq) osq = W5 at hS5 ⊢
                    go_wp2_with fail
                    go_meet
                    exact ⟨rfl, hS5⟩
                  · have ho : ok = true := HOE.out
                    subst ho
                    refine wp_region_quiet_below (by kernel_rfl) (by kernel_rfl) ?_
                    repeat (first | go_big_quiet_step (first | exact cI _ _ | exact cU _ _) | quiet_step (first | exact cI _ _ | exact cU _ _))
                    refine wpQuiet_nil ?_
                    intro _ hw'
                    obtain ⟨⟨dq, osq⟩, hw''⟩ := hw'
                    subst hw''
                    have hS5 := below_regrown W2 dq osq
                    generalize grow (redrawn W2 dq) osq = W5 at hS5 ⊢
                    go_wp2_with fail
                    go_meet
                    exact ⟨rfl, hS5⟩
              case rest =>
                obtain ⟨rfl, hb23⟩ := hcut
                generalize wc = W3 at hb23 ⊢
                have hbw3 := below_step hbw2 hbw2.size hb23
                have hc3 := hc2.below hb23
                cases ok
                · have HO : Hid (recsE revs c = 118) := Lib.hid (recsE_no (by rw [HF2.out]; rfl))
                  go_wp2_with fail
                  go_ret
                  exact ⟨ret_int HO.out.symm, hbw3⟩
                · go_wp2_with fail
                  go_roundw
                  case rel => exact ⟨k + 1, by omega, by go_num, hbw3, hc3, Lib.hid (by rw [HF2.out, HP.out]; rfl)⟩
                  case measure => simp [intOf]; omega
        · have HO : Hid (recsE revs c = 0) := Lib.hid (recsE_ok (by rw [HF.out, List.drop_of_length_le (by omega)]; rfl))
          go_wp2_with fail
          go_ret
          exact ⟨ret_int HO.out.symm, hbr⟩
end Go.Proofs.YteolonjmgojoeaaGreatDoor
/- fingerprint: add, multiply, Sum, Of: the walks, at any bytes. -/
namespace Go.Proofs.YteolonjmgojoeaaGreatDoor
open Go.RowKit
set_option linter.unusedVariables false
set_option linter.unusedSimpArgs false

theorem wrap_u64' (x : Int) : IntKind.u64.wrap x = x % 18446744073709551616 := by simp [IntKind.wrap, IntKind.bits, IntKind.signed]
def fpP : Nat := 2305843009213693951
def fpB : Nat := 747382712868975713
def fpAdd (a b : Nat) : Nat := if fpP ≤ a + b then a + b - fpP else a + b
/-- What multiply gives, by the words of the program. -/
def fpMul (a b : Nat) : Nat := fpAdd (a * b % 18446744073709551616 % 2305843009213693952 % fpP) ((a * b / 18446744073709551616 * 8 + a * b % 18446744073709551616 / 2305843009213693952) % fpP)
def fpSum (l : List UInt8) : Nat := l.foldl (fun s x => fpAdd (fpMul s fpB) (x.toNat + 1)) 0
theorem fpAdd_lt {a b : Nat} (ha : a < fpP) (hb : b < fpP) : fpAdd a b < fpP := by unfold fpAdd; split <;> omega
theorem fpMul_lt (a b : Nat) : fpMul a b < fpP := fpAdd_lt (Nat.mod_lt _ (by decide)) (Nat.mod_lt _ (by decide))
theorem fpSum_lt (l : List UInt8) : fpSum l < fpP := by
  unfold fpSum
  suffices h : ∀ (l : List UInt8) (s : Nat), s < fpP → l.foldl (fun s x => fpAdd (fpMul s fpB) (x.toNat + 1)) s < fpP from h l 0 (by decide)
  intro l
  induction l with
  | nil => intro s hs; exact hs
  | cons x l ih =>
    intro s hs
    rw [List.foldl_cons]
    refine ih _ (fpAdd_lt (fpMul_lt _ _) ?_)
    have := x.toNat_lt
    unfold fpP; omega
set_option maxHeartbeats 1000000 in
theorem fpAdd_any (a b : Nat) (w : World) (ha : a < fpP) (hb : b < fpP) :
    Calls Tryz.prog 29 #[.int .u64 a, .int .u64 b] w fun e w' => e = .returned (.int .u64 (fpAdd a b : Nat)) ∧ w = w' := by
  unfold fpP at ha hb
  have hw : IntKind.u64.wrap ((a : Int) + (b : Int)) = (a : Int) + (b : Int) := by rw [wrap_u64']; omega
  by_cases h : fpP ≤ a + b
  · have H : Hid (fpAdd a b = a + b - fpP) := Lib.hid (if_pos h)
    unfold fpP at h
    have q : decide ((2305843009213693951 : Int) ≤ (a : Int) + (b : Int)) = true := by simp; omega
    have hw2 : IntKind.u64.wrap ((a : Int) + (b : Int) - 2305843009213693951) = (a : Int) + (b : Int) - 2305843009213693951 := by rw [wrap_u64']; omega
    go_enter Tryz.func29, Tryz.ntmps29
    go_wp2_with fail
    go_ret
    refine ⟨?_, rfl⟩
    have e : ((a + b - fpP : Nat) : Int) = (a : Int) + (b : Int) - 2305843009213693951 := by unfold fpP; omega
    rw [H.out, e]; rfl
  · have H : Hid (fpAdd a b = a + b) := Lib.hid (if_neg h)
    unfold fpP at h
    have q : decide ((2305843009213693951 : Int) ≤ (a : Int) + (b : Int)) = false := by simp; omega
    go_enter Tryz.func29, Tryz.ntmps29
    go_wp2_with fail
    go_ret
    refine ⟨?_, rfl⟩
    rw [H.out]
    congr 2
theorem land_mask (x : Nat) : x &&& 2305843009213693951 = x % 2305843009213693952 := Nat.and_two_pow_sub_one_eq_mod x 61
theorem or_parts (h l : Nat) (hl : l < 8) : h * 8 ||| l = h * 8 + l := by
  rw [Nat.mul_comm h 8]
  exact (Nat.two_pow_add_eq_or_of_lt (i := 3) hl h).symm
theorem bits_and (x : Nat) (hx : x < 18446744073709551616) : bits BinOp.and IntKind.u64 (x : Int) 2305843009213693951 = ((x % 2305843009213693952 : Nat) : Int) := by
  unfold bits
  rw [show (2305843009213693951 : Int) = ((2305843009213693951 : Nat) : Int) from rfl]
  simp only [BitVec.ofInt_natCast, BitVec.toNat_and, BitVec.toNat_ofNat]
  rw [show IntKind.u64.bits = 64 from rfl, Nat.mod_eq_of_lt (show x < 2 ^ 64 from hx), Nat.mod_eq_of_lt (show 2305843009213693951 < 2 ^ 64 by decide), land_mask, wrap_u64']
  omega
theorem bits_or (h l : Nat) (hh : h * 8 < 18446744073709551608) (hl : l < 8) : bits BinOp.or IntKind.u64 ((h * 8 : Nat) : Int) ((l : Nat) : Int) = ((h * 8 + l : Nat) : Int) := by
  unfold bits
  simp only [BitVec.ofInt_natCast, BitVec.toNat_or, BitVec.toNat_ofNat]
  rw [show IntKind.u64.bits = 64 from rfl, Nat.mod_eq_of_lt (show h * 8 < 2 ^ 64 from by omega), Nat.mod_eq_of_lt (show l < 2 ^ 64 by omega), or_parts h l hl, wrap_u64']
  omega
theorem tmod_fp (x : Nat) : (x : Int).tmod 2305843009213693951 = ((x % fpP : Nat) : Int) := by
  rw [show (2305843009213693951 : Int) = ((2305843009213693951 : Nat) : Int) from rfl, ← Int.ofNat_tmod]; rfl
set_option maxHeartbeats 2000000 in
theorem fpMul_any (a b : Nat) (w : World) (ha : a < fpP) (hb : b < fpP) :
    Calls Tryz.prog 30 #[.int .u64 a, .int .u64 b] w fun e w' => e = .returned (.int .u64 (fpMul a b : Nat)) ∧ w = w' := by
  have HM := Lib.hid (Tryz.bits_Mul64 a b (by unfold fpP at ha; omega) (by unfold fpP at hb; omega) w)
  have HA := Lib.hid (fpAdd_any (a * b % 18446744073709551616 % 2305843009213693952 % fpP) ((a * b / 18446744073709551616 * 8 + a * b % 18446744073709551616 / 2305843009213693952) % fpP) w (Nat.mod_lt _ (by decide)) (Nat.mod_lt _ (by decide)))
  have hv : fpMul a b = fpAdd (a * b % 18446744073709551616 % 2305843009213693952 % fpP) ((a * b / 18446744073709551616 * 8 + a * b % 18446744073709551616 / 2305843009213693952) % fpP) := rfl
  rw [← hv] at HA
  generalize fpMul a b = v at HA ⊢
  have hab : a * b < fpP * fpP := Nat.mul_lt_mul_of_lt_of_le ha (Nat.le_of_lt hb) (by omega)
  have hq : a * b / 18446744073709551616 < 288230376151711744 := by
    refine Nat.div_lt_of_lt_mul (Nat.lt_of_lt_of_le hab ?_)
    unfold fpP; decide
  have hr : a * b % 18446744073709551616 < 18446744073709551616 := Nat.mod_lt _ (by decide)
  generalize a * b / 18446744073709551616 = hi at HM HA hq
  generalize a * b % 18446744073709551616 = lo at HM HA hr
  have h1 := Lib.hid (bits_and lo hr)
  have h2 : Hid ((hi : Int) * 8 = ((hi * 8 : Nat) : Int)) := Lib.hid (by omega)
  have h3 : Hid ((lo : Int) / 2305843009213693952 = ((lo / 2305843009213693952 : Nat) : Int)) := Lib.hid (by omega)
  have h4 := Lib.hid (bits_or hi (lo / 2305843009213693952) (by omega) (by omega))
  clear hv hab ha hb
  go_enter Tryz.func30, Tryz.ntmps30
  go_wp2_with fail
  refine HM.out.mono ?_
  rintro e w' ⟨rfl, rfl⟩
  go_wp2_with fail
  rw [h1.out, h2.out, h3.out, h4.out, tmod_fp, tmod_fp]
  refine HA.out.mono ?_
  rintro e w' ⟨rfl, rfl⟩
  go_wp2_with fail
  go_ret
  exact ⟨rfl, rfl⟩
theorem fpSum_snoc (l : List UInt8) (x : UInt8) : fpSum (l ++ [x]) = fpAdd (fpMul (fpSum l) fpB) (x.toNat + 1) := by unfold fpSum; rw [List.foldl_append, List.foldl_cons, List.foldl_nil]
set_option maxRecDepth 100000 in
set_option maxHeartbeats 2000000 in
theorem fpSum_any (l : List UInt8) (v : Value) (w : World) (hb : Bytes w v l) (hl : l.length ≤ 1000000) :
    Calls Tryz.prog 12 #[v] w fun e w' => e = .returned (.int .u64 (fpSum l : Nat)) ∧ w = w' := by
  obtain ⟨A, c, rfl, hcc, hmm, -⟩ := id hb
  have HB := Lib.hid hb
  unfold maxLen at hmm
  clear hb
  go_enter Tryz.func12, Tryz.ntmps12
  go_wp2_with fail
  go_loop [3, 8] (fun u i => ∃ k : Nat, k ≤ l.length ∧ i = .int .i64 k ∧ u = .int .u64 (fpSum (l.take k) : Nat)) (fun _ i => l.length - (intOf i).toNat)
  case atStart => exact ⟨0, Nat.zero_le _, rfl, rfl⟩
  case round =>
    obtain ⟨k, hk, rfl, rfl⟩ := hrel
    by_cases hlt : k < l.length
    · obtain ⟨ad, rfl, hab, x0⟩ := Bytes.at_ HB.out hlt
      have HN := Lib.hid (show fpSum (l.take (k + 1)) = fpAdd (fpMul (fpSum (l.take k)) fpB) (l[k].toNat + 1) by rw [List.take_succ_eq_append_getElem hlt, fpSum_snoc])
      have hx := l[k].toNat_lt
      have HL := Lib.hid (fpSum_lt (l.take k))
      generalize l[k] = x at x0 HN hx
      generalize fpSum (l.take k) = s at HN HL
      have HM := Lib.hid (fun X => fpMul_any s fpB X HL.out (by decide))
      have HA := Lib.hid (fun X => fpAdd_any (fpMul s fpB) (x.toNat + 1) X (fpMul_lt _ _) (by unfold fpP; omega))
      rw [← HN.out] at HA
      unfold fpB at HM HA
      generalize fpMul s 747382712868975713 = y at HM HA
      obtain ⟨z, hz⟩ : ∃ z, fpSum (l.take (k + 1)) = z := ⟨_, rfl⟩
      rw [hz] at HA
      have HZ := Lib.hid hz
      clear hz
      obtain ⟨xn, hxn⟩ : ∃ n, x.toNat = n := ⟨_, rfl⟩
      rw [hxn] at x0 HA hx
      have hw0 : IntKind.u64.wrap (xn : Int) = (xn : Int) := by rw [wrap_u64']; omega
      have hw1 : IntKind.u64.wrap ((xn : Int) + 1) = (xn : Int) + 1 := by rw [wrap_u64']; omega
      have HC : Hid (((xn + 1 : Nat) : Int) = (xn : Int) + 1) := Lib.hid (by omega)
      rw [HC.out] at HA
      clear hxn
      go_wp2_with fail
      refine (HM.out _).mono ?_
      rintro e w' ⟨rfl, rfl⟩
      go_wp2_with fail
      refine (HA.out _).mono ?_
      rintro e w' ⟨rfl, rfl⟩
      go_wp2_with fail
      go_round
      case rel => exact ⟨k + 1, by omega, by go_num, by rw [HZ.out]⟩
      case measure => simp [intOf]; omega
    · have HE : Hid (fpSum (l.take k) = fpSum l) := Lib.hid (by rw [List.take_of_length_le (by omega)])
      rw [HE.out]
      go_wp2_with fail
      go_ret
      exact ⟨rfl, rfl⟩
set_option maxHeartbeats 2000000 in
theorem fpOf_any (l : List UInt8) (v : Value) (w : World) (hb : Bytes w v l) (hl : l.length ≤ 1000000) :
    Calls Tryz.prog 7 #[v] w fun e w' => e = .returned (.agg #[.int .u64 (fpSum l : Nat), .int .i64 l.length]) ∧ Below w.heap.size w w' := by
  obtain ⟨A, c, rfl, hcc, hmm, -⟩ := id hb
  have hB := blk_new w [.int .u64 0, .int .i64 0] 42
  have hA : Below w.heap.size w (w.alloc (.cells #[.int .u64 0, .int .i64 0] 42)) := (Below.refl _ _).alloc (Nat.le_refl _) _
  have HS := Lib.hid (fun X (hX : Below w.heap.size w X) => fpSum_any l (.slice A l.length c) X (Row.below hb hX) hl)
  clear hb
  unfold maxLen at hmm
  generalize fpSum l = z at HS ⊢
  go_enter Tryz.func7, Tryz.ntmps7
  go_upto_region 1 with fail
  generalize w.alloc (.cells #[.int .u64 0, .int .i64 0] 42) = W at hB hA ⊢
  have HW := Lib.hid (HS.out W hA)
  have c0 : W.cell? ⟨w.heap.size, 0, none⟩ = some (.int .u64 0) := hB.cell 0
  have c1 : W.cell? ⟨w.heap.size, 1, none⟩ = some (.int .i64 0) := hB.cell 1
  have f0 : W.frozen? ⟨w.heap.size, 0, none⟩ = false := hB.frozen 0
  have f1 : W.frozen? ⟨w.heap.size, 1, none⟩ = false := hB.frozen 1
  have HR := Lib.hid ((hB.set_ 0 (.int .u64 (z : Int))).set_ 1 (.int .i64 (l.length : Int)))
  have HA := Lib.hid ((hA.setCell (p := ⟨w.heap.size, 0, none⟩) (Nat.le_refl _) (.int .u64 (z : Int))).setCell (p := ⟨w.heap.size, 1, none⟩) (Nat.le_refl _) (.int .i64 (l.length : Int)))
  clear hB hA
  go_wp2_with fail
  refine HW.out.mono ?_
  rintro e w' ⟨rfl, rfl⟩
  go_wp2_with fail
  have r0 := HR.out.cell 0
  have r1 := HR.out.cell 1
  exact bodyPost_ret (v := .agg #[.int .u64 (z : Int), .int .i64 (l.length : Int)]) (by simp at r0 r1; simp [results, Tryz.results7, go_sem, r0, r1]) rfl ⟨rfl, HA.out⟩
end Go.Proofs.YteolonjmgojoeaaGreatDoor
/- empty: a file whose content was not fetched. -/
namespace Go.Proofs.YteolonjmgojoeaaGreatDoor
open Go.RowKit
set_option linter.unusedVariables false
set_option linter.unusedSimpArgs false

theorem grown_set (w : World) (g i : Nat) (u : Value) : w.grownBy (w.setCell ⟨g, i, none⟩ u) (some g) :=
  ⟨rfl, rfl, rfl, by simp, fun k _ hk => Below.heap_setCell w ⟨g, i, none⟩ u k (fun e => hk (by rw [e]))⟩
def hollowSt (size : Int) : Int := if size = 0 then 2 else 1
set_option maxRecDepth 100000 in
set_option maxHeartbeats 2000000 in
theorem empty_any (g : Nat) (f : WF) (bv : Value) (w : World) (hF : IsFile w g f bv) :
    Calls Tryz.prog 51 #[.pointer (some ⟨g, 0, none⟩)] w fun e w' => e = .returned (.tuple #[]) ∧ IsFile w' g { f with st := hollowSt f.rev.size } (.slice none 0 0) ∧ w.grownBy w' (some g) := by
  have s1 : IsFile (w.setCell ⟨g, 13, none⟩ (.int .i64 1)) g { f with st := 1 } bv := Blk.set_ hF 13 _
  have s2 : IsFile ((w.setCell ⟨g, 13, none⟩ (.int .i64 1)).setCell ⟨g, 14, none⟩ (.slice none 0 0)) g { f with st := 1 } (.slice none 0 0) := Blk.set_ s1 14 _
  have s3 : IsFile (((w.setCell ⟨g, 13, none⟩ (.int .i64 1)).setCell ⟨g, 14, none⟩ (.slice none 0 0)).setCell ⟨g, 13, none⟩ (.int .i64 2)) g { f with st := 2 } (.slice none 0 0) := Blk.set_ s2 13 _
  have g2 := (grown_set w g 13 (.int .i64 1)).trans (grown_set (w.setCell ⟨g, 13, none⟩ (.int .i64 1)) g 14 (.slice none 0 0))
  have g3 := g2.trans (grown_set _ g 13 (.int .i64 2))
  obtain ⟨c0, c1, c2, c9, c10, c13, c14⟩ := hF.facts
  obtain ⟨d0, d1, d2, d9, d10, d13, d14⟩ := s1.facts
  obtain ⟨e0, e1, e2, e9, e10, e13, e14⟩ := s2.facts
  have z1 := Blk.frozen hF 13
  have z2 := Blk.frozen s1 14
  have z3 := Blk.frozen s2 13
  by_cases hz : f.rev.size = 0
  · have H : Hid (IsFile (((w.setCell ⟨g, 13, none⟩ (.int .i64 1)).setCell ⟨g, 14, none⟩ (.slice none 0 0)).setCell ⟨g, 13, none⟩ (.int .i64 2)) g { f with st := hollowSt f.rev.size } (.slice none 0 0)) := Lib.hid (by unfold hollowSt; rw [if_pos hz]; exact s3)
    have q : (f.rev.size == 0) = true := by rw [hz]; rfl
    clear hz
    go_enter Tryz.func51, Tryz.ntmps51
    go_wp2_with fail
    go_end0
    exact ⟨rfl, H.out, g3⟩
  · have H : Hid (IsFile ((w.setCell ⟨g, 13, none⟩ (.int .i64 1)).setCell ⟨g, 14, none⟩ (.slice none 0 0)) g { f with st := hollowSt f.rev.size } (.slice none 0 0)) := Lib.hid (by unfold hollowSt; rw [if_neg hz]; exact s2)
    have q : (f.rev.size == 0) = false := by simpa using hz
    clear hz
    go_enter Tryz.func51, Tryz.ntmps51
    go_wp2_with fail
    go_end0
    exact ⟨rfl, H.out, g2⟩
end Go.Proofs.YteolonjmgojoeaaGreatDoor
/- changed: the file of a step whose path is new. -/
namespace Go.Proofs.YteolonjmgojoeaaGreatDoor
open Go.RowKit
open Go.Sort (grow)
set_option linter.unusedVariables false
set_option linter.unusedSimpArgs false

set_option maxRecDepth 100000 in
set_option maxHeartbeats 4000000 in
theorem changed_new (t bl bp bs ba : Nat) (n : Int) (x : Syn) (r : Rev) (F2 : ByteArray → Option Nat) (w : World) (hT : IsTree w t n bl bp bs ba) (h2 : FMap Value.string ptrV w bp F2) (hf : F2 x.path = none) :
    Calls Tryz.prog 24 #[.pointer (some ⟨t, 0, none⟩), .agg #[.int .i64 x.kind, .string x.path, .int .i64 x.num, .string x.frm, .string x.dst], .agg #[.string r.path, .int .i64 r.num, .int .i64 r.chg, .int .i64 r.act, .int .i64 r.ty.base, .bool r.ty.k, .bool r.ty.l, .bool r.ty.x, .int .u64 r.sum, .int .i64 r.size, .string r.frm, .int .i64 r.fnum]] w fun e w' => e = .returned (ptrV (w.heap.size + 2)) ∧ IsFile w' (w.heap.size + 2) ⟨x.dst, r, hollowSt r.size⟩ (.slice none 0 0) ∧ Below w.heap.size w w' := by
  have hA : Below w.heap.size w (((w.alloc (.cells #[.int .i64 x.kind, .string x.path, .int .i64 x.num, .string x.frm, .string x.dst] 60)).alloc (.cells #[.string r.path, .int .i64 r.num, .int .i64 r.chg, .int .i64 r.act, .int .i64 r.ty.base, .bool r.ty.k, .bool r.ty.l, .bool r.ty.x, .int .u64 r.sum, .int .i64 r.size, .string r.frm, .int .i64 r.fnum] 74)).alloc (.cells #[.string x.dst, .string r.path, .int .i64 r.num, .int .i64 r.chg, .int .i64 r.act, .int .i64 r.ty.base, .bool r.ty.k, .bool r.ty.l, .bool r.ty.x, .int .u64 r.sum, .int .i64 r.size, .string r.frm, .int .i64 r.fnum, .int .i64 0, .slice none 0 0] 96)) :=
    (((Below.refl _ _).alloc (Nat.le_refl _) _).alloc (by simp) _).alloc (by simp; omega) _
  have hS : Blk (((w.alloc (.cells #[.int .i64 x.kind, .string x.path, .int .i64 x.num, .string x.frm, .string x.dst] 60)).alloc (.cells #[.string r.path, .int .i64 r.num, .int .i64 r.chg, .int .i64 r.act, .int .i64 r.ty.base, .bool r.ty.k, .bool r.ty.l, .bool r.ty.x, .int .u64 r.sum, .int .i64 r.size, .string r.frm, .int .i64 r.fnum] 74)).alloc (.cells #[.string x.dst, .string r.path, .int .i64 r.num, .int .i64 r.chg, .int .i64 r.act, .int .i64 r.ty.base, .bool r.ty.k, .bool r.ty.l, .bool r.ty.x, .int .u64 r.sum, .int .i64 r.size, .string r.frm, .int .i64 r.fnum, .int .i64 0, .slice none 0 0] 96)) w.heap.size 60 [.int .i64 x.kind, .string x.path, .int .i64 x.num, .string x.frm, .string x.dst] :=
    Blk.alloc (Blk.alloc (blk_new w [.int .i64 x.kind, .string x.path, .int .i64 x.num, .string x.frm, .string x.dst] 60) _) _
  have hF : IsFile (((w.alloc (.cells #[.int .i64 x.kind, .string x.path, .int .i64 x.num, .string x.frm, .string x.dst] 60)).alloc (.cells #[.string r.path, .int .i64 r.num, .int .i64 r.chg, .int .i64 r.act, .int .i64 r.ty.base, .bool r.ty.k, .bool r.ty.l, .bool r.ty.x, .int .u64 r.sum, .int .i64 r.size, .string r.frm, .int .i64 r.fnum] 74)).alloc (.cells #[.string x.dst, .string r.path, .int .i64 r.num, .int .i64 r.chg, .int .i64 r.act, .int .i64 r.ty.base, .bool r.ty.k, .bool r.ty.l, .bool r.ty.x, .int .u64 r.sum, .int .i64 r.size, .string r.frm, .int .i64 r.fnum, .int .i64 0, .slice none 0 0] 96)) (w.heap.size + 2) ⟨x.dst, r, 0⟩ (.slice none 0 0) := by
    have := blk_new ((w.alloc (.cells #[.int .i64 x.kind, .string x.path, .int .i64 x.num, .string x.frm, .string x.dst] 60)).alloc (.cells #[.string r.path, .int .i64 r.num, .int .i64 r.chg, .int .i64 r.act, .int .i64 r.ty.base, .bool r.ty.k, .bool r.ty.l, .bool r.ty.x, .int .u64 r.sum, .int .i64 r.size, .string r.frm, .int .i64 r.fnum] 74)) [.string x.dst, .string r.path, .int .i64 r.num, .int .i64 r.chg, .int .i64 r.act, .int .i64 r.ty.base, .bool r.ty.k, .bool r.ty.l, .bool r.ty.x, .int .u64 r.sum, .int .i64 r.size, .string r.frm, .int .i64 r.fnum, .int .i64 0, .slice none 0 0] 96
    have hs2 : ((w.alloc (.cells #[.int .i64 x.kind, .string x.path, .int .i64 x.num, .string x.frm, .string x.dst] 60)).alloc (.cells #[.string r.path, .int .i64 r.num, .int .i64 r.chg, .int .i64 r.act, .int .i64 r.ty.base, .bool r.ty.k, .bool r.ty.l, .bool r.ty.x, .int .u64 r.sum, .int .i64 r.size, .string r.frm, .int .i64 r.fnum] 74)).heap.size = w.heap.size + 2 := by simp
    rw [hs2] at this
    exact this
  have HE := Lib.hid (empty_any (w.heap.size + 2) _ _ _ hF)
  have hTl := hT.lt
  have hBl := h2.lt
  have hT3 : IsTree _ t n bl bp bs ba := hT.below hA hT.lt
  have h23 := FMap.below h2 hA
  go_enter Tryz.func24, Tryz.ntmps24
  go_wp2_with fail
  refine HE.out.mono ?_
  rintro e w4 ⟨rfl, hF4, hg⟩
  have hb4 := hA.trans (show Below w.heap.size _ w4 from ⟨hg.os, hg.tape, hg.output, hg.size, fun k hk => hg.block k (by simp; omega) (by intro e; injection e with e; omega)⟩)
  have hT4 : IsTree w4 t n bl bp bs ba := Blk.grown hT3 hg (by intro e; injection e with e; omega)
  have h24 := FMap.grown h23 hg (by intro e; injection e with e; omega)
  have hS4 : Blk w4 w.heap.size 60 [.int .i64 x.kind, .string x.path, .int .i64 x.num, .string x.frm, .string x.dst] := Blk.grown hS hg (by intro e; injection e with e; omega)
  obtain ⟨t0, t1, t2, t3, t4⟩ := hT4.facts
  obtain ⟨s0, s1, s2, s3, s4⟩ := box5s (x := x) hS4
  have lk := fun X hX => FMap.lookup (w := X) hX (keyOk_string Tryz.underlying9) Tryz.underlying35 (z := .pointer none) (by rfl) x.path true (f := F2) (enc := ptrV) (B := bp)
  have lv : lookV ptrV (.pointer none) true (F2 x.path) = .tuple #[.pointer none, .bool false] := by rw [hf]; rfl
  have lk4 : ∀ d os, (Instr.lookup 35 (.map (some bp)) (.string x.path) true).run Tryz.prog (grow (redrawn w4 d) os) = .ok (.tuple #[.pointer none, .bool false]) (grow (redrawn w4 d) os) := fun d os => by have hh := lk _ (FMap.below h24 (below_regrown w4 d os)); rw [lv] at hh; exact hh
  have m2 := cell_regrown t2
  have n1 := cell_regrown s1
  have HR := Lib.hid (And.intro hF4 hb4)
  clear lk hg hF4 hb4 hT4 h24 hS4 hS hF HE hT3 h23 hA
  go_wp2_with fail
  refine wp_region_quiet_below (by kernel_rfl) (by kernel_rfl) ?_
  repeat (first | go_big_quiet_step (fail) | quiet_step (fail))
  refine wpQuiet_nil ?_
  intro _ hw9
  obtain ⟨⟨dq, osq⟩, hw9⟩ := hw9
  subst hw9
  have HQ := Lib.hid (below_regrown w4 dq osq)
  generalize grow (redrawn w4 dq) osq = w5 at HQ ⊢
  go_wp2_with fail
  first | go_quiet (fail) | skip
  go_wp2_with fail
  go_ret
  exact ⟨rfl, HR.out.1.below (below_drewN HQ.out _) HR.out.1.lt, below_next HR.out.2 (below_drewN HQ.out _)⟩
end Go.Proofs.YteolonjmgojoeaaGreatDoor
/- Maps whose keys are strings or integers: the entries as a list, oldest first. -/
namespace Go.Proofs.YteolonjmgojoeaaGreatDoor.kw
set_option linter.unusedVariables false
set_option linter.unusedSimpArgs false
open Go.RowKit

section
variable {κ : Type} [BEq κ]
def aget (m : List (κ × Value)) (k : κ) : Option Value := (m.find? (k == ·.1)).map (·.2)
def aset : List (κ × Value) → κ → Value → List (κ × Value)
  | [], k, v => [(k, v)]
  | p :: m, k, v => if k == p.1 then (k, v) :: m else p :: aset m k v

/-- The key type k of a map reads as κ. -/
structure KeyOk (P : Program) (k : TypeId) (kv : κ → Value) : Prop where
  kind : ∃ d, P.underlying k = some d ∧ ∀ a b, Instr.sameNow d (kv a) (kv b) = some (a == b)
  check : ∀ (b : Bool) (a : κ) (w : World), (Instr.checkKey b 10000 k (kv a)).run P w = .ok () w
  bits : ∀ a b, (a == b) = true → Instr.sameBits 10000 (kv b) (kv a) = true

end

section
variable {κ : Type} {kv : κ → Value} {w w' : World} {B : Nat} {m : List (κ × Value)}
def pairsOf (es : List MapEntry) : List (Value × Value) := es.map fun e => (e.key, e.val)
/-- Block B is a map; its entries, oldest first. -/
def IsMap (kv : κ → Value) (w : World) (B : Nat) (m : List (κ × Value)) : Prop :=
  ∃ es clock, w.heap[B]? = some (.map es clock) ∧ pairsOf es.toList = m.map fun p => (kv p.1, p.2)

theorem IsMap.lt (h : IsMap kv w B m) : B < w.heap.size := by obtain ⟨es, c, h, _⟩ := h; exact (Array.getElem?_eq_some_iff.1 h).1
theorem IsMap.keep (h : IsMap kv w B m) (hk : w'.heap[B]? = w.heap[B]?) : IsMap kv w' B m := by obtain ⟨es, c, h, r⟩ := h; exact ⟨es, c, hk.trans h, r⟩
theorem IsMap.below (h : IsMap kv w B m) (hb : Below w.heap.size w w') : IsMap kv w' B m := h.keep (hb.block B h.lt)
theorem IsMap.alloc (h : IsMap kv w B m) (o : Obj) : IsMap kv (w.alloc o) B m := h.keep (Below.heap_alloc w o B h.lt)
theorem IsMap.drewN (h : IsMap kv w B m) (n : Nat) : IsMap kv (w.drewN n) B m := h
theorem IsMap.setCell (h : IsMap kv w B m) {p : Addr} (hp : p.block ≠ B) (u : Value) : IsMap kv (w.setCell p u) B m := h.keep (Below.heap_setCell w p u B (fun e => hp e.symm))
theorem IsMap.new (kv : κ → Value) (w : World) : IsMap kv (w.alloc (.map #[] 0)) w.heap.size [] := ⟨#[], 0, heap_alloc_new w _, rfl⟩

end

section
variable {κ : Type} [BEq κ] {P : Program} {k : TypeId} {kv : κ → Value} {w : World} {B : Nat} {m : List (κ × Value)}
theorem findNow_eq (d : TypeDesc) (hd : ∀ a b, Instr.sameNow d (kv a) (kv b) = some (a == b)) (x : κ) :
    ∀ (es : List MapEntry) (m : List (κ × Value)) (i : Nat), pairsOf es = m.map (fun p => (kv p.1, p.2)) →
      Instr.findNow d (kv x) es i = some (((m.zipIdx i).find? (fun q => x == q.1.1)).map fun q => (q.2, q.1.2)) := by
  intro es
  induction es with
  | nil => intro m i h; cases m with
    | nil => simp [Instr.findNow]
    | cons p m => simp [pairsOf] at h
  | cons e es ih => intro m i h; cases m with
    | nil => simp [pairsOf] at h
    | cons p m =>
      simp only [pairsOf, List.map_cons, List.cons.injEq, Prod.mk.injEq] at h
      obtain ⟨⟨h1, h2⟩, h3⟩ := h
      simp only [Instr.findNow, h1, hd, List.zipIdx_cons, List.find?_cons]
      cases hx : (x == p.1)
      · exact ih m (i + 1) h3
      · simp [h2]

theorem find_zip (x : κ) : ∀ (m : List (κ × Value)) (i : Nat), (((m.zipIdx i).find? (fun q => x == q.1.1)).map fun q => q.1.2) = aget m x
  | [], i => rfl
  | p :: m, i => by
    simp only [List.zipIdx_cons, List.find?_cons, aget]
    cases hx : (x == p.1)
    · exact find_zip x m (i + 1)
    · rfl

theorem run_findKey (K : KeyOk P k kv) (x : κ) {es : List MapEntry} (h : pairsOf es = m.map (fun p => (kv p.1, p.2))) (w : World) :
    (Instr.findKey k (kv x) es).run P w = .ok (((m.zipIdx 0).find? (fun q => x == q.1.1)).map fun q => (q.2, q.1.2)) w := by
  obtain ⟨d, hd, hs⟩ := K.kind
  simp only [Instr.findKey, Sem.run_bind, run_underlying hd, Result.andThen_ok, findNow_eq d hs x es m 0 h, Sem.run_pure]

theorem IsMap.lookup (h : IsMap kv w B m) (K : KeyOk P k kv) {t e : TypeId} (ht : P.underlying t = some (.map k e)) {z : Value} (hz : (zeroValue e).run P w = .ok z w) (x : κ) (c : Bool) :
    (Instr.lookup t (.map (some B)) (kv x) c).run P w = .ok (if c then .tuple #[(aget m x).getD z, .bool (aget m x).isSome] else (aget m x).getD z) w := by
  obtain ⟨es, clock, hB, hp⟩ := h
  have hf := find_zip x m 0
  have hg : (getObj B).run P w = .ok (.map es clock) w := by simp [getObj, Sem.run, hB]
  simp only [Instr.lookup, Sem.run_bind, run_underlying ht, Result.andThen_ok, hg, K.check, run_findKey K x hp, Sem.run_pure]
  cases hq : (m.zipIdx 0).find? (fun q => x == q.1.1) with
  | none => rw [hq] at hf; simp only [Option.map_none] at hf; simp [← hf, hz]
  | some q => rw [hq] at hf; simp only [Option.map_some] at hf; simp [← hf]

theorem aset_modify (x : κ) (v : Value) : ∀ (es : List MapEntry) (m : List (κ × Value)) (i : Nat) (q : (κ × Value) × Nat), pairsOf es = m.map (fun p => (kv p.1, p.2)) →
    (m.zipIdx i).find? (fun q => x == q.1.1) = some q → i ≤ q.2 ∧ pairsOf (es.modify (q.2 - i) (fun e => { e with key := kv x, val := v })) = (aset m x v).map (fun p => (kv p.1, p.2)) ∧ (∃ e y, es[q.2 - i]? = some e ∧ e.key = kv y ∧ (x == y) = true) := by
  intro es
  induction es with
  | nil => intro m i q h hq; cases m with
    | nil => simp at hq
    | cons p m => simp [pairsOf] at h
  | cons e es ih => intro m i q h hq; cases m with
    | nil => simp [pairsOf] at h
    | cons p m =>
      simp only [pairsOf, List.map_cons, List.cons.injEq, Prod.mk.injEq] at h
      obtain ⟨⟨h1, h2⟩, h3⟩ := h
      simp only [List.zipIdx_cons, List.find?_cons] at hq
      cases hx : (x == p.1)
      · rw [hx] at hq
        obtain ⟨a1, a2, a3⟩ := ih m (i + 1) q h3 hq
        refine ⟨by omega, ?_, ?_⟩
        · rw [show q.2 - i = (q.2 - (i + 1)) + 1 by omega]
          simp only [List.modify_succ_cons, pairsOf, List.map_cons, aset, hx]
          simpa [h1, h2, pairsOf] using a2
        · rw [show q.2 - i = (q.2 - (i + 1)) + 1 by omega]
          simpa using a3
      · rw [hx] at hq
        obtain rfl : (p, i) = q := by simpa using hq
        refine ⟨Nat.le_refl _, by simp [pairsOf, aset, hx, ← h3], e, p.1, by simp, h1, hx⟩

theorem aset_push (x : κ) (v : Value) : ∀ (m : List (κ × Value)) (i : Nat), (m.zipIdx i).find? (fun q => x == q.1.1) = none → aset m x v = m ++ [(x, v)]
  | [], _, _ => rfl
  | p :: m, i, h => by
    simp only [List.zipIdx_cons, List.find?_cons] at h
    cases hx : (x == p.1)
    · rw [hx] at h
      simp [aset, hx, aset_push x v m (i + 1) h]
    · rw [hx] at h; simp at h

theorem IsMap.update (h : IsMap kv w B m) (K : KeyOk P k kv) {t e : TypeId} (ht : P.underlying t = some (.map k e)) (x : κ) (v : Value) :
    ∃ w', (Instr.mapUpdate t (.map (some B)) (kv x) v).run P w = .ok () w' ∧ IsMap kv w' B (aset m x v) ∧ w.grownBy w' (some B) ∧ w'.heap.size = w.heap.size := by
  have hlt := h.lt
  obtain ⟨es, clock, hB, hp⟩ := h
  have hg : (getObj B).run P w = .ok (.map es clock) w := by simp [getObj, Sem.run, hB]
  have hset : ∀ o : Obj, ∃ w', (setObj B o).run P w = .ok () w' ∧ w'.heap[B]? = some o ∧ w.grownBy w' (some B) ∧ w'.heap.size = w.heap.size := by
    intro o
    refine ⟨{ w with heap := w.heap.setIfInBounds B o }, by simp [setObj, Sem.run, hB], by simp [hlt], ⟨rfl, rfl, rfl, by simp, fun k _ hk => ?_⟩, by simp⟩
    show (w.heap.setIfInBounds B o)[k]? = _
    rw [Array.getElem?_setIfInBounds_ne (fun e => hk (by rw [e]))]
  cases hq : (m.zipIdx 0).find? (fun q => x == q.1.1) with
  | none =>
    obtain ⟨w', hr, hb', hgr, hsz⟩ := hset (.map (es.push { key := kv x, val := v, born := clock }) (clock + 1))
    refine ⟨w', ?_, ⟨_, _, hb', ?_⟩, hgr, hsz⟩
    · simp only [Instr.mapUpdate, Sem.run_bind, run_underlying ht, Result.andThen_ok, hg, K.check, run_findKey K x hp, hq, Option.map_none, hr]
    · rw [aset_push x v m 0 hq]
      simp only [pairsOf] at hp
      simp [pairsOf, hp]
  | some q =>
    obtain ⟨-, a2, e0, y, a3, a4, a5⟩ := aset_modify (kv := kv) x v es.toList m 0 q hp hq
    simp only [Nat.sub_zero] at a2 a3
    obtain ⟨w', hr, hb', hgr, hsz⟩ := hset (.map (es.modify q.2 fun e => { e with key := kv x, val := v }) clock)
    refine ⟨w', ?_, ⟨_, _, hb', ?_⟩, hgr, hsz⟩
    · have he : es[q.2]? = some e0 := by simpa using a3
      simp only [Instr.mapUpdate, Sem.run_bind, run_underlying ht, Result.andThen_ok, hg, K.check, run_findKey K x hp, hq, Option.map_some, Instr.keyThatStays, he, Option.getD_some, a4, K.bits x y a5, if_true, Sem.run_pure, hr]
    · simpa using a2
end

theorem ba_eq {a b : ByteArray} (h : (a == b) = true) : a = b := by
  cases a with | mk x => cases b with | mk y =>
  have : (x == y) = true := h
  rw [eq_of_beq this]
theorem ba_refl (a : ByteArray) : (a == a) = true := by
  cases a with | mk x =>
  show (x == x) = true
  simp
theorem check_string {P : Program} {k : TypeId} (hk : P.underlying k = some .string) (b : Bool) (a : ByteArray) (w : World) (n : Nat) : (Instr.checkKey b (n + 1) k (.string a)).run P w = .ok () w := by
  simp [Instr.checkKey, run_underlying hk]
theorem check_int {P : Program} {k : TypeId} {q : IntKind} (hk : P.underlying k = some (.int q)) (b : Bool) (a : Int) (w : World) (n : Nat) : (Instr.checkKey b (n + 1) k (.int q a)).run P w = .ok () w := by
  simp [Instr.checkKey, run_underlying hk]
theorem bits_string (a : ByteArray) (n : Nat) : Instr.sameBits (n + 1) (.string a) (.string a) = true := by simp only [Instr.sameBits]; exact ba_refl a
theorem bits_int (q : IntKind) (a : Int) (n : Nat) : Instr.sameBits (n + 1) (.int q a) (.int q a) = true := by simp [Instr.sameBits]

theorem keyOk_string {P : Program} {k : TypeId} (hk : P.underlying k = some .string) : KeyOk P k Value.string :=
  ⟨⟨.string, hk, fun _ _ => rfl⟩, fun b a w => check_string hk b a w 9999, fun a b h => by
    have : b = a := (ba_eq h).symm
    subst this
    exact bits_string b 9999⟩
theorem run_mkMap {P : Program} (t k e : TypeId) (kd : IntKind) (n : Int) (ht : P.underlying t = some (.map k e)) (w : World) :
    (Instr.makeMap t (some (.int kd n))).run P w = .ok (.map (some w.heap.size)) (w.alloc (.map #[] 0)) := by
  simp [Instr.makeMap, run_underlying ht]; rfl

end Go.Proofs.YteolonjmgojoeaaGreatDoor.kw
/- A range over a function whose iterator hands out just the elements of a known list, in its order, and whose body never leaves early: the contract of such an iterator, and the statement's law. -/
namespace Go.Proofs.YteolonjmgojoeaaGreatDoor.kw
set_option linter.unusedVariables false
set_option linter.unusedSimpArgs false
open Go.RowKit

/-- Below N every block is kept but those in X. -/
structure KeepN (N : Nat) (X : Nat → Prop) (W W' : World) : Prop where
  os : W'.os = W.os
  tape : W'.tape = W.tape
  output : W'.output = W.output
  size : W.heap.size ≤ W'.heap.size
  block : ∀ k, k < N → ¬ X k → W'.heap[k]? = W.heap[k]?
section
variable {N : Nat} {X : Nat → Prop} {U V W : World}
theorem KeepN.refl (N : Nat) (X : Nat → Prop) (W : World) : KeepN N X W W := ⟨rfl, rfl, rfl, Nat.le_refl _, fun _ _ _ => rfl⟩
theorem KeepN.trans (h : KeepN N X U V) (k : KeepN N X V W) : KeepN N X U W :=
  ⟨k.os.trans h.os, k.tape.trans h.tape, k.output.trans h.output, Nat.le_trans h.size k.size, fun i hi hx => (k.block i hi hx).trans (h.block i hi hx)⟩
theorem KeepN.grown {row : Option Nat} (h : KeepN N X U V) (hg : V.grownBy W row) (hN : N ≤ V.heap.size) (hr : ∀ k, row = some k → k < N → X k) : KeepN N X U W :=
  h.trans ⟨hg.os, hg.tape, hg.output, hg.size, fun k hk hx => hg.block k (by omega) (fun e => hx (hr k e.symm hk))⟩
theorem KeepN.drewN (h : KeepN N X U V) (n : Nat) : KeepN N X U (V.drewN n) := h.trans ⟨rfl, rfl, rfl, Nat.le_refl _, fun _ _ _ => rfl⟩
theorem KeepN.below {B : Nat} (h : KeepN N X U W) (hB : B ≤ N) (hx : ∀ k, k < B → ¬ X k) : Below B U W := ⟨h.os, h.tape, h.output, h.size, fun k hk => h.block k (by omega) (hx k hk)⟩
end
theorem grownBy_trans {U V W : World} {row : Option Nat} (h : U.grownBy V row) (k : V.grownBy W row) : U.grownBy W row :=
  ⟨k.os.trans h.os, k.tape.trans h.tape, k.output.trans h.output, Nat.le_trans h.size k.size, fun i hi hne => (k.block i (Nat.lt_of_lt_of_le hi h.size) hne).trans (h.block i hi hne)⟩
theorem grownBy_of_none {U V : World} (h : U.grownBy V none) (row : Option Nat) : U.grownBy V row :=
  ⟨h.os, h.tape, h.output, h.size, fun i hi _ => h.block i hi (by simp)⟩
theorem grownBy_drewN (w : World) (n : Nat) (row : Option Nat) : w.grownBy (w.drewN n) row := ⟨rfl, rfl, rfl, Nat.le_refl _, fun _ _ _ => rfl⟩

/-- The contract of an iterator: it calls yield at the elements of xs, in their order, where each round goes on and keeps what the iterator reads. -/
def IterX {A : Type} (P : Program) (gf : Nat) (lb : Array Value) (encs : A → Array Value) (xs : List A) (N : Nat) (X : Nat → Prop) (w : World) : Prop :=
  ∀ (n l : Nat) (J : List A → World → Prop) (W : World), KeepN N X w W → (∀ pre V V', J pre V → V.grownBy V' none → J pre V') →
    (∀ pre x rest V, xs = pre ++ x :: rest → J pre V → YieldAt Fence.wide (n - 1) P l (encs x) V fun e V' => e = .returned (.bool true) ∧ J (pre ++ [x]) V' ∧ KeepN N X V V') →
    J [] W → CallsIn Fence.wide n P gf (#[.func (.yield l) #[] #[]] ++ lb) W fun e V' => (∃ v, e = .returned v) ∧ J xs V'

/-- What speaks of other blocks than the loop's record. -/
def Steady {β : Type} (N : Nat) (I : β → World → Prop) : Prop :=
  ∀ s V V', I s V → V.grownBy V' (some (N + 1)) → (∀ o, V.heap[N + 1]? = some o → ∃ r, o = .loop r) → I s V'

def postX {A : Type} (N : Nat) (X : Nat → Prop) (I : List A → World → Prop) (pre : List A) (V : World) : Exit → Act → World → Prop
  | .normal, _, V' => KeepN N X V V' ∧ V'.heap[N]? = V.heap[N]? ∧ V'.heap[N + 1]? = V.heap[N + 1]? ∧ I pre V'
  | _, _, _ => False

theorem wpIn_rangeX {A : Type} {n : Nat} {P : Program} {g : Operand} {ps : Array Tmp} {assign body : Code} {Q : Exit → Act → World → Prop} {a : Act} {w : World} {gf : Nat} {lb : Array Value}
    (hg : a.eval g = .func (.func gf) #[] lb) (eg : ∀ args w, (callFunc gf args).run P w = .ok (.enter gf args) w)
    {encs : A → Array Value} {xs : List A} {X : Nat → Prop} (hseq : IterX P gf lb encs xs w.heap.size X w) (hps : ∀ x, (encs x).size = ps.size)
    (I : List A → World → Prop) (hI : Steady w.heap.size I) (h0 : I [] w) (Ax : A → Act → World → Prop) (hAx : ∀ x a', Steady w.heap.size (fun (_ : Unit) V => Ax x a' V))
    (hassign : ∀ (l : Nat) (pre : List A) (x : A) (rest : List A) (V : World) (K : Act → World → Prop), xs = pre ++ x :: rest → I pre V → w.heap.size + 1 < V.heap.size →
      (∀ a' V', KeepN w.heap.size X V V' → V'.heap[w.heap.size]? = V.heap[w.heap.size]? → V'.heap[w.heap.size + 1]? = V.heap[w.heap.size + 1]? → I pre V' → Ax x a' V' → K a' V') →
      assign.wpIn (Fence.wide.inRound l) (n - 1 - 1) P (Exit.then K (fun _ _ _ => False)) { tmps := (ps.zip (encs x)).foldl (fun t (p, v) => t.setIfInBounds p v) a.tmps, defers := [] } V)
    (hbody : ∀ (l : Nat) (pre : List A) (x : A) (rest : List A) (a' : Act) (V : World), xs = pre ++ x :: rest → I pre V → Ax x a' V → V.heap[w.heap.size]? = some (.deferred (some [])) → (∃ r, V.heap[w.heap.size + 1]? = some (.loop r)) →
      body.wpIn (Fence.wide.inRound l) (n - 1 - 1) P (postX w.heap.size X I (pre ++ [x]) V) a' V)
    (hdone : ∀ V : World, I xs V → V.heap[w.heap.size]? = some (.deferred (some [])) → Q .normal { a with defers := { target := .collected w.heap.size, args := #[] } :: a.defers } V) :
    (Code.rangeFunc g ps assign body).wpIn Fence.wide n P Q a w := by
  refine wpIn_rangeFunc ?_
  intro fn hfn
  let rec0 : LoopState → Option Code → Loop := fun st pe => { state := st, pending := pe, fn, tmps := a.tmps, params := ps, assign, body, defers := w.heap.size }
  have hrec : ∀ st pe st' pe', ({ rec0 st pe with state := st', pending := pe' } : Loop) = rec0 st' pe' := fun _ _ _ _ => rfl
  obtain ⟨W1, hW1⟩ : ∃ W1, (w.alloc (.deferred (some []))).alloc (.loop (rec0 .ready none)) = W1 := ⟨_, rfl⟩
  have hsz : W1.heap.size = w.heap.size + 1 + 1 := by rw [← hW1]; simp
  have hL1 : W1.heap[w.heap.size + 1]? = some (.loop (rec0 .ready none)) := by
    rw [← hW1]
    have := World.alloc_heap_new (w.alloc (.deferred (some []))) (.loop (rec0 .ready none))
    rwa [World.size_alloc] at this
  have hD1 : W1.heap[w.heap.size]? = some (.deferred (some [])) := by
    rw [← hW1]
    exact (Below.heap_alloc _ _ _ (by simp)).trans (World.alloc_heap_new w _)
  have hg1 : w.grownBy W1 none := by rw [← hW1]; exact grownBy_trans (World.grownBy_alloc _ _ _) (World.grownBy_alloc _ _ _)
  have hI1 : I [] W1 := hI _ w W1 h0 (grownBy_of_none hg1 _) (fun o ho => by rw [Array.getElem?_eq_none (by omega)] at ho; cases ho)
  have hk1 : KeepN w.heap.size X w W1 := (KeepN.refl _ _ _).grown hg1 (Nat.le_refl _) (fun k e => by cases e)
  refine ⟨w.heap.size + 1, [{ target := .collected w.heap.size, args := #[] }], W1, { target := .fn (.func gf) lb, args := #[.func (.yield (w.heap.size + 1)) #[] #[]] }, W1, gf,
    #[.func (.yield (w.heap.size + 1)) #[] #[]] ++ lb, W1, ?_, ?_, fun _ _ => trivial, ?_, fun h => (by cases h), ?_⟩
  · rw [← hW1]; exact run_enterLoop_outer _ _ _ _ _
  · simp only [resolve, hg]
    simp [go_sem]
  · simp [invoke, go_sem, eg]
  -- a turn of the record
  have hturn : ∀ (V : World) (r r' : Loop), V.heap[w.heap.size + 1]? = some (.loop r) → V.grownBy (V.putObj (w.heap.size + 1) (.loop r')) (some (w.heap.size + 1)) ∧
      (V.putObj (w.heap.size + 1) (.loop r')).heap[w.heap.size + 1]? = some (.loop r') ∧ (V.putObj (w.heap.size + 1) (.loop r')).heap[w.heap.size]? = V.heap[w.heap.size]? ∧
      KeepN w.heap.size X V (V.putObj (w.heap.size + 1) (.loop r')) ∧ (∀ o, V.heap[w.heap.size + 1]? = some o → ∃ r, o = .loop r) := by
    intro V r r' hV
    refine ⟨grownBy_putObj' _ _ _, World.putObj_heap_same (Array.getElem?_eq_some_iff.1 hV).1, World.putObj_heap_other (by omega), ?_, fun o ho => ⟨r, by rw [hV] at ho; injection ho with ho; exact ho.symm⟩⟩
    exact (KeepN.refl _ _ _).grown (grownBy_putObj' _ _ _) (by have := (Array.getElem?_eq_some_iff.1 hV).1; omega) (fun k e hk => by cases e; omega)
  refine (hseq (n - 1) (w.heap.size + 1)
    (fun pre V => I pre V ∧ V.heap[w.heap.size + 1]? = some (.loop (rec0 .ready none)) ∧ V.heap[w.heap.size]? = some (.deferred (some []))) W1 hk1 ?_ ?_ ⟨hI1, hL1, hD1⟩).mono ?_
  · rintro pre V V' ⟨hi, hl, hd⟩ hgr
    have hlt := (Array.getElem?_eq_some_iff.1 hl).1
    refine ⟨hI _ V V' hi (grownBy_of_none hgr _) (fun o ho => ⟨_, by rw [hl] at ho; injection ho with ho; exact ho.symm⟩), (hgr.block _ hlt (by simp)).trans hl, (hgr.block _ (by omega) (by simp)).trans hd⟩
  · -- one round
    rintro pre x rest V hxs ⟨hi, hl, hd⟩
    have hlt := (Array.getElem?_eq_some_iff.1 hl).1
    have hy := run_yield (P := P) (args := encs x) hl (hps x)
    refine ⟨fn, _, assign, body, hy, roundIn_of_wpIn hfn (hassign _ pre x rest V _ hxs hi hlt ?_)⟩
    intro a' V1 hk1 hd1 hl1 hi1 hax
    rw [hl] at hl1
    rw [hd] at hd1
    refine ⟨_, run_beginRound hl1 rfl, ?_⟩
    obtain ⟨t1, t2, t3, t4, t5⟩ := hturn V1 _ ({ rec0 .ready none with state := .busy }) hl1
    refine wpIn_mono (hbody _ pre x rest a' _ hxs (hI _ _ _ hi1 t1 t5) (hAx x a' () _ _ hax t1 t5) (t3.trans hd1) ⟨_, t2⟩) ?_
    rintro e a3 V3 hp
    cases e with
    | normal =>
      obtain ⟨hk3, hd3, hl3, hi3⟩ := hp
      rw [t2] at hl3
      obtain ⟨s1, s2, s3, s4, s5⟩ := hturn V3 _ (rec0 .ready none) hl3
      refine ⟨_, _, run_endRound none hl3, rfl, ⟨hI _ _ _ hi3 s1 s5, s2, s3.trans (hd3.trans (t3.trans hd1))⟩, hk1.trans (t4.trans (hk3.trans s4))⟩
    | ret => exact hp.elim
    | exit id => exact hp.elim
    | goto t => exact hp.elim
    | panic ch => exact hp.elim
    | outgrown => exact hp.elim
  · rintro e V ⟨⟨v, rfl⟩, hi, hl, hd⟩
    obtain ⟨s1, s2, s3, s4, s5⟩ := hturn V _ ({ rec0 .ready none with state := .exhausted }) hl
    exact ⟨none, _, run_endLoop hl (by simp [rec0]), hdone _ (hI _ _ _ hi s1 s5) (s3.trans hd)⟩

theorem own_ne {V : World} {base : Nat} {e : TypeId} {size : Nat} {v : Value} {n : Nat} {xs : List Value} {k : Nat} {o : Obj} (h : V.ownsRow base e size v n xs) (ho : V.heap[k]? = some o) (hc : ∀ cs t f, o ≠ .cells cs t f) : v.ownBlock ≠ some k := by
  intro hk
  rcases h.2 with ⟨rfl, _⟩ | ⟨g, cap, cur, rfl, _, hg, _⟩
  · simp [Value.ownBlock] at hk
  · simp [Value.ownBlock] at hk
    subst hk
    rw [hg] at ho
    injection ho with ho
    exact hc _ _ _ ho.symm

theorem steady_row {V V' : World} {base : Nat} {e : TypeId} {size : Nat} {v : Value} {n : Nat} {xs : List Value} {N : Nat} (h : V.ownsRow base e size v n xs) (hg : V.grownBy V' (some (N + 1))) (hl : ∀ o, V.heap[N + 1]? = some o → ∃ r, o = .loop r) : V'.ownsRow base e size v n xs := by
  refine h.kept hg ?_
  cases hv : v.ownBlock with
  | none => exact .inl rfl
  | some g =>
    refine .inr fun e => ?_
    injection e with e
    subst e
    have hlt := (h.lt _ hv).2
    obtain ⟨r, hr⟩ := hl _ (Array.getElem?_eq_getElem hlt)
    exact own_ne h (Array.getElem?_eq_getElem hlt) (by rw [hr]; intro _ _ _ h; cases h) hv
theorem steady_boxed {V V' : World} {R N : Nat} {t : TypeId} {v : Value} (h : Boxed V R t v) (hR : R < N) (hg : V.grownBy V' (some (N + 1))) : Boxed V' R t v := h.kept hg (by intro e; injection e with e; omega)
theorem steady_keep {U V V' : World} {N : Nat} {X : Nat → Prop} (h : KeepN N X U V) (hN : N ≤ V.heap.size) (hg : V.grownBy V' (some (N + 1))) : KeepN N X U V' := h.grown hg hN (fun k e hk => by injection e with e; omega)
theorem steady_blk {V V' : World} {g N : Nat} {e : TypeId} {cs : List Value} (h : Blk V g e cs) (hg : V.grownBy V' (some (N + 1))) (hl : ∀ o, V.heap[N + 1]? = some o → ∃ r, o = .loop r) : Blk V' g e cs := by
  refine h.grown hg ?_
  intro e
  injection e with e
  subst e
  obtain ⟨r, hr⟩ := hl _ h
  cases hr

/-- All blocks of V but R and 'row' are kept. -/
structure Upd (R : Nat) (row : Option Nat) (V U : World) : Prop where
  os : U.os = V.os
  tape : U.tape = V.tape
  output : U.output = V.output
  size : V.heap.size ≤ U.heap.size
  block : ∀ k, k < V.heap.size → k ≠ R → some k ≠ row → U.heap[k]? = V.heap[k]?
theorem Upd.keepN {R N : Nat} {row : Option Nat} {V U : World} (h : Upd R row V U) (hN : N ≤ V.heap.size) (hr : ∀ k, row = some k → N ≤ k) {X : Nat → Prop} (hX : X R) : KeepN N X V U :=
  ⟨h.os, h.tape, h.output, h.size, fun k hk hx => h.block k (by omega) (fun e => hx (e ▸ hX)) (fun e => by have := hr k e.symm; omega)⟩
theorem Upd.keep_other {R : Nat} {V U : World} {base : Nat} {e : TypeId} {size : Nat} {v : Value} {n : Nat} {xs : List Value} (h : Upd R v.ownBlock V U) (hown : V.ownsRow base e size v n xs) {k : Nat} {o : Obj} (ho : V.heap[k]? = some o) (hk : k ≠ R) (hc : ∀ cs f, o ≠ .cells cs e f) : U.heap[k]? = some o := by
  refine (h.block k (Array.getElem?_eq_some_iff.1 ho).1 hk ?_).trans ho
  intro hk'
  rcases hown.2 with ⟨rfl, _⟩ | ⟨g, cap, cur, rfl, _, hg, _⟩
  · simp [Value.ownBlock] at hk'
  · simp [Value.ownBlock] at hk'
    subst hk'
    rw [hg] at ho
    injection ho with ho
    exact hc _ _ ho.symm
/-- A variable's box that holds a slice of the call's own: behind an append and the store back. -/
theorem collect_upd {V V1 w1 : World} {N R : Nat} {t e : TypeId} {size n n' : Nat} {v v' : Value} {xs xs' : List Value} (hbox : Boxed V R t v) (hR : R < N) (hown : V.ownsRow N e size v n xs) (hg0 : V.grownBy V1 none)
    (hown1 : w1.ownsRow N e size v' n' xs') (hg1 : V1.grownBy w1 v.ownBlock) :
    Boxed w1 R t v ∧ Boxed (w1.setCell ⟨R, 0, none⟩ v') R t v' ∧ (w1.setCell ⟨R, 0, none⟩ v').ownsRow N e size v' n' xs' ∧ Upd R v.ownBlock V (w1.setCell ⟨R, 0, none⟩ v') := by
  have hob : ∀ k, v.ownBlock = some k → N ≤ k := fun k hk => (hown.lt k hk).1
  have hgw : ∀ k, k < V.heap.size → some k ≠ v.ownBlock → w1.heap[k]? = V.heap[k]? := fun k hk hne =>
    (hg1.block k (Nat.lt_of_lt_of_le hk hg0.size) hne).trans (hg0.block k hk (by simp))
  have hb1 : Boxed w1 R t v := (hgw R hbox.lt (fun e => by have := hob R e.symm; omega)).trans hbox
  refine ⟨hb1, hb1.set v', hown1.kept (grownBy_setCell' w1 R v') ?_, ⟨hg1.os.trans hg0.os, hg1.tape.trans hg0.tape, hg1.output.trans hg0.output, ?_, ?_⟩⟩
  · cases hv : v'.ownBlock with
    | none => exact .inl rfl
    | some g => exact .inr (fun e => by injection e with e; have := (hown1.lt g hv).1; omega)
  · have := hg1.size; have := hg0.size; simp [World.setCell]; omega
  · intro k hk hkR hne
    rw [Below.heap_setCell _ _ _ _ hkR]
    exact hgw k hk hne

end Go.Proofs.YteolonjmgojoeaaGreatDoor.kw
/- Plain facts on the order of paths. -/
namespace Go.Proofs.YteolonjmgojoeaaGreatDoor
open Go.RowKit
set_option linter.unusedVariables false
set_option linter.unusedSimpArgs false

theorem cmpL_self (l : List UInt8) : cmpL l l = 0 := by
  induction l with
  | nil => rfl
  | cons a l ih => simp [cmpL, ih]
theorem cmpL_eq {l m : List UInt8} (h : cmpL l m = 0) : l = m := by
  induction l generalizing m with
  | nil => cases m <;> simp [cmpL] at h ⊢
  | cons a l ih =>
    cases m with
    | nil => simp [cmpL] at h
    | cons b m =>
      unfold cmpL at h
      by_cases e : a = b
      · rw [if_pos e] at h; rw [e, ih h]
      · rw [if_neg e] at h; split at h <;> (try split at h) <;> (try split at h) <;> simp at h
theorem cmpL_anti (l m : List UInt8) : cmpL m l = - cmpL l m := by
  induction l generalizing m with
  | nil => cases m <;> simp [cmpL]
  | cons a l ih =>
    cases m with
    | nil => simp [cmpL]
    | cons b m =>
      unfold cmpL
      by_cases e : a = b
      · subst e; rw [if_pos rfl, if_pos rfl]; exact ih m
      · rw [if_neg e, if_neg (fun h => e h.symm)]
        by_cases ha : a = 47
        · subst ha
          rw [if_neg (fun h => e h.symm), if_pos rfl, if_pos rfl]
          decide
        · by_cases hb : b = 47
          · subst hb; rw [if_pos rfl, if_neg ha, if_pos rfl]
          · rw [if_neg hb, if_neg ha, if_neg ha, if_neg hb]
            by_cases hl : a < b
            · have : ¬ b < a := by rw [UInt8.lt_iff_toNat_lt] at hl ⊢; omega
              rw [if_neg this, if_pos hl]; decide
            · have : b < a := by
                have : a.toNat ≠ b.toNat := fun h => e (UInt8.toNat_inj.1 h)
                rw [UInt8.lt_iff_toNat_lt] at hl ⊢; omega
              rw [if_neg hl, if_pos this]
def rk (c : UInt8) : Nat := if c = 47 then 0 else c.toNat + 1
theorem cmpL_cons (a b : UInt8) (l m : List UInt8) : cmpL (a :: l) (b :: m) < 0 ↔ rk a < rk b ∨ (a = b ∧ cmpL l m < 0) := by
  rw [cmpL]
  by_cases e : a = b
  · subst e; simp
  · rw [if_neg e]
    unfold rk
    by_cases ha : a = 47
    · subst ha; rw [if_pos rfl, if_pos rfl, if_neg (fun h => e h.symm)]; simp
    · by_cases hb : b = 47
      · subst hb; simp [ha]
      · simp only [ha, hb, if_false, e, false_and, or_false]
        by_cases hl : a < b
        · rw [if_pos hl]; rw [UInt8.lt_iff_toNat_lt] at hl; simp; omega
        · rw [if_neg hl]; rw [UInt8.lt_iff_toNat_lt] at hl; simp; omega
theorem cmpL_trans {l m n : List UInt8} (h1 : cmpL l m < 0) (h2 : cmpL m n < 0) : cmpL l n < 0 := by
  induction l generalizing m n with
  | nil =>
    cases m with
    | nil => simp [cmpL] at h1
    | cons b m => cases n with
      | nil => simp [cmpL] at h2
      | cons c n => simp [cmpL]
  | cons a l ih =>
    cases m with
    | nil => simp [cmpL] at h1
    | cons b m => cases n with
      | nil => simp [cmpL] at h2
      | cons c n =>
        rw [cmpL_cons] at h1 h2 ⊢
        rcases h1 with h1 | ⟨rfl, h1⟩ <;> rcases h2 with h2 | ⟨rfl, h2⟩
        · left; omega
        · left; exact h1
        · left; exact h2
        · right; exact ⟨rfl, ih h1 h2⟩

end Go.Proofs.YteolonjmgojoeaaGreatDoor
/- Plain: a change that was accepted is refused again (HistoryOnce). -/
namespace Go.Proofs.YteolonjmgojoeaaGreatDoor
open Go.RowKit
set_option linter.unusedVariables false
set_option linter.unusedSimpArgs false

theorem everyE_cons {last : ByteArray → Option Rev} {b : ByteArray} {e : Edt} {es : List Edt} (h : everyE last b (e :: es) = 0) : editE last b e = 0 ∧ everyE last e.path es = 0 := by
  unfold everyE at h
  split at h
  · exact absurd h (by assumption)
  · rename_i hn; exact ⟨Decidable.not_not.1 hn, h⟩
theorem editE_zero {last : ByteArray → Option Rev} {b : ByteArray} {e : Edt} (h : editE last b e = 0) : validS e.path = true ∧ e.path.size ≤ 200 ∧ (b ≠ emptyS → cmpP b e.path < 0) ∧ oneE last e = 0 := by
  unfold editE at h
  split at h
  · omega
  · rename_i h1
    split at h
    · omega
    · rename_i h2
      rw [not_or] at h1
      refine ⟨by simpa using h1.1, by omega, fun hb => ?_, h⟩
      have : ¬ 0 ≤ cmpP b e.path := fun hh => h2 ⟨hb, hh⟩
      omega
theorem valid_ne {p : ByteArray} (h : validS p = true) : p ≠ emptyS := by
  intro e; subst e; revert h; decide
theorem cmpP_valid {a b : ByteArray} (ha : validS a = true) (hb : validS b = true) : cmpP a b = cmpL a.data.toList b.data.toList := by
  unfold cmpP; rw [ha, hb]; rfl
theorem cmpP_self (a : ByteArray) : cmpP a a = 0 := by
  unfold cmpP; split
  · exact cmpL_self _
  · rfl
theorem cmpP_trans {a b c : ByteArray} (ha : validS a = true) (hb : validS b = true) (hc : validS c = true) (h1 : cmpP a b < 0) (h2 : cmpP b c < 0) : cmpP a c < 0 := by
  rw [cmpP_valid ha hb] at h1; rw [cmpP_valid hb hc] at h2; rw [cmpP_valid ha hc]; exact cmpL_trans h1 h2
/-- Each edit comes behind the one ahead. -/
theorem everyE_after {last : ByteArray → Option Rev} {b : ByteArray} {es : List Edt} (hb : validS b = true) (h : everyE last b es = 0) : ∀ e ∈ es, validS e.path = true ∧ cmpP b e.path < 0 := by
  induction es generalizing b with
  | nil => intro e he; simp at he
  | cons x es ih =>
    obtain ⟨h1, h2⟩ := everyE_cons h
    obtain ⟨v, -, hc, -⟩ := editE_zero h1
    have hx := hc (valid_ne hb)
    intro e he
    rcases List.mem_cons.1 he with rfl | he
    · exact ⟨v, hx⟩
    · obtain ⟨v2, h3⟩ := ih v h2 e he
      exact ⟨v2, cmpP_trans hb v v2 hx h3⟩
theorem everyE_paths {last : ByteArray → Option Rev} {b : ByteArray} {es : List Edt} (h : everyE last b es = 0) : es.Pairwise (fun x y => cmpP x.path y.path < 0) ∧ ∀ e ∈ es, validS e.path = true ∧ e.path.size ≤ 200 ∧ oneE last e = 0 := by
  induction es generalizing b with
  | nil => simp
  | cons x es ih =>
    obtain ⟨h1, h2⟩ := everyE_cons h
    obtain ⟨v, hz, hc, ho⟩ := editE_zero h1
    obtain ⟨i1, i2⟩ := ih h2
    refine ⟨List.pairwise_cons.2 ⟨fun e he => (everyE_after v h2 e he).2, i1⟩, fun e he => ?_⟩
    rcases List.mem_cons.1 he with rfl | he
    · exact ⟨v, hz, ho⟩
    · exact i2 e he
theorem oneE_zero {last : ByteArray → Option Rev} {e : Edt} (h : oneE last e = 0) : actE last e = 0 ∧ e.base = (lastR last e.path).num ∧ fromE last e = true ∧ typeE last e = true := by
  unfold oneE at h
  split at h
  · exact absurd h (by assumption)
  · rename_i h1
    split at h
    · omega
    · rename_i h2
      split at h
      · omega
      · rename_i h3
        split at h
        · omega
        · rename_i h4
          exact ⟨Decidable.not_not.1 h1, Decidable.not_not.1 h2, by simpa using h3, by simpa using h4⟩
theorem firstE_ne {a : Int} {l : List Int} (h : a ≠ 0) : firstE (a :: l) = a := by unfold firstE; rw [if_pos h]
theorem firstE_skip {l : List Int} : firstE (0 :: l) = firstE l := by rw [firstE]; simp

end Go.Proofs.YteolonjmgojoeaaGreatDoor
/- slices.stableCmpFunc and slices.SortStableFunc at records. -/
namespace Go.Proofs.YteolonjmgojoeaaGreatDoor
open Go.RowKit Go.Lib
open Go.Sort hiding Below
set_option linter.unusedVariables false
set_option linter.unusedSimpArgs false
variable {P : Program} {α : Type} [Inhabited α]

/-- Pairs of blocks ahead of a; single blocks from a on. -/
structure Stb (lt : α → α → Bool) (d0 d : Array α) (n bs q : Nat) : Prop where
  perm : PermIn 0 n d0 d
  upto : BlocksTo lt d n (2 * bs) q
  fro : BlocksFrom lt d n bs (2 * q)
theorem Stb.step {lt : α → α → Bool} {d0 d d' : Array α} {n bs q a b : Nat} (h : Stb lt d0 d n bs q) (hn : n ≤ d0.size) (ha : a = q * (2 * bs)) (hb : b = a + 2 * bs) (hbn : b ≤ n) (hp : PermIn a b d d') (hs : SortedIn lt a b d') : Stb lt d0 d' n bs (q + 1) := by
  have e1 : (q + 1) * (2 * bs) = b := by rw [Nat.add_mul, Nat.one_mul, ← ha, hb]
  have e2 : (2 * q + 2) * bs = b := by
    rw [← e1, Nat.add_mul, Nat.add_mul, Nat.one_mul, Nat.mul_assoc 2 q bs, ← Nat.mul_assoc q 2 bs, Nat.mul_comm q 2, Nat.mul_assoc 2 q bs]
  refine ⟨permIn_trans _ _ _ _ _ h.perm (permIn_mono _ _ _ _ _ _ (Nat.zero_le _) hbn (by rw [h.perm.1]; exact hn) hp), h.upto.step ha hp ?_, ?_⟩
  · rw [← ha, e1, Nat.min_eq_left hbn]; exact hs
  · have := h.fro.step (lo := a) (hi := b) (d' := d') e2.symm hp
    rw [show 2 * (q + 1) = 2 * q + 2 by omega]; exact this
theorem Stb.last {lt : α → α → Bool} {d0 d d' : Array α} {n bs q a : Nat} (h : Stb lt d0 d n bs q) (hn : n ≤ d0.size) (ha : a = q * (2 * bs)) (hbn : n < a + 2 * bs) (han : a ≤ n) (hp : PermIn a n d d') (hs : SortedIn lt a n d') : PermIn 0 n d0 d' ∧ BlocksFrom lt d' n (2 * bs) 0 := by
  have e1 : (q + 1) * (2 * bs) = a + 2 * bs := by rw [Nat.add_mul, Nat.one_mul, ← ha]
  refine ⟨permIn_trans _ _ _ _ _ h.perm (permIn_mono _ _ _ _ _ _ (Nat.zero_le _) (Nat.le_refl _) (by rw [h.perm.1]; exact hn) hp), BlocksTo.all (h.upto.step (q := q) ha hp ?_) (q := q + 1) (by rw [e1]; omega)⟩
  rw [← ha, e1, Nat.min_eq_right (by omega)]; exact hs
theorem Stb.two {lt : α → α → Bool} {d0 d : Array α} {n bs q a : Nat} (h : Stb lt d0 d n bs q) (ha : a = q * (2 * bs)) : SortedIn lt a (min (a + bs) n) d ∧ SortedIn lt (a + bs) (min (a + 2 * bs) n) d := by
  have e0 : (2 * q) * bs = a := by rw [ha, Nat.mul_comm 2 q, Nat.mul_assoc]
  have k1 := h.fro (2 * q) (Nat.le_refl _)
  have k2 := h.fro (2 * q + 1) (by omega)
  rw [e0, Nat.add_mul (2 * q) 1, e0, Nat.one_mul] at k1
  rw [Nat.add_mul (2 * q) 1, e0, Nat.one_mul, Nat.add_mul (2 * q + 1) 1, Nat.add_mul (2 * q) 1, e0, Nat.one_mul] at k2
  exact ⟨k1, by rw [show a + 2 * bs = a + bs + bs by omega]; exact k2⟩

set_option maxHeartbeats 4000000 in
set_option maxRecDepth 100000 in
theorem stable_rcd {k : Nat} (L : SFacts P 46 77 80 k) (F0 : P.funcs[98]? = some Tryz.f98)
    (F2 : P.funcs[85]? = some Tryz.f85) (F3 : P.funcs[61]? = some Tryz.f61)
    (F4 : P.funcs[60]? = some Tryz.f60) (F : P.funcs[38]? = some Tryz.f38)
    (enc : α → List Value) (hk : ∀ x, (enc x).length = k) (h1 : ∀ x, ∀ v ∈ enc x, v.oneCell' = true) (cf : α → α → Int) (hO : SWO (ltOf cf)) (g : Nat) (hC : CmpB P g enc cf) (w0 W : World) (blk off C cap : Nat) (d : Array α) (h : SB enc k 77 w0 blk off C d W) (n : Nat) (hn : d.size = n) (hsz : n < 100000000) :
    Calls P 38 #[.slice (some ⟨blk, off, none⟩) n cap, .int .i64 n, .func (.func g) #[] #[]] W fun e w' => e = .returned (.tuple #[]) ∧ ∃ d', PermIn 0 n d d' ∧ SortedIn (ltOf cf) 0 n d' ∧ SB enc k 77 w0 blk off C d' w' := by
  have mixed := L.mixed; have t0 := L.t0; have a0 := L.a0; have z0 := L.z0; have ti := L.ti; have ai := L.ai; have zi := L.zi; have vi := L.vi; have tb := L.tb; have ab := L.ab; have zb := L.zb; have tu := L.tu; have au := L.au; have zu := L.zu; have tS := L.tS; have aS := L.aS; have zS := L.zS; have aE := L.aE; have zE := L.zE; have tF := L.tF; have aF := L.aF; have zF := L.zF
  have HIN := Lib.hid (fun (d' : Array α) (W' : World) (a b : Nat) (h : SB enc k 77 w0 blk off C d' W') (hd : d'.size = n) (h2 : a ≤ b) (h3 : b ≤ n) => insertion_rcd L F4 enc hk h1 cf g hC w0 W' blk off C cap a b d' h h2 (by omega) (by omega))
  have HSM := Lib.hid (fun (d' : Array α) (W' : World) (a m b : Nat) => symMerge_rcd L F0 F2 F3 enc hk h1 cf hO g hC w0 blk off C cap n (by omega) (b - a) a m b d' W' (Nat.le_refl _))
  have e49 : ∀ args w, (callFunc 60 args).run P w = .ok (.enter 60 args) w := enters_of F4 (by kernel_rfl) rfl
  have e50 : ∀ args w, (callFunc 61 args).run P w = .ok (.enter 61 args) w := enters_of F3 (by kernel_rfl) rfl
  have HS := Lib.hid h
  have HO := Lib.hid hO
  have HDS := Lib.hid hn
  have HIS := Lib.hid (fun (d' : Array α) (a b : Nat) (hd : d'.size = n) (h1 : a ≤ b) (h2 : b ≤ n) => insertionSort_holds (lt := ltOf cf) hO d' a b h1 (by omega))
  clear h hk h1 hC hO hn
  go_enter F, Tryz.ntmps38
  go_wp2_with fail
  go_loopw [7, 8] (fun s t wr => ∃ (q a : Nat) (dk : Array α), s = .int .i64 a ∧ t = .int .i64 (a + 20 : Nat) ∧ a ≤ n ∧ Hid (a = q * 20 ∧ PermIn 0 n d dk ∧ BlocksTo (ltOf cf) dk n 20 q ∧ SB enc k 77 w0 blk off C dk wr)) (fun s _ _ => n - (intOf s).toNat)
  case atStart => exact ⟨0, 0, d, rfl, by go_num, Nat.zero_le _, rfl, permIn_refl _ _ _, BlocksTo.zero _ _ _, HS.out⟩
  case round =>
    obtain ⟨q, a, dk, rfl, rfl, han, HI⟩ := hrel
    have hdk : dk.size = n := HI.out.2.1.1.trans HDS.out
    have HDK := Lib.hid hdk
    clear hdk
    by_cases hle : a + 20 ≤ n
    · have hlez : ((a : Int) + 20) ≤ (n : Int) := by omega
      have HW := Lib.hid (HIN.out dk wr a (a + 20) HI.out.2.2.2 HDK.out (by omega) hle)
      rw [HDK.out] at HW
      have HN := Lib.hid (HIS.out dk a (a + 20) HDK.out (by omega) hle)
      go_wp2_with fail
      refine HW.out.mono ?_
      rintro e w' ⟨rfl, hB⟩
      have HB := Lib.hid hB
      clear hB
      go_wp2_with fail
      go_roundw
      case rel =>
        have e1 : (q + 1) * 20 = a + 20 := by have := HI.out.1; omega
        refine ⟨q + 1, a + 20, _, by go_num, by go_num, hle, e1.symm, permIn_trans _ _ _ _ _ HI.out.2.1 (permIn_mono _ _ _ _ _ _ (Nat.zero_le _) hle (by rw [HDK.out]; exact Nat.le_refl _) HN.out.1), HI.out.2.2.1.step HI.out.1 HN.out.1 ?_, HB.out⟩
        rw [← HI.out.1, e1, Nat.min_eq_left hle]; exact HN.out.2
      case measure => simp [intOf]; omega
    · have hlez : ¬ ((a : Int) + 20) ≤ (n : Int) := by omega
      have HW := Lib.hid (HIN.out dk wr a n HI.out.2.2.2 HDK.out (by omega) (Nat.le_refl _))
      rw [HDK.out] at HW
      have HN := Lib.hid (HIS.out dk a n HDK.out (by omega) (Nat.le_refl _))
      go_wp2_with fail
      refine HW.out.mono ?_
      rintro e w' ⟨rfl, hB⟩
      have hF : PermIn 0 n d (insertionSort (ltOf cf) dk a n) ∧ BlocksFrom (ltOf cf) (insertionSort (ltOf cf) dk a n) n 20 0 := by
        have e1 : (q + 1) * 20 = a + 20 := by have := HI.out.1; omega
        refine ⟨permIn_trans _ _ _ _ _ HI.out.2.1 (permIn_mono _ _ _ _ _ _ (Nat.zero_le _) (Nat.le_refl _) (by rw [HDK.out]; exact Nat.le_refl _) HN.out.1), BlocksTo.all (q := q + 1) (HI.out.2.2.1.step HI.out.1 HN.out.1 ?_) (by omega)⟩
        rw [← HI.out.1, e1, Nat.min_eq_right (by omega)]; exact HN.out.2
      have HB := Lib.hid hB
      have HF := Lib.hid hF
      clear hB hF
      generalize insertionSort (ltOf cf) dk a n = d1 at HB HF
      go_wp2_with fail
      go_loopw [6, 7, 8, 9] (fun s t u v wr => ∃ (bs : Nat) (dk : Array α), s = .int .i64 bs ∧ 20 ≤ bs ∧ bs < 200000000 ∧ Hid (PermIn 0 n d dk ∧ BlocksFrom (ltOf cf) dk n bs 0 ∧ SB enc k 77 w0 blk off C dk wr)) (fun s _ _ _ _ => n - (intOf s).toNat)
      case atStart => exact ⟨20, d1, rfl, Nat.le_refl _, by omega, HF.out.1, HF.out.2, HB.out⟩
      case round =>
        obtain ⟨bs, d2, rfl, hbs, hbm, HJ⟩ := hrel
        by_cases hlt : bs < n
        · have hltz : (bs : Int) < (n : Int) := by omega
          go_wp2_with fail
          go_loopw [7, 8] (fun s t wr => ∃ (q a : Nat) (dk : Array α), s = .int .i64 a ∧ t = .int .i64 (a + 2 * bs : Nat) ∧ a ≤ n ∧ Hid (a = q * (2 * bs) ∧ Stb (ltOf cf) d dk n bs q ∧ SB enc k 77 w0 blk off C dk wr)) (fun s _ _ => n - (intOf s).toNat)
          case atStart => exact ⟨0, 0, d2, rfl, by go_num, Nat.zero_le _, by omega, ⟨HJ.out.1, BlocksTo.zero _ _ _, HJ.out.2.1⟩, HJ.out.2.2⟩
          case round =>
            obtain ⟨q, a, dj, rfl, rfl, han, HQ⟩ := hrel
            have HDJ := Lib.hid (HQ.out.2.1.perm.1.trans HDS.out)
            have HT := Lib.hid (HQ.out.2.1.two HQ.out.1)
            by_cases hle : a + 2 * bs ≤ n
            · have hlez : ((a : Int) + 2 * (bs : Int)) ≤ (n : Int) := by omega
              have HW := Lib.hid (HSM.out dj wr a (a + bs) (a + 2 * bs) HQ.out.2.2 (by omega) (by omega) HDJ.out hle (by have := HT.out.1; rwa [Nat.min_eq_left (by omega)] at this) (by have := HT.out.2; rwa [Nat.min_eq_left (by omega)] at this))
              go_wp2_with fail
              refine HW.out.mono ?_
              rintro e w' ⟨rfl, d3, k1, k2, k3⟩
              have HN := Lib.hid (HQ.out.2.1.step (by rw [HDS.out]; exact Nat.le_refl _) HQ.out.1 rfl hle k1 k2)
              have HB3 := Lib.hid k3
              clear k1 k2 k3
              go_wp2_with fail
              go_roundw
              case rel =>
                refine ⟨q + 1, a + 2 * bs, d3, rfl, by go_num, hle, ?_, HN.out, HB3.out⟩
                rw [Nat.add_mul, Nat.one_mul, ← HQ.out.1]
              case measure => simp [intOf]; omega
            · have hlez : ¬ ((a : Int) + 2 * (bs : Int)) ≤ (n : Int) := by omega
              by_cases hm : a + bs < n
              · have hmz : (a : Int) + (bs : Int) < (n : Int) := by omega
                have HW := Lib.hid (HSM.out dj wr a (a + bs) n HQ.out.2.2 (by omega) hm HDJ.out (Nat.le_refl _) (by have := HT.out.1; rwa [Nat.min_eq_left (by omega)] at this) (by have := HT.out.2; rwa [Nat.min_eq_right (by omega)] at this))
                go_wp2_with fail
                refine HW.out.mono ?_
                rintro e w' ⟨rfl, d3, k1, k2, k3⟩
                have HN := Lib.hid (HQ.out.2.1.last (by rw [HDS.out]; exact Nat.le_refl _) HQ.out.1 (by omega) han k1 k2)
                have HB3 := Lib.hid k3
                clear k1 k2 k3
                go_wp2_with fail
                go_roundw
                case rel => exact ⟨2 * bs, d3, by go_num, by omega, by omega, HN.out.1, HN.out.2, HB3.out⟩
                case measure => simp [intOf]; omega
              · have hmz : ¬ (a : Int) + (bs : Int) < (n : Int) := by omega
                have HN := Lib.hid (HQ.out.2.1.last (d' := dj) (by rw [HDS.out]; exact Nat.le_refl _) HQ.out.1 (by omega) han (permIn_refl _ _ _) (by have := HT.out.1; rwa [Nat.min_eq_right (by omega)] at this))
                go_wp2_with fail
                go_roundw
                case rel => exact ⟨2 * bs, dj, by go_num, by omega, by omega, HN.out.1, HN.out.2, HQ.out.2.2⟩
                case measure => simp [intOf]; omega
        · have hltz : ¬ (bs : Int) < (n : Int) := by omega
          have HZ := Lib.hid (HJ.out.2.1.whole (by omega))
          go_wp2_with fail
          go_end0
          exact ⟨rfl, d2, HJ.out.1, HZ.out, HJ.out.2.2⟩
end Go.Proofs.YteolonjmgojoeaaGreatDoor
/- slices.SortStableFunc at records: from an own row to a sorted own row. -/
namespace Go.Proofs.YteolonjmgojoeaaGreatDoor
open Go.RowKit Go.Lib
open Go.Sort hiding Below
set_option linter.unusedVariables false
set_option linter.unusedSimpArgs false
section
variable {α : Type} [Inhabited α]
theorem flatK_list (enc : α → List Value) (k : Nat) (hk : ∀ x, (enc x).length = k) (d : Array α) : (flatK enc k d).toList = d.toList.flatMap enc := by
  apply List.ext_getElem?
  intro t
  by_cases ht : t < d.size * k
  · have k0 : 0 < k := by rcases Nat.eq_zero_or_pos k with h | h; · subst h; simp at ht
                          · exact h
    have hq : t / k < d.size := by rw [Nat.div_lt_iff_lt_mul k0]; exact ht
    have hr : t % k < k := Nat.mod_lt _ k0
    have e1 := flat_get enc k hk d.toList (t / k) (t % k) (by simpa using hq) hr
    rw [show t / k * k + t % k = t by rw [Nat.mul_comm]; exact Nat.div_add_mod t k] at e1
    have e2 := get_flatK enc k d t ht
    rw [e1]
    have hs : t < (flatK enc k d).size := by rw [size_flatK]; exact ht
    rw [getElem!_pos (flatK enc k d) t hs, getElem!_pos d (t / k) hq, getElem!_pos (enc d[t / k]) (t % k) (by rw [hk]; exact hr)] at e2
    rw [Array.getElem?_toList, Array.getElem?_eq_getElem hs, e2]
    simp only [Array.getElem_toList]
    rw [List.getElem?_eq_getElem]
  · rw [List.getElem?_eq_none (by simp; omega), List.getElem?_eq_none (by rw [flat_len enc k hk]; simp; omega)]
theorem own_sb {w : World} {base : Nat} {e : TypeId} {k : Nat} {enc : α → List Value} (hk : ∀ x, (enc x).length = k) {v : Value} {d : Array α} (hd : 0 < d.size) (h : w.ownsRow base e k v d.size (d.toList.flatMap enc)) :
    ∃ g cap, v = .slice (some ⟨g, 0, none⟩) d.size cap ∧ base ≤ g ∧ d.size ≤ cap ∧ cap ≤ maxLen ∧ SB enc k e w g 0 (cap * k) d w := by
  obtain ⟨h1, ⟨-, h2⟩ | ⟨g, cap, cur, hv, hb, hh, h3, h4, h5, h6⟩⟩ := h
  · omega
  · refine ⟨g, cap, hv, hb, h3, h4, fun j hj => ⟨?_, ?_⟩, ⟨cur, hh, h5⟩, ⟨rfl, rfl, rfl, Nat.le_refl _, fun _ _ _ => rfl⟩⟩
    · rw [size_flatK] at hj
      rw [Nat.zero_add, cell_of_row w g j cur e (0, 0) hh]
      have e1 : cur[j]? = (flatK enc k d)[j]? := by
        rw [← Array.getElem?_toList, ← Array.getElem?_toList, flatK_list enc k hk, ← h6, List.getElem?_take, if_pos hj]
      rw [e1, getElem!_pos (flatK enc k d) j (by rw [size_flatK]; exact hj), Array.getElem?_eq_getElem (by rw [size_flatK]; exact hj)]
      rfl
    · simp [World.frozen?, hh]
theorem sb_own {w w' : World} {base g cap : Nat} {e : TypeId} {k : Nat} {enc : α → List Value} (hk : ∀ x, (enc x).length = k) {d : Array α} (hb : base ≤ g) (h3 : d.size ≤ cap) (h4 : cap ≤ maxLen) (h : SB enc k e w g 0 (cap * k) d w') :
    w'.ownsRow base e k (.slice (some ⟨g, 0, none⟩) d.size cap) d.size (d.toList.flatMap enc) := by
  obtain ⟨cur, hh, hc⟩ := h.own
  refine ⟨by rw [flat_len enc k hk]; simp, .inr ⟨g, cap, cur, rfl, hb, hh, h3, h4, hc, ?_⟩⟩
  have hle : d.size * k ≤ cap * k := Nat.mul_le_mul_right _ h3
  rw [← flatK_list enc k hk]
  apply List.ext_getElem?
  intro j
  by_cases hj : j < d.size * k
  · rw [List.getElem?_take, if_pos hj]
    have := (h.hold j (by rw [size_flatK]; exact hj)).1
    rw [Nat.zero_add, cell_of_row w' g j cur e (0, 0) hh] at this
    rw [Array.getElem?_toList, this, Array.getElem?_toList, Array.getElem?_eq_getElem (by rw [size_flatK]; exact hj), getElem!_pos (flatK enc k d) j (by rw [size_flatK]; exact hj)]
    rfl
  · rw [List.getElem?_eq_none (by rw [List.length_take]; omega), List.getElem?_eq_none (by simp; omega)]
end
section
variable {α : Type}
/-- A comparison that is total. -/
structure TotC (c : α → α → Int) : Prop where
  self : ∀ x, c x x = 0
  anti : ∀ x y, c y x = - c x y
  trans : ∀ x y z, c x y < 0 → c y z < 0 → c x z < 0
  same : ∀ x y, c x y = 0 → ∀ z, c x z = c y z
theorem TotC.same' {c : α → α → Int} (h : TotC c) {x y : α} (he : c x y = 0) (z : α) : c z x = c z y := by rw [h.anti x z, h.anti y z, h.same x y he]
theorem TotC.or {c1 c2 : α → α → Int} (h1 : TotC c1) (h2 : TotC c2) : TotC (fun x y => orI (c1 x y) (c2 x y)) where
  self x := by unfold orI; rw [h1.self, if_pos rfl, h2.self]
  anti x y := by unfold orI; rw [h1.anti x y, h2.anti x y]; split <;> split <;> omega
  trans x y z a b := by
    unfold orI at a b ⊢
    by_cases e1 : c1 x y = 0
    · rw [if_pos e1] at a
      rw [h1.same x y e1 z]
      by_cases e2 : c1 y z = 0
      · rw [if_pos e2] at b ⊢; exact h2.trans _ _ _ a b
      · rw [if_neg e2] at b ⊢; exact b
    · rw [if_neg e1] at a
      by_cases e2 : c1 y z = 0
      · rw [← h1.same' e2 x]; rw [if_neg e1]; exact a
      · rw [if_neg e2] at b
        have := h1.trans _ _ _ a b
        rw [if_neg (by omega)]; exact this
  same x y e z := by
    unfold orI at e ⊢
    by_cases e1 : c1 x y = 0
    · rw [if_pos e1] at e; rw [h1.same x y e1 z, h2.same x y e z]
    · rw [if_neg e1] at e; exact absurd e e1
theorem TotC.swo {c : α → α → Int} (h : TotC c) : SWO (ltOf c) where
  irrefl x := by unfold ltOf; rw [h.self]; rfl
  trans x y z a b := by unfold ltOf at *; simp only [decide_eq_true_eq] at *; exact h.trans _ _ _ a b
  ntrans x y z a b := by
    unfold ltOf at *
    simp only [decide_eq_false_iff_not, Int.not_lt] at *
    have a' := h.anti x y
    have b' := h.anti y z
    have c' := h.anti x z
    by_cases e1 : c x y = 0
    · rw [h.same x y e1 z]; exact b
    · by_cases e2 : c y z = 0
      · rw [← h.same' e2 x]; exact a
      · have := h.trans z y x (by omega) (by omega); omega
theorem totI {f : α → Int} : TotC (fun x y => cmpI (f x) (f y)) where
  self x := by unfold cmpI; simp
  anti x y := by unfold cmpI; split <;> split <;> omega
  trans x y z a b := by unfold cmpI at *; split at a <;> split at b <;> (try omega) <;> (split <;> omega)
  same x y e z := by
    have : f x = f y := by unfold cmpI at e; split at e <;> (try split at e) <;> omega
    rw [this]
theorem cmpP_anti (a b : ByteArray) : cmpP b a = - cmpP a b := by
  unfold cmpP
  by_cases h : (validS a && validS b) = true
  · rw [if_pos h, if_pos (by rw [Bool.and_comm]; exact h)]; exact cmpL_anti _ _
  · rw [if_neg h, if_neg (by rw [Bool.and_comm]; exact h)]; rfl
theorem cmpP_eq {a b : ByteArray} (ha : validS a = true) (hb : validS b = true) (h : cmpP a b = 0) : a = b := by
  rw [cmpP_valid ha hb] at h
  have := cmpL_eq h
  cases a with | mk x => cases b with | mk y => exact congrArg ByteArray.mk (Array.toList_inj.1 this)
theorem totP {f : α → ByteArray} (hf : ∀ x, validS (f x) = true) : TotC (fun x y => cmpP (f x) (f y)) where
  self x := cmpP_self _
  anti x y := cmpP_anti _ _
  trans x y z a b := cmpP_trans (hf _) (hf _) (hf _) a b
  same x y e z := by rw [cmpP_eq (hf x) (hf y) e]
end

/-- A record whose paths are paths, and not too long. -/
def Rcd.good (r : Rcd) : Prop := r.small ∧ validS r.frm = true ∧ validS r.to = true
abbrev OkRcd := { r : Rcd // r.good }
def somePath : ByteArray := ⟨#[47, 47, 97, 47, 98]⟩
theorem somePath_ok : validS somePath = true := by decide
instance : Inhabited OkRcd := ⟨⟨⟨somePath, 0, 0, somePath, 0, 0⟩, ⟨by unfold somePath; decide, by unfold somePath; decide⟩, somePath_ok, somePath_ok⟩⟩
def OkRcd.enc (r : OkRcd) : List Value := r.1.cells
def OkRcd.cmp (a b : OkRcd) : Int := cmpR a.1 b.1
theorem okRcd_tot : TotC OkRcd.cmp := TotC.or (totP (f := fun r : OkRcd => r.1.to) fun r => r.2.2.2) (TotC.or (totI (f := fun r : OkRcd => r.1.num)) (TotC.or (totP (f := fun r : OkRcd => r.1.frm) fun r => r.2.2.1) (totI (f := fun r : OkRcd => r.1.first))))

theorem rcdFacts : SFacts Tryz.prog 46 77 80 6 where
  mixed := by kernel_rfl
  t0 := Tryz.underlying0
  a0 := Tryz.isAgg0
  z0 := Tryz.sizeOf0
  ti := Tryz.underlying3
  ai := Tryz.isAgg3
  zi := Tryz.sizeOf3
  vi := Tryz.zeroValue3
  tb := Tryz.underlying4
  ab := Tryz.isAgg4
  zb := Tryz.sizeOf4
  tu := Tryz.underlying129
  au := Tryz.isAgg129
  zu := Tryz.sizeOf129
  tS := Tryz.underlying46
  aS := Tryz.isAgg46
  zS := Tryz.sizeOf46
  aE := Tryz.isAgg77
  zE := Tryz.sizeOf77
  tF := Tryz.underlying80
  aF := Tryz.isAgg80
  zF := Tryz.sizeOf80
theorem okRcd_cmpB : CmpB Tryz.prog 19 OkRcd.enc OkRcd.cmp :=
  ⟨enters_of Tryz.func19 (by kernel_rfl) rfl, fun x y W => compareRecords_any x.1 y.1 W x.2.1 y.2.1⟩
theorem okRcd_len (x : OkRcd) : x.enc.length = 6 := rfl
theorem okRcd_one (x : OkRcd) : ∀ v ∈ x.enc, v.oneCell' = true := by
  intro v hv
  simp only [OkRcd.enc, Rcd.cells, List.mem_cons, List.not_mem_nil, or_false] at hv
  rcases hv with rfl | rfl | rfl | rfl | rfl | rfl <;> rfl

set_option maxHeartbeats 1000000 in
theorem insertion_none (v cv : Value) (w : World) : Calls Tryz.prog 60 #[v, .int .i64 0, .int .i64 0, cv] w fun e w' => e = .returned (.tuple #[]) ∧ w = w' := by
  go_enter Tryz.func60, Tryz.ntmps60
  go_wp2
  refine wp_loop_rounds 1 ?_
  rw [rounds_succ]
  go_wp2
  go_end0
  exact ⟨rfl, rfl⟩
set_option maxHeartbeats 1000000 in
theorem stable_none (v cv : Value) (w : World) : Calls Tryz.prog 38 #[v, .int .i64 0, cv] w fun e w' => e = .returned (.tuple #[]) ∧ w = w' := by
  have H := Lib.hid (insertion_none v cv w)
  go_enter Tryz.func38, Tryz.ntmps38
  go_wp2
  refine wp_loop_rounds 1 ?_
  rw [rounds_succ]
  go_wp2_with fail
  refine H.out.mono ?_
  rintro e w' ⟨rfl, rfl⟩
  go_wp2
  refine wp_loop_rounds 1 ?_
  rw [rounds_succ]
  go_wp2
  go_end0
  exact ⟨rfl, rfl⟩

set_option maxHeartbeats 1000000 in
theorem sortStable_any (l : List OkRcd) (v : Value) (base : Nat) (w : World) (hown : w.ownsRow base 77 6 v l.length (l.flatMap OkRcd.enc)) (hl : l.length ≤ 10000000) :
    Calls Tryz.prog 18 #[v, .func (.func 19) #[] #[]] w
      fun e w' => e = .returned (.tuple #[]) ∧ ∃ l' : List OkRcd, l'.Perm l ∧ l'.Pairwise (fun a b => ¬ OkRcd.cmp b a < 0) ∧ w'.ownsRow base 77 6 v l.length (l'.flatMap OkRcd.enc) ∧ w.grownBy w' v.ownBlock := by
  by_cases h0 : l.length = 0
  · have hl0 : l = [] := List.eq_nil_of_length_eq_zero h0
    subst hl0
    have hv : ∃ A c, v = .slice A 0 c := by
      rcases hown.2 with ⟨rfl, -⟩ | ⟨g, cap, cur, rfl, -⟩
      · exact ⟨_, _, rfl⟩
      · exact ⟨_, _, rfl⟩
    obtain ⟨A, c, rfl⟩ := hv
    have HO := Lib.hid hown
    have H := Lib.hid (stable_none (.slice A 0 c) (.func (.func 19) #[] #[]) w)
    clear hown
    go_enter Tryz.func18, Tryz.ntmps18
    go_wp2_with fail
    refine H.out.mono ?_
    rintro e w' ⟨rfl, rfl⟩
    go_wp2
    go_end0
    exact ⟨rfl, HO.out, ⟨rfl, rfl, rfl, Nat.le_refl _, fun _ _ _ => rfl⟩⟩
  · have hd : l.toArray.size = l.length := by simp
    obtain ⟨g, cap, rfl, hb, h3, h4, hSB⟩ := own_sb (d := l.toArray) okRcd_len (by rw [hd]; omega) (by rw [hd]; exact hown)
    rw [hd] at h3 ⊢
    have H := Lib.hid (stable_rcd rcdFacts Tryz.func98 Tryz.func85 Tryz.func61 Tryz.func60 Tryz.func38
      OkRcd.enc okRcd_len okRcd_one OkRcd.cmp okRcd_tot.swo _ okRcd_cmpB w w g 0 (cap * 6) cap l.toArray hSB l.length hd (by omega))
    clear hown hSB
    go_enter Tryz.func18, Tryz.ntmps18
    go_wp2_with fail
    refine H.out.mono ?_
    rintro e w' ⟨rfl, d', k1, k2, k3⟩
    have HB : Hid (PermIn 0 l.length l.toArray d' ∧ SortedIn (ltOf OkRcd.cmp) 0 l.length d' ∧ SB OkRcd.enc 6 77 w g 0 (cap * 6) d' w') := Lib.hid ⟨k1, k2, k3⟩
    clear k1 k2 k3
    go_wp2
    go_end0
    obtain ⟨k1, k2, k3⟩ := HB.out
    have hs : d'.size = l.length := by rw [k1.1, hd]
    refine ⟨rfl, d'.toList, ?_, ?_, ?_, ?_⟩
    · have := k1.2.2
      rw [← hs, Array.extract_size, hs] at this
      rw [← hd, Array.extract_size] at this
      simpa using this
    · rw [List.pairwise_iff_getElem]
      intro i j hi hj hij
      have hi' : i < d'.size := by simpa using hi
      have hj' : j < d'.size := by simpa using hj
      have := k2 i j (Nat.zero_le _) hij (by omega)
      rw [getElem!_pos d' j hj', getElem!_pos d' i hi'] at this
      simpa [ltOf] using this
    · have := sb_own okRcd_len hb (by rw [hs]; exact h3) h4 k3
      rw [hs] at this
      exact this
    · exact k3.gr
end Go.Proofs.YteolonjmgojoeaaGreatDoor
/- Plain Lean: what the walk of Append leans on, and that Append keeps it. -/
namespace Go.Proofs.YteolonjmgojoeaaGreatDoor
open Go.RowKit
set_option linter.unusedVariables false
set_option linter.unusedSimpArgs false

structure DepW (d : Dep) : Prop where
  len : d.revs.length ≤ 512
  rlen : d.recs.length ≤ 512
  num : ∀ r ∈ d.revs, 0 < r.num ∧ r.num ≤ d.revs.length
  path : ∀ r ∈ d.revs, validS r.path = true
  rec_ : ∀ r ∈ d.recs, r.good
structure ChgW (c : Chg) : Prop where
  len : c.edits.length ≤ 1000
  rlen : c.recs.length ≤ 1000
  path : ∀ x ∈ c.edits, x.path.size ≤ 1000
  rec_ : ∀ r ∈ c.recs, r.small ∧ r.last ≤ 9223372036854775807

theorem lastM_mem {f : ByteArray → Option Rev} {revs : List Rev} {x : Rev} (h : ∀ p r, f p = some r → r ∈ revs ∧ r.path = p) : ∀ p r, lastM f x p = some r → r ∈ revs ++ [x] ∧ r.path = p := by
  intro p r hr
  have hu : ∀ p r, upd f x.path x p = some r → r ∈ revs ++ [x] ∧ r.path = p := by
    intro p r hr
    unfold upd at hr
    by_cases e : p = x.path
    · rw [if_pos (by simpa using e)] at hr
      injection hr with hr
      subst hr
      exact ⟨by simp, e.symm⟩
    · rw [if_neg (by simpa using e)] at hr
      obtain ⟨h1, h2⟩ := h p r hr
      exact ⟨by simp [h1], h2⟩
  unfold lastM at hr
  cases hb : f x.path with
  | none => rw [hb] at hr; exact hu p r hr
  | some b =>
    rw [hb] at hr
    simp only at hr
    by_cases hlt : b.num < x.num
    · rw [if_pos hlt] at hr; exact hu p r hr
    · rw [if_neg hlt] at hr
      obtain ⟨h1, h2⟩ := h p r hr
      exact ⟨by simp [h1], h2⟩
theorem lastOf_mem (revs : List Rev) : ∀ p r, lastOf revs p = some r → r ∈ revs ∧ r.path = p := by
  suffices H : ∀ (l done : List Rev) (f : ByteArray → Option Rev), (∀ p r, f p = some r → r ∈ done ∧ r.path = p) → ∀ p r, l.foldl lastM f p = some r → r ∈ done ++ l ∧ r.path = p by
    intro p r hr
    have := H revs [] (fun _ => none) (fun p r h => by cases h) p r hr
    simpa using this
  intro l
  induction l with
  | nil => intro done f h p r hr; simpa using h p r hr
  | cons x l ih =>
    intro done f h p r hr
    have := ih (done ++ [x]) (lastM f x) (lastM_mem h) p r hr
    simpa using this
theorem DepW.lastNum {d : Dep} (h : DepW d) (p : ByteArray) : 0 ≤ (lastR (lastOf d.revs) p).num ∧ (lastR (lastOf d.revs) p).num ≤ d.revs.length := by
  unfold lastR
  cases hl : lastOf d.revs p with
  | none => simp [zeroRev]
  | some r =>
    have := h.num r (lastOf_mem _ _ _ hl).1
    simp; omega
theorem editsOf_mem (es : List Edt) : ∀ p e, editsOf es p = some e → e ∈ es ∧ e.path = p := by
  suffices H : ∀ (l done : List Edt) (f : ByteArray → Option Edt), (∀ p r, f p = some r → r ∈ done ∧ r.path = p) → ∀ p r, l.foldl (fun f e => upd f e.path e) f p = some r → r ∈ done ++ l ∧ r.path = p by
    intro p r hr
    have := H es [] (fun _ => none) (fun p r h => by cases h) p r hr
    simpa using this
  intro l
  induction l with
  | nil => intro done f h p r hr; simpa using h p r hr
  | cons x l ih =>
    intro done f h p r hr
    have := ih (done ++ [x]) (upd f x.path x) (fun p r hr => by
      unfold upd at hr
      by_cases e : p = x.path
      · rw [if_pos (by simpa using e)] at hr
        injection hr with hr
        subst hr
        exact ⟨by simp, e.symm⟩
      · rw [if_neg (by simpa using e)] at hr
        obtain ⟨h1, h2⟩ := h p r hr
        exact ⟨by simp [h1], h2⟩) p r hr
    simpa using this
theorem greatest_mem {revs : List Rev} {q : ByteArray} {p : Rev → Bool} {v : Rev} (h : greatest revs q p = some v) : v ∈ revs ∧ v.path = q ∧ p v = true := by
  suffices H : ∀ (l : List Rev) (o : Option Rev) (S : Rev → Prop), (∀ x, o = some x → S x ∧ x.path = q ∧ p x = true) → (∀ x ∈ l, S x) → ∀ v, l.foldl (fun o r => if r.path = q ∧ p r = true then (match o with
    | none => some r
    | some b => if b.num < r.num then some r else some b) else o) o = some v → S v ∧ v.path = q ∧ p v = true by
    exact H revs none (fun x => x ∈ revs) (fun x hx => by cases hx) (fun x hx => hx) v h
  intro l
  induction l with
  | nil => intro o S ho hl v hv; exact ho v hv
  | cons x l ih =>
    intro o S ho hl v hv
    refine ih _ S ?_ (fun y hy => hl y (List.mem_cons_of_mem _ hy)) v hv
    intro y hy
    simp only at hy
    split at hy
    · rename_i hx
      split at hy
      · injection hy with hy; subst hy; exact ⟨hl _ (List.mem_cons_self ..), hx⟩
      · split at hy
        · injection hy with hy; subst hy; exact ⟨hl _ (List.mem_cons_self ..), hx⟩
        · injection hy with hy; subst hy; exact ho _ rfl
    · exact ho y hy
theorem recsF_all {revs : List Rev} {c : Chg} {ed : ByteArray → Option Edt} : ∀ (rs : List Rcd) (b : Option Rcd), recsF revs c ed b rs = true → ∀ r ∈ rs, recOk revs c ed r = true
  | [], b, h, r, hr => by cases hr
  | x :: rs, b, h, r, hr => by
    unfold recsF at h
    simp only [Bool.and_eq_true] at h
    rcases List.mem_cons.1 hr with rfl | hr
    · exact h.1.2
    · exact recsF_all rs _ h.2 r hr
theorem recsE_zero {revs : List Rev} {c : Chg} (h : recsE revs c = 0) : recsF revs c (editsOf c.edits) none c.recs = true := by
  unfold recsE at h; split at h
  · assumption
  · cases h
/-- A record that is accepted: its target is an edit, its source a revision. -/
theorem isRec_parts {revs : List Rev} {n : Int} {ed : ByteArray → Option Edt} {r : Rcd} (h : isRec revs n ed r = true) : (∃ e, ed r.to = some e ∧ e.act ≠ 5 ∧ r.num = e.base + 1) ∧ ∃ v, greatest revs r.frm (fun v => decide (v.num = r.last)) = some v := by
  unfold isRec at h
  cases he : ed r.to with
  | none => rw [he] at h; cases h
  | some e =>
    rw [he] at h
    simp only at h
    split at h
    · cases h
    · rename_i hn
      refine ⟨⟨e, rfl, fun h5 => hn (.inl h5), ?_⟩, ?_⟩
      · exact Classical.byContradiction fun hc => hn (.inr (.inl hc))
      · unfold sourceR at h
        cases hg : greatest revs r.frm (fun v => decide (v.num = r.last)) with
        | none => rw [hg] at h; cases h
        | some v => exact ⟨v, rfl⟩
theorem appE_goods {d : Dep} {c : Chg} (hd : DepW d) (hc : ChgW c) (h2 : everyE (lastOf d.revs) emptyS c.edits = 0) (h4 : recsE d.revs c = 0) : ∀ r ∈ c.recs, r.good := by
  intro r hr
  have h1 := recsF_all _ _ (recsE_zero h4) r hr
  unfold recOk at h1
  rw [Bool.and_eq_true] at h1
  obtain ⟨⟨e, he, -, -⟩, v, hv⟩ := isRec_parts h1.1
  obtain ⟨g1, g2, -⟩ := greatest_mem hv
  obtain ⟨k1, k2⟩ := editsOf_mem _ _ _ he
  refine ⟨(hc.rec_ r hr).1, ?_, ?_⟩
  · rw [← g2]; exact hd.path v g1
  · rw [← k2]; exact ((everyE_paths h2).2 e k1).1
theorem appE_bases {d : Dep} {c : Chg} (hd : DepW d) (h2 : everyE (lastOf d.revs) emptyS c.edits = 0) : ∀ p e, editsOf c.edits p = some e → 0 ≤ e.base ∧ e.base ≤ 1000000 := by
  intro p e he
  obtain ⟨k1, k2⟩ := editsOf_mem _ _ _ he
  have := (oneE_zero ((everyE_paths h2).2 e k1).2.2).2.1
  have h3 := hd.lastNum e.path
  have := hd.len
  omega
/-- Records that are good, as elements of the sort. -/
theorem goods_list {l : List Rcd} (h : ∀ r ∈ l, r.good) : ∃ l' : List OkRcd, l'.map (·.1) = l ∧ l'.length = l.length ∧ l'.flatMap OkRcd.enc = l.flatMap Rcd.cells := by
  induction l with
  | nil => exact ⟨[], rfl, rfl, rfl⟩
  | cons r l ih =>
    obtain ⟨l', h1, h2, h3⟩ := ih fun x hx => h x (List.mem_cons_of_mem _ hx)
    exact ⟨⟨r, h r (List.mem_cons_self ..)⟩ :: l', by simp [h1], by simp [h2], by simp [h3, OkRcd.enc]⟩
theorem enc_list (l : List OkRcd) : l.flatMap OkRcd.enc = (l.map (·.1)).flatMap Rcd.cells := by
  induction l with
  | nil => rfl
  | cons r l ih => simp [ih, OkRcd.enc]
end Go.Proofs.YteolonjmgojoeaaGreatDoor
/- steps. -/
namespace Go.Proofs.YteolonjmgojoeaaGreatDoor
open Go.RowKit
set_option linter.unusedVariables false
set_option linter.unusedSimpArgs false

def stepV (n g : Nat) : Value := .func (.func n) #[.pointer (some ⟨g, 0, none⟩)] #[]
set_option maxHeartbeats 1000000 in
theorem steps_any (g : Nat) (w : World) :
    Calls Tryz.prog 14 #[.pointer (some ⟨g, 0, none⟩)] w
      fun e w' => e = .returned (.slice (some ⟨w.heap.size, 0, none⟩) 5 5) ∧ Below w.heap.size w w' ∧ Blk w' w.heap.size 71 [stepV 32 g, stepV 33 g, stepV 34 g, stepV 35 g, stepV 36 g] := by
  go_enter Tryz.func14, Tryz.ntmps14
  go_wp2_with fail
  go_ret
  exact ⟨rfl, (Below.refl _ _).alloc (Nat.le_refl _) _, blk_new w _ _⟩
end Go.Proofs.YteolonjmgojoeaaGreatDoor
/- slices.Clone at revisions; slices.Concat at records. -/
namespace Go.Proofs.YteolonjmgojoeaaGreatDoor
open Go.RowKit
set_option linter.unusedVariables false
set_option linter.unusedSimpArgs false

theorem revElem : ElemOk Tryz.prog 45 74 12 96 := elemOk_of Tryz.underlying45 (z := zeroRev.val) (by kernel_rfl) rfl (by decide)
theorem rcdElem : ElemOk Tryz.prog 46 77 6 64 := elemOk_of Tryz.underlying46 (z := .agg #[.string ⟨#[]⟩, .int .i64 0, .int .i64 0, .string ⟨#[]⟩, .int .i64 0, .int .i64 0]) (by kernel_rfl) rfl (by decide)
set_option maxHeartbeats 1000000 in
theorem clone_any (revs : List Rev) (v : Value) (w : World) (hR : Revs w v revs) (hl : revs.length ≤ 1000000) :
    Calls Tryz.prog 15 #[v] w
      fun e w' => ∃ v', e = .returned v' ∧ Below w.heap.size w w' ∧ w'.ownsRow w.heap.size 74 12 v' revs.length (revs.flatMap Rev.cells) := by
  obtain ⟨A, c, rfl, hc, hm, hlen, h0, hx⟩ := id hR
  cases A with
  | none =>
    have hc0 := h0 rfl
    have hn0 : revs = [] := List.eq_nil_of_length_eq_zero (by omega)
    subst hn0 hc0
    go_enter Tryz.func15, Tryz.ntmps15
    have heq : ∀ W, (binOp .eql 45 (.slice none 0 0) (.slice none 0 0)).run Tryz.prog W = .ok (.bool true) W := fun W => by kernel_rfl
    clear hx hlen h0 hR
    go_wp2_with fail
    go_ret
    exact ⟨_, rfl, Below.refl _ _, World.ownsRow_nil _ _ _ _⟩
  | some ad =>
    have heq : ∀ W, (binOp .eql 45 (.slice (some ad) revs.length c) (.slice none 0 0)).run Tryz.prog W = .ok (.bool false) W := fun W => by kernel_rfl
    clear hx hlen h0
    have HR := Lib.hid hR
    clear hR
    have hb0 : Below w.heap.size w (w.alloc (.cells #[] 74)) := (Below.refl _ _).alloc (Nat.le_refl _) _
    have hown : (w.alloc (.cells #[] 74)).ownsRow w.heap.size 74 12 (.slice (some ⟨w.heap.size, 0, none⟩) 0 0) 0 [] := ⟨rfl, .inr ⟨w.heap.size, 0, #[], rfl, Nat.le_refl _, heap_alloc_new w _, Nat.le_refl _, by unfold maxLen; omega, rfl, rfl⟩⟩
    have h1 : ∀ u ∈ revs.flatMap Rev.cells, u.oneCell' = true := by
      intro u hu
      obtain ⟨r, -, hr⟩ := List.mem_flatMap.1 hu
      simp only [Rev.cells, List.mem_cons, List.not_mem_nil, or_false] at hr
      rcases hr with rfl | rfl | rfl | rfl | rfl | rfl | rfl | rfl | rfl | rfl | rfl | rfl <;> rfl
    have H1 := Lib.hid h1
    clear h1
    go_enter Tryz.func15, Tryz.ntmps15
    go_wp2_with (at_builtin; refine wpList_push rfl rfl revElem hown rfl (HR.out.below hb0) rfl hb0 hb0.size H1.out (by omega) (by unfold maxLen; omega) ?_; intro A' c' w1 hown1 hbl1)
    go_ret
    exact ⟨_, rfl, hbl1, by simpa using hown1⟩
end Go.Proofs.YteolonjmgojoeaaGreatDoor
/- slices.Grow and slices.Concat at records. -/
namespace Go.Proofs.YteolonjmgojoeaaGreatDoor
open Go.RowKit
set_option linter.unusedVariables false
set_option linter.unusedSimpArgs false

set_option maxRecDepth 100000 in
set_option maxHeartbeats 1000000 in
theorem grow_any (n : Nat) (w : World) (hn : n ≤ 1000000) :
    Calls Tryz.prog 37 #[.slice none 0 0, .int .i64 n] w
      fun e w' => ∃ v', e = .returned v' ∧ Below w.heap.size w w' ∧ w'.ownsRow w.heap.size 77 6 v' 0 [] := by
  by_cases h0 : n = 0
  · subst h0
    go_enter Tryz.func37, Tryz.ntmps37
    go_wp2
    go_ret
    exact ⟨_, rfl, Below.refl _ _, World.ownsRow_nil _ _ _ _⟩
  · obtain ⟨i, z, ht, hi, hz, hsize, hby, hzs, hsz⟩ := rcdElem
    have hr := Lib.run_append_nil_zeros (P := Tryz.prog) w 46 3 46 77 i z .i64 .i64 Tryz.underlying46 Tryz.underlying3 hi hz n (by omega) (by omega) (by omega) (by rw [hby]; omega)
    have hb1 : Below w.heap.size w (w.drew.alloc (.cells (Builtin.zeroCells z.cells n ++ Builtin.zeroCells z.cells (grownCap w n 0 77 - n)) 77)) := (Below.refl _ _).drew.alloc (by simp) _
    have hge := grownCap_ge w n 0 77
    have hle := grownCap_le_maxLen w n 0 77 (by unfold maxLen; omega)
    have hown : (w.drew.alloc (.cells (Builtin.zeroCells z.cells n ++ Builtin.zeroCells z.cells (grownCap w n 0 77 - n)) 77)).ownsRow w.heap.size 77 6 (.slice (some ⟨w.heap.size, 0, none⟩) 0 (grownCap w n 0 77)) 0 [] :=
      ⟨rfl, .inr ⟨w.heap.size, _, _, rfl, Nat.le_refl _, heap_alloc_new w.drew _, Nat.zero_le _, hle, by rw [Array.size_append, size_zeroCells, size_zeroCells, hzs, ← Nat.add_mul]; congr 1; omega, by simp⟩⟩
    clear hz hsize hby hzs hsz ht hi
    generalize w.drew.alloc (.cells (Builtin.zeroCells z.cells n ++ Builtin.zeroCells z.cells (grownCap w n 0 77 - n)) 77) = w1 at hr hb1 hown
    generalize grownCap w n 0 77 = cp at hr hown hge hle
    have HO := Lib.hid hown
    have HB := Lib.hid hb1
    have hnz : (0 : Int) < (n : Int) := by omega
    unfold maxLen at hle
    clear hown hb1
    go_enter Tryz.func37, Tryz.ntmps37
    go_wp2_with (at_builtin; refine Lib.wpList_append_run _ rfl _ _ _ _ rfl _ _ rfl rfl _ _ hr ?_)
    go_ret
    exact ⟨_, rfl, HB.out, HO.out⟩

theorem rcd_one (l : List Rcd) : ∀ u ∈ l.flatMap Rcd.cells, u.oneCell' = true := by
  intro u hu
  obtain ⟨r, -, hr⟩ := List.mem_flatMap.1 hu
  simp only [Rcd.cells, List.mem_cons, List.not_mem_nil, or_false] at hr
  rcases hr with rfl | rfl | rfl | rfl | rfl | rfl <;> rfl
set_option maxHeartbeats 2000000 in
theorem concat_any (l1 l2 : List Rcd) (v1 v2 : Value) (g : Nat) (w : World) (hB : Blk w g 46 [v1, v2]) (h1 : Rcds w v1 l1) (h2 : Rcds w v2 l2) (hl1 : l1.length ≤ 100000) (hl2 : l2.length ≤ 100000) :
    Calls Tryz.prog 16 #[.slice (some ⟨g, 0, none⟩) 2 2] w
      fun e w' => ∃ v', e = .returned v' ∧ Below w.heap.size w w' ∧ w'.ownsRow w.heap.size 77 6 v' (l1.length + l2.length) ((l1 ++ l2).flatMap Rcd.cells) := by
  obtain ⟨A1, c1, rfl, -, -, -⟩ := id h1
  obtain ⟨A2, c2, rfl, -, -, -⟩ := id h2
  have b0 := hB.cell 0
  have b1 := hB.cell 1
  have b0' : w.cell? ⟨g, 0, none⟩ = some (.slice A1 l1.length c1) := b0
  have b1' : w.cell? ⟨g, 1, none⟩ = some (.slice A2 l2.length c2) := b1
  clear b0 b1
  have HB := Lib.hid hB
  have H1 := Lib.hid h1
  have H2 := Lib.hid h2
  have HG := Lib.hid (grow_any (l1.length + l2.length) w (by omega))
  rw [Int.natCast_add] at HG
  clear hB h1 h2
  go_enter Tryz.func16, Tryz.ntmps16
  go_wp2_with fail
  refine wp_loop_rounds 3 ?_
  rw [rounds_succ]
  go_wp2_with fail
  rw [rounds_succ]
  go_wp2_with fail
  rw [rounds_succ]
  go_wp2_with fail
  refine HG.out.mono ?_
  rintro e w1 ⟨v', rfl, hb1, hown1⟩
  have q0 := cell_below b0' hb1 (cell_lt b0')
  have q1 := cell_below b1' hb1 (cell_lt b1')
  have hr1 : Row w1 6 (.slice A1 l1.length c1) l1.length (l1.flatMap Rcd.cells) := Row.below H1.out hb1
  have B1 := Lib.hid b1'
  have HOW := Lib.hid hown1
  have HBL := Lib.hid hb1
  have HR1 := Lib.hid hr1
  clear hb1 hown1 b0' b1' hr1
  go_wp2_with fail
  refine wp_loop_rounds 3 ?_
  rw [rounds_succ]
  go_wp2_with (at_builtin; refine wpList_push rfl rfl rcdElem HOW.out rfl HR1.out rfl HBL.out HBL.out.size (rcd_one _) (by omega) (by unfold maxLen; omega) ?_; intro A' c' w2 hown2 hbl2)
  have q2 := cell_below B1.out hbl2 (cell_lt B1.out)
  have hr2 : Row w2 6 (.slice A2 l2.length c2) l2.length (l2.flatMap Rcd.cells) := Row.below H2.out hbl2
  rw [Nat.zero_add, List.nil_append] at hown2
  have HOW2 := Lib.hid hown2
  have HBL2 := Lib.hid hbl2
  have HR2 := Lib.hid hr2
  clear hown2 hbl2 hr2 q0 q1
  rw [rounds_succ]
  go_wp2_with (at_builtin; refine wpList_push rfl rfl rcdElem HOW2.out rfl HR2.out rfl HBL2.out HBL2.out.size (rcd_one _) (by omega) (by unfold maxLen; omega) ?_; intro A3 c3 w3 hown3 hbl3)
  have HOW3 := Lib.hid hown3
  have HBL3 := Lib.hid hbl3
  clear hown3 hbl3
  rw [rounds_succ]
  go_wp2_with fail
  go_ret
  refine ⟨_, rfl, HBL3.out, ?_⟩
  have := HOW3.out
  rw [List.flatMap_append]
  simpa using this
end Go.Proofs.YteolonjmgojoeaaGreatDoor
/- Words for history.Append. -/
namespace Go.Proofs.YteolonjmgojoeaaGreatDoor
open Go.RowKit
set_option linter.unusedVariables false
set_option linter.unusedSimpArgs false

/-- The state of Append while its steps run. -/
structure ApSt (w0 w : World) (d : Dep) (c : Chg) (dv dr ev rv : Value) (g b gd gc gr gs : Nat) (ed : Option (ByteArray → Option Edt)) : Prop where
  bel : Below w0.heap.size w0 w
  le : w0.heap.size ≤ b
  ler : w0.heap.size ≤ gr
  chk : Chk w g dv dr c.num c.client c.text ev rv b (b + 1) (b + 1 + 1)
  last : LastMap w b (lastOf d.revs)
  edits : ∀ f, ed = some f → EditMap w (b + 1) f
  lines : LineMap w (b + 1 + 1) (linesOf d.revs)
  boxD : Blk w gd 48 [dv, dr]
  boxC : Blk w gc 57 [.int .i64 c.num, .string c.client, .string c.text, ev, rv]
  boxR : Blk w gr 48 [.slice none 0 0, .slice none 0 0]
  stp : Blk w gs 71 [stepV 32 g, stepV 33 g, stepV 34 g, stepV 35 g, stepV 36 g]
  revs : Revs w dv d.revs
  recs : Rcds w dr d.recs
  eds : Edts w ev c.edits
  rcs : Rcds w rv c.recs
section
variable {w0 w w' : World} {d : Dep} {c : Chg} {dv dr ev rv : Value} {g b gd gc gr gs : Nat} {ed : Option (ByteArray → Option Edt)}
theorem ApSt.below (h : ApSt w0 w d c dv dr ev rv g b gd gc gr gs ed) (hb : Below w.heap.size w w') : ApSt w0 w' d c dv dr ev rv g b gd gc gr gs ed :=
  ⟨below_next h.bel hb, h.le, h.ler, Blk.below h.chk hb (Blk.lt h.chk), FMap.below h.last hb, fun f e => FMap.below (h.edits f e) hb, FMap.below h.lines hb, h.boxD.below hb h.boxD.lt, h.boxC.below hb h.boxC.lt, h.boxR.below hb h.boxR.lt, h.stp.below hb h.stp.lt, h.revs.below hb, h.recs.below hb, h.eds.below hb, h.rcs.below hb⟩
theorem ApSt.every {f : ByteArray → Option Edt} {es : List Edt} {r : Int} (h : ApSt w0 w d c dv dr ev rv g b gd gc gr gs (some f)) (he : EvRel w (b + 1) es r w') (hr : r = 0) : ApSt w0 w' d c dv dr ev rv g b gd gc gr gs (some (editsOf es)) := by
  have hg := he.1
  have hm := FMap.obj (h.edits f rfl)
  have hb : Below w0.heap.size w0 w' := h.bel.grown hg h.bel.size (fun j e => by injection e with e; have := h.le; omega)
  exact ⟨hb, h.le, h.ler, Blk.turn h.chk hm hg, FMap.grown h.last hg (by intro e; injection e with e; omega), fun f' e => by injection e with e; subst e; exact he.2 hr, FMap.grown h.lines hg (by intro e; injection e with e; omega), h.boxD.turn hm hg, h.boxC.turn hm hg, h.boxR.turn hm hg, h.stp.turn hm hg, Row.turn h.revs (by decide) hm hg, Row.turn h.recs (by decide) hm hg, Row.turn h.eds (by decide) hm hg, Row.turn h.rcs (by decide) hm hg⟩
theorem ApSt.every' {f : ByteArray → Option Edt} {es : List Edt} {r : Int} (h : ApSt w0 w d c dv dr ev rv g b gd gc gr gs (some f)) (he : EvRel w (b + 1) es r w') : Below w0.heap.size w0 w' ∧ Blk w' gr 48 [.slice none 0 0, .slice none 0 0] := by
  have hg := he.1
  have hm := FMap.obj (h.edits f rfl)
  exact ⟨h.bel.grown hg h.bel.size (fun j e => by injection e with e; have := h.le; omega), h.boxR.turn hm hg⟩
end
theorem box5 {w : World} {g : Nat} {e : TypeId} {a b c d x : Value} (h : Blk w g e [a, b, c, d, x]) :
    w.cell? ⟨g, 0, none⟩ = some a ∧ w.cell? ⟨g, 1, none⟩ = some b ∧ w.cell? ⟨g, 2, none⟩ = some c ∧ w.cell? ⟨g, 3, none⟩ = some d ∧ w.cell? ⟨g, 4, none⟩ = some x :=
  ⟨h.cell 0, h.cell 1, h.cell 2, h.cell 3, h.cell 4⟩

/-- v's row, if it has a block, lies from B on. -/
def Fresh (B : Nat) (v : Value) : Prop := ∀ x, v.ownBlock = some x → B ≤ x
/-- What Append leaves. -/
def ApPost (w : World) (d : Dep) (c : Chg) (e : Ending) (w' : World) : Prop :=
  Below w.heap.size w w' ∧ (appE d c ≠ 0 ∧ e = .returned (.tuple #[.agg #[.slice none 0 0, .slice none 0 0], .int .i64 (appE d c)]) ∨
    appE d c = 0 ∧ ∃ (dv' dr' : Value) (l : List Rcd), e = .returned (.tuple #[.agg #[dv', dr'], .int .i64 0]) ∧ Revs w' dv' (newRevs d c) ∧ Rcds w' dr' l ∧ l.Perm (d.recs ++ c.recs) ∧ l.Pairwise (fun a b => 0 ≤ cmpR b a) ∧ Fresh w.heap.size dv' ∧ Fresh w.heap.size dr')

theorem clone_own (revs : List Rev) (v : Value) (V X : World) (hX : Below V.heap.size V X) (hR : Revs X v revs) (hl : revs.length ≤ 1000000) :
    Calls Tryz.prog 15 #[v] X
      fun e w' => ∃ A' c', e = .returned (.slice A' revs.length c') ∧ Below V.heap.size V w' ∧ w'.ownsRow X.heap.size 74 12 (.slice A' revs.length c') revs.length (revs.flatMap Rev.cells) ∧ Below X.heap.size X w' :=
  (clone_any revs v X hR hl).mono fun e w' ⟨v', h1, h2, h3⟩ => by
    obtain ⟨A', c', rfl⟩ := own_slice h3
    exact ⟨A', c', h1, below_next hX h2, h3, h2⟩
theorem concat_own (l1 l2 : List Rcd) (v1 v2 : Value) (g : Nat) (V w : World) (hX : Below V.heap.size V w) (hB : Blk w g 46 [v1, v2]) (h1 : Rcds w v1 l1) (h2 : Rcds w v2 l2) (hl1 : l1.length ≤ 100000) (hl2 : l2.length ≤ 100000) :
    Calls Tryz.prog 16 #[.slice (some ⟨g, 0, none⟩) 2 2] w
      fun e w' => ∃ A' c', e = .returned (.slice A' (l1.length + l2.length) c') ∧ Below V.heap.size V w' ∧ w'.ownsRow w.heap.size 77 6 (.slice A' (l1.length + l2.length) c') (l1.length + l2.length) ((l1 ++ l2).flatMap Rcd.cells) ∧ Below w.heap.size w w' :=
  (concat_any l1 l2 v1 v2 g w hB h1 h2 hl1 hl2).mono fun e w' ⟨v', k1, k2, k3⟩ => by
    obtain ⟨A', c', rfl⟩ := own_slice k3
    exact ⟨A', c', k1, below_next hX k2, k3, k2⟩
/-- Append's result while it is made: in block g10, of two rows of its own. -/
structure ApR (V wx : World) (g10 : Nat) (v1 v2 : Value) (n m : Nat) (xs ys : List Value) : Prop where
  bel : Below V.heap.size V wx
  le : V.heap.size ≤ g10
  box : Blk wx g10 48 [v1, v2]
  one : wx.ownsRow V.heap.size 74 12 v1 n xs
  two : wx.ownsRow V.heap.size 77 6 v2 m ys
  ne1 : v1.ownBlock ≠ some g10
  ne2 : v2.ownBlock ≠ some g10
  ne12 : ∀ x, v1.ownBlock = some x → v2.ownBlock ≠ some x

/-- 'append(s, x...)' as one step of a region that draws its order. -/
theorem step_app {P : Program} {W : World} {ops : Array Oper} {o : Oper} {a : Act} {K : Act → World → Prop} {Q : Exit → Act → World → Prop} {E : Prop} (hgd : o.guard = none) {s x : Operand} {t : TypeId}
    (ho : o.op = .call { callee := .builtin .append, args := #[s, x], argTypes := #[t, t] })
    {e : TypeId} {size bytes base : Nat} (he : ElemOk P t e size bytes) {v : Value} {n : Nat} {xs : List Value} (hown : W.ownsRow base e size v n xs) (hs : a.eval s = v)
    {u : Value} {m : Nat} {news : List Value} (hr : Row W size u m news) (hx : a.eval x = u) (h1 : ∀ u ∈ news, u.oneCell' = true) (hbytes : (n + m) * bytes ≤ 140737488355328) (h63 : n + m ≤ maxLen) (hbase : base ≤ W.heap.size)
    (h : ∀ A' c' w', w'.ownsRow base e size (.slice A' (n + m) c') (n + m) (xs ++ news) → W.grownBy w' v.ownBlock →
      ((Value.slice A' (n + m) c').ownBlock = v.ownBlock ∨ (Value.slice A' (n + m) c').ownBlock = some W.heap.size) → K (a.put o.dst (.slice A' (n + m) c')) w') :
    if Region.wanted o (yielded ops a.tmps) = true then Oper.wp P o a W K Q else E := by
  have hw : Region.wanted o (yielded ops a.tmps) = true := by simp [Region.wanted, hgd]
  rw [if_pos hw]
  obtain ⟨A', c', w', hrun, h2, h3, h4⟩ := run_app (ty := o.type) he hown hr h1 hbytes h63 hbase
  unfold Oper.wp execOp
  simp only [ho, resolve, invoke, builtin, Sem.run_bind, Sem.run_pure, Result.andThen_ok, List.map_toArray, List.map_cons, List.map_nil, hs, hx, hrun]
  exact h A' c' w' h2 h3 h4
theorem below_alloc' {a w : World} (h : Below a.heap.size a w) (o : Obj) : Below a.heap.size a (w.alloc o) := h.alloc h.size o
theorem Blk.below' {w w' : World} {g : Nat} {e : TypeId} {cs : List Value} (h : Blk w g e cs) (hb : Below w.heap.size w w') : Blk w' g e cs := h.below hb h.lt
theorem Blk.drew' {w : World} {g : Nat} {e : TypeId} {cs : List Value} (h : Blk w g e cs) : Blk w.drew g e cs := h
theorem own_alloc' {w : World} {B : Nat} {e : TypeId} {k : Nat} {v : Value} {n : Nat} {xs : List Value} (h : w.ownsRow B e k v n xs) (o : Obj) : (w.alloc o).ownsRow B e k v n xs := own_below h ((Below.refl _ _).alloc (Nat.le_refl _) _)
theorem drew_heap (w : World) : w.drew.heap = w.heap := rfl
theorem blk_at {w : World} {g : Nat} {cs : List Value} {e : TypeId} (hg : g = w.heap.size) : Blk (w.alloc (.cells cs.toArray e)) g e cs := by rw [hg]; exact blk_new w cs e
theorem apR_of {V X w5 Y w6 W : World} {v1 v2 : Value} {g10 n m : Nat} {xs ys : List Value} (hX : Below V.heap.size V X) (h5 : Below X.heap.size X w5) (hY : Below w5.heap.size w5 Y) (h6 : Below Y.heap.size Y w6) (hW : Below w6.heap.size w6 W)
    (o5 : w5.ownsRow X.heap.size 74 12 v1 n xs) (o6 : w6.ownsRow Y.heap.size 77 6 v2 m ys)
    (hb : Blk W g10 48 [.slice none 0 0, .slice none 0 0]) (hg : (V.heap.size ≤ g10 ∧ g10 < X.heap.size) ∨ (w5.heap.size ≤ g10 ∧ g10 < Y.heap.size) ∨ w6.heap.size ≤ g10) :
    ApR V ((W.setCell ⟨g10, 0, none⟩ v1).setCell ⟨g10, 1, none⟩ v2) g10 v1 v2 n m xs ys := by
  have b5 := below_next hX h5
  have h56 := below_next hY h6
  have b6 := below_next b5 h56
  have bW := below_next b6 hW
  have l1 := o5.lt
  have l2 := o6.lt
  have s1 := hX.size
  have s2 := h5.size
  have s3 := hY.size
  have s4 := h6.size
  have s5 := hW.size
  have n1 : v1.ownBlock ≠ some g10 := fun e => by have := l1 _ e; omega
  have n2 : v2.ownBlock ≠ some g10 := fun e => by have := l2 _ e; omega
  have hle : V.heap.size ≤ g10 := by omega
  refine ⟨(bW.setCell (p := ⟨g10, 0, none⟩) hle _).setCell (p := ⟨g10, 1, none⟩) hle _, hle, (hb.set_ 0 v1).set_ 1 v2, ?_, ?_, n1, n2, ?_⟩
  · exact own_mono (own_setCell (own_setCell (own_below (own_below o5 h56) hW) (p := ⟨g10, 0, none⟩) n1 _) (p := ⟨g10, 1, none⟩) n1 _) s1
  · exact own_mono (own_setCell (own_setCell (own_below o6 hW) (p := ⟨g10, 0, none⟩) n2 _) (p := ⟨g10, 1, none⟩) n2 _) (by omega)
  · intro x e1 e2
    have := l1 _ e1
    have := l2 _ e2
    omega

theorem apR_of2 {V X w5 Y w6 : World} {v1 v2 : Value} {n m : Nat} {xs ys : List Value} (hX : Below V.heap.size V X) (h5 : Below X.heap.size X w5) (hY : Below w5.heap.size w5 Y) (h6 : Below Y.heap.size Y w6)
    (o5 : w5.ownsRow X.heap.size 74 12 v1 n xs) (o6 : w6.ownsRow Y.heap.size 77 6 v2 m ys) :
    ApR V (w6.alloc (.cells #[v1, v2] 48)) w6.heap.size v1 v2 n m xs ys := by
  have b5 := below_next hX h5
  have h56 := below_next hY h6
  have b6 := below_next b5 h56
  have l1 := o5.lt
  have l2 := o6.lt
  have s1 := hX.size
  have s2 := h5.size
  have s3 := hY.size
  have s4 := h6.size
  refine ⟨below_alloc' b6 _, b6.size, blk_new w6 [v1, v2] _, own_mono (own_alloc' (own_below o5 h56) _) s1, own_mono (own_alloc' o6 _) (by omega), fun e => by have := l1 _ e; omega, fun e => by have := l2 _ e; omega, ?_⟩
  intro x e1 e2
  have := l1 _ e1
  have := l2 _ e2
  omega

/-- One more revision appended: X is the world ahead of the append, the element's block laid. -/
theorem ApR.push {V wr X w5 : World} {g10 : Nat} {v1 v2 v3 : Value} {n n' m : Nat} {xs xs' ys : List Value} (h : ApR V wr g10 v1 v2 n m xs ys) (hX : Below wr.heap.size wr X) (ho : w5.ownsRow V.heap.size 74 12 v3 n' xs') (hg : X.grownBy w5 v1.ownBlock) (hw : v3.ownBlock = v1.ownBlock ∨ v3.ownBlock = some X.heap.size) :
    ApR V (w5.setCell ⟨g10, 0, none⟩ v3) g10 v3 v2 n' m xs' ys := by
  have l1 := h.one.lt
  have l2 := h.two.lt
  have lb := h.box.lt
  have hs := hX.size
  have n3 : v3.ownBlock ≠ some g10 := fun e => by
    rcases hw with hw | hw
    · exact h.ne1 (hw ▸ e)
    · rw [hw] at e; injection e with e; omega
  have b5 : Below V.heap.size V w5 := (below_next h.bel hX).grown hg (by have := h.bel.size; omega) (fun k e => (l1 k e).1)
  refine ⟨b5.setCell (p := ⟨g10, 0, none⟩) h.le _, h.le, ?_, own_setCell ho (p := ⟨g10, 0, none⟩) n3 _, ?_, n3, h.ne2, ?_⟩
  · exact ((h.box.below hX lb).grown hg (fun e => h.ne1 e.symm)).set_ 0 v3
  · exact own_setCell (own_grown (own_below h.two hX) hg (fun x e e2 => h.ne12 x e2 e)) (p := ⟨g10, 0, none⟩) h.ne2 _
  · intro x e1 e2
    rcases hw with hw | hw
    · exact h.ne12 x (hw ▸ e1) e2
    · rw [hw] at e1; injection e1 with e1
      have := l2 _ e2; omega

theorem ApR.under {V wr X : World} {g10 : Nat} {v1 v2 : Value} {n m : Nat} {xs ys : List Value} (h : ApR V wr g10 v1 v2 n m xs ys) (hX : Below wr.heap.size wr X) : ApR V X g10 v1 v2 n m xs ys :=
  ⟨below_next h.bel hX, h.le, h.box.below hX h.box.lt, own_below h.one hX, own_below h.two hX, h.ne1, h.ne2, h.ne12⟩
/-- The operations of region n of a function's text. -/
def regAt (n : Nat) : Code → Option (Array Oper)
  | .region i ops _ => if i = n then some ops else none
  | .seq a b => (regAt n a).or (regAt n b)
  | .cond _ a b => (regAt n a).or (regAt n b)
  | .block _ a => regAt n a
  | .loop a => regAt n a
  | _ => none
end Go.Proofs.YteolonjmgojoeaaGreatDoor
/- The contracts of the functions that make lists: names, Collapsed, Expanded, named. -/
namespace Go.Proofs.YteolonjmgojoeaaGreatDoor.kw
set_option linter.unusedVariables false
set_option linter.unusedSimpArgs false
open Go.RowKit
def expText (p : ByteArray × ByteArray) : ByteArray := ⟨#[36]⟩ ++ p.1 ++ ⟨#[58, 32]⟩ ++ p.2 ++ ⟨#[32, 36]⟩

end Go.Proofs.YteolonjmgojoeaaGreatDoor.kw
/- The contracts of endOccurrence and of the reference's Name and Value. -/
namespace Go.Proofs.YteolonjmgojoeaaGreatDoor.kw
set_option linter.unusedVariables false
set_option linter.unusedSimpArgs false
open Go.RowKit

def skipL (l : List UInt8) (k : Nat) : Nat := k + ((l.drop k).takeWhile (fun c => c.toNat != 36 && c.toNat != 10)).length
def occAt (l : List UInt8) (k : Nat) : Nat := if l[k]? = some 58 then skipL l (k + 1) else k
def occOk (l : List UInt8) (k : Nat) : Bool := l[occAt l k]? == some 36

theorem skipL_step (l : List UInt8) (k : Nat) (h : k < l.length) (h1 : l[k].toNat ≠ 36) (h2 : l[k].toNat ≠ 10) : skipL l (k + 1) = skipL l k := by
  unfold skipL
  rw [List.drop_eq_getElem_cons h, List.takeWhile_cons, if_pos (by simp [h1, h2]), List.length_cons]; omega
theorem skipL_stop (l : List UInt8) (k : Nat) (h : k < l.length) (h1 : l[k].toNat = 36 ∨ l[k].toNat = 10) : skipL l k = k := by
  unfold skipL
  rw [List.drop_eq_getElem_cons h, List.takeWhile_cons, if_neg (by rcases h1 with h1 | h1 <;> simp [h1])]; simp
theorem skipL_end (l : List UInt8) (k : Nat) (h : l.length ≤ k) : skipL l k = k := by
  unfold skipL
  rw [List.drop_of_length_le h]; simp

def EndOcc (l : List UInt8) (k : Nat) (w : World) (e : Ending) (w' : World) : Prop :=
  e = .returned (.tuple #[.int .i64 ((occAt l k : Nat) + 1 : Int), .bool (occOk l k)]) ∧ ∃ n, w' = w.drewN n

theorem getElem?_u8 (l : List UInt8) (k : Nat) (h : k < l.length) (c : UInt8) : (l[k]? == some c) = ((l[k].toNat : Int) == (c.toNat : Int)) := by
  rw [List.getElem?_eq_getElem h, Bool.eq_iff_iff]; simp; exact ⟨fun h => by rw [h], fun h => UInt8.toNat.inj (by exact_mod_cast h)⟩

/-- What the last statement gives, where the place is known. -/
theorem endOcc_close (l : List UInt8) (at_ k : Nat) (w : World) (n : Nat) (b : Bool) (hk : occAt l at_ = k) (hb : b = (l[k]? == some 36)) :
    EndOcc l at_ w (.returned (.tuple #[.int .i64 ((k : Int) + 1), .bool b])) (w.drewN n) := ⟨by unfold occOk; rw [hk, hb], n, rfl⟩

theorem occAt_no (l : List UInt8) (k : Nat) (h : k < l.length) (h58 : ((l[k].toNat : Int) == 58) = false) : occAt l k = k := by
  unfold occAt
  rw [if_neg]
  intro h'
  have := getElem?_u8 l k h 58
  rw [h'] at this
  simp at this
  simp [← this] at h58
theorem occAt_yes (l : List UInt8) (k : Nat) (h : k < l.length) (h58 : ((l[k].toNat : Int) == 58) = true) : occAt l k = skipL l (k + 1) := by
  unfold occAt
  rw [if_pos]
  have := getElem?_u8 l k h 58
  simpa using this.trans h58
theorem occAt_end (l : List UInt8) (k : Nat) (h : ¬ k < l.length) : occAt l k = k := by
  unfold occAt
  rw [if_neg]
  rw [List.getElem?_eq_none (by omega)]; simp

set_option maxHeartbeats 400000 in
theorem endOcc_any (l : List UInt8) (v : Value) (at_ : Nat) (w : World) (hb : Bytes w v l) (hl : l.length ≤ 2000000) (ha : at_ ≤ l.length) :
    Calls Tryz.prog 115 #[v, .int .i64 at_] w (EndOcc l at_ w) := by
  obtain ⟨A, c, rfl, hc, hm, hlen, h00, hx⟩ := id hb
  clear hx hlen h00
  have HB := Lib.hid hb
  clear hb
  by_cases hlt : at_ < l.length
  · obtain ⟨ad, rfl, -, hcell⟩ := HB.out.at_ hlt
    cases h58 : ((l[at_].toNat : Int) == 58)
    · -- no colon
      have HC := Lib.hid h58
      go_enter Tryz.func115, Tryz.ntmps115
      go_wp2
      go_quiet (fail)
      go_wp2
      go_ret2
      exact endOcc_close l at_ at_ w _ _ (occAt_no l at_ hlt HC.out) (by rw [getElem?_u8 l at_ hlt]; rfl)
    · have HC := Lib.hid (occAt_yes l at_ hlt h58)
      go_enter Tryz.func115, Tryz.ntmps115
      go_wp2
      clear hcell
      go_loop [1] (fun i => ∃ k : Nat, k ≤ l.length ∧ i = .int .i64 k ∧ occAt l at_ = skipL l k) (fun i => l.length - (intOf i).toNat)
      case atStart => exact ⟨at_ + 1, by omega, by go_num, HC.out⟩
      case round =>
        obtain ⟨k, hk, rfl, he⟩ := hrel
        have HE := Lib.hid he
        clear he h58
        by_cases hlt2 : k < l.length
        · obtain ⟨ad', e, -, hcell⟩ := HB.out.at_ hlt2
          obtain rfl : ad = ad' := by simpa using e
          clear e
          cases h36 : ((l[k].toNat : Int) != 36)
          · have h36' : ((l[k].toNat : Int) == 36) = true := by simpa using h36
            go_wp2
            go_quiet (fail)
            go_wp2
            go_ret2
            exact endOcc_close l at_ k w _ _ (by rw [HE.out, skipL_stop l k hlt2 (.inl (by simp at h36'; omega))]) (by rw [getElem?_u8 l k hlt2]; simpa using h36')
          · have h36' : ((l[k].toNat : Int) == 36) = false := by simpa using h36
            cases h10 : ((l[k].toNat : Int) != 10)
            · go_wp2
              go_quiet (fail)
              go_wp2
              go_ret2
              exact endOcc_close l at_ k w _ _ (by rw [HE.out, skipL_stop l k hlt2 (.inr (by simp at h10; omega))]) (by rw [getElem?_u8 l k hlt2]; simpa using h36')
            · have H36 := Lib.hid h36
              have H10 := Lib.hid h10
              go_wp2
              go_round
              case rel => exact ⟨k + 1, by omega, by go_num, by rw [HE.out, skipL_step l k hlt2 (by have := H36.out; simp at this; omega) (by have := H10.out; simp at this; omega)]⟩
              case measure => simp [intOf]; omega
        · have hd : decide ((k : Int) < (l.length : Int)) = false := by simp; omega
          go_wp2
          go_quiet (fail)
          go_wp2
          go_ret2
          exact endOcc_close l at_ k w _ _ (by rw [HE.out, skipL_end l k (by omega)]) (by rw [List.getElem?_eq_none (by omega)]; rfl)
  · go_enter Tryz.func115, Tryz.ntmps115
    go_wp2
    go_quiet (fail)
    go_wp2
    go_ret2
    exact endOcc_close l at_ at_ w _ _ (occAt_end l at_ hlt) (by rw [List.getElem?_eq_none (by omega)]; rfl)

end Go.Proofs.YteolonjmgojoeaaGreatDoor.kw
/- The occurrences of names in a list of bytes, as the program finds them: lists and numbers alone. -/
namespace Go.Proofs.YteolonjmgojoeaaGreatDoor.kw
set_option linter.unusedVariables false
set_option linter.unusedSimpArgs false

/-- The letters behind the dollar sign at k. -/
def nameAt (l : List UInt8) (k : Nat) : List UInt8 := (l.drop (k + 1)).take (endNameL l (k + 1) - (k + 1))
/-- The place behind the occurrence that begins at k. -/
def stepAt (names : List (List UInt8)) (l : List UInt8) (k : Nat) : Option Nat :=
  if nameAt l k ∈ names ∧ occOk l (endNameL l (k + 1)) = true then some (occAt l (endNameL l (k + 1)) + 1) else none

abbrev Occ := Nat × Nat × List UInt8

def occF (names : List (List UInt8)) (l : List UInt8) : Nat → Nat → List Occ
  | 0, _ => []
  | f + 1, k => if k < l.length then
      (if l[k]? = some 36 then
        match stepAt names l k with
        | some e => (k, e - 1, nameAt l k) :: occF names l f e
        | none => occF names l f (k + 1)
      else occF names l f (k + 1))
    else []
def occs (names : List (List UInt8)) (l : List UInt8) (k : Nat) : List Occ := occF names l (l.length - k) k

theorem endNameL_ge (l : List UInt8) (k : Nat) : k ≤ endNameL l k := by unfold endNameL; omega
theorem skipL_ge (l : List UInt8) (k : Nat) : k ≤ skipL l k := by unfold skipL; omega
theorem occAt_ge (l : List UInt8) (k : Nat) : k ≤ occAt l k := by
  unfold occAt; split
  · have := skipL_ge l (k + 1); omega
  · exact Nat.le_refl _
theorem occOk_lt {l : List UInt8} {k : Nat} (h : occOk l k = true) : occAt l k < l.length := by
  unfold occOk at h
  have h' := eq_of_beq h
  exact (List.getElem?_eq_some_iff.1 h').1
theorem stepAt_bd {names : List (List UInt8)} {l : List UInt8} {k e : Nat} (h : stepAt names l k = some e) : k + 1 < e ∧ e ≤ l.length := by
  unfold stepAt at h
  split at h
  · rename_i hc
    injection h with h
    have h1 := occOk_lt hc.2
    have h2 := occAt_ge l (endNameL l (k + 1))
    have h3 := endNameL_ge l (k + 1)
    omega
  · cases h

theorem occF_fuel (names : List (List UInt8)) (l : List UInt8) : ∀ (f g k : Nat), l.length - k ≤ f → l.length - k ≤ g → occF names l f k = occF names l g k
  | 0, 0, k, _, _ => rfl
  | 0, g + 1, k, h, _ => by simp [occF, show ¬ k < l.length by omega]
  | f + 1, 0, k, _, h => by simp [occF, show ¬ k < l.length by omega]
  | f + 1, g + 1, k, h1, h2 => by
    by_cases hk : k < l.length
    · simp only [occF, hk, if_true]
      rw [occF_fuel names l f g (k + 1) (by omega) (by omega)]
      cases hs : stepAt names l k with
      | none => rfl
      | some e =>
        have := stepAt_bd hs
        simp only
        rw [occF_fuel names l f g e (by omega) (by omega)]
    · simp [occF, hk]

theorem occs_end (names : List (List UInt8)) (l : List UInt8) (k : Nat) (h : ¬ k < l.length) : occs names l k = [] := by
  unfold occs; rw [show l.length - k = 0 by omega]; rfl
theorem occs_step (names : List (List UInt8)) (l : List UInt8) (k : Nat) (h : k < l.length) : occs names l k =
    if l[k]? = some 36 then (match stepAt names l k with | some e => (k, e - 1, nameAt l k) :: occs names l e | none => occs names l (k + 1)) else occs names l (k + 1) := by
  unfold occs
  obtain ⟨f, hf⟩ : ∃ f, l.length - k = f + 1 := ⟨l.length - k - 1, by omega⟩
  rw [hf]
  simp only [occF, h, if_true]
  rw [occF_fuel names l f (l.length - (k + 1)) (k + 1) (by omega) (by omega)]
  cases hs : stepAt names l k with
  | none => rfl
  | some e =>
    have := stepAt_bd hs
    simp only
    rw [occF_fuel names l f (l.length - e) e (by omega) (by omega)]
theorem occs_no (names : List (List UInt8)) (l : List UInt8) (k : Nat) (h : k < l.length) (h36 : l[k]? ≠ some 36) : occs names l k = occs names l (k + 1) := by
  rw [occs_step names l k h, if_neg h36]
theorem occs_none (names : List (List UInt8)) (l : List UInt8) (k : Nat) (h : k < l.length) (h36 : l[k]? = some 36) (hs : stepAt names l k = none) : occs names l k = occs names l (k + 1) := by
  rw [occs_step names l k h, if_pos h36, hs]
theorem occs_some (names : List (List UInt8)) (l : List UInt8) (k e : Nat) (h : k < l.length) (h36 : l[k]? = some 36) (hs : stepAt names l k = some e) : occs names l k = (k, e - 1, nameAt l k) :: occs names l e := by
  rw [occs_step names l k h, if_pos h36, hs]
theorem occs_skip (names : List (List UInt8)) (l : List UInt8) (k : Nat) : ∀ (j : Nat), k + j ≤ l.length → (∀ i, i < j → l[k + i]? ≠ some 36) → occs names l k = occs names l (k + j)
  | 0, _, _ => rfl
  | j + 1, h, hn => by
    rw [occs_skip names l k j (by omega) (fun i hi => hn i (by omega)), occs_no names l (k + j) (by omega) (hn j (by omega))]; rfl
theorem occs_out (names : List (List UInt8)) (l : List UInt8) (k : Nat) (hk : k ≤ l.length) (hn : ∀ i, l[k + i]? ≠ some 36) : occs names l k = [] := by
  rw [occs_skip names l k (l.length - k) (by omega) (fun i _ => hn i), occs_end _ _ _ (by omega)]

/-- What IndexByte says of the next dollar sign. -/
theorem index_no {l : List UInt8} {k : Nat} (h : Lib.indexByte (l.drop k) 36 = -1) (i : Nat) : l[k + i]? ≠ some 36 := by
  have := Lib.indexByte_none h i
  rwa [List.getElem?_drop] at this
theorem index_yes {l : List UInt8} {k j : Nat} (h : Lib.indexByte (l.drop k) 36 = (j : Int)) : l[k + j]? = some 36 ∧ (∀ i, i < j → l[k + i]? ≠ some 36) ∧ k + j < l.length := by
  obtain ⟨h1, h2⟩ := Lib.indexByte_some h
  rw [List.getElem?_drop] at h1
  exact ⟨h1, fun i hi => by have := h2 i hi; rwa [List.getElem?_drop] at this, (List.getElem?_eq_some_iff.1 h1).1⟩
theorem index_cases (l : List UInt8) (c : UInt8) : Lib.indexByte l c = -1 ∨ ∃ j : Nat, Lib.indexByte l c = (j : Int) := by
  have := Lib.indexByte_ge l c
  by_cases h : Lib.indexByte l c = -1
  · exact .inl h
  · exact .inr ⟨(Lib.indexByte l c).toNat, by omega⟩
theorem nameAt_le (l : List UInt8) (k : Nat) (h : k < l.length) : k + 1 ≤ endNameL l (k + 1) ∧ endNameL l (k + 1) ≤ l.length := ⟨endNameL_ge _ _, endNameL_le l (k + 1) (by omega)⟩

theorem occF_length (names : List (List UInt8)) (l : List UInt8) : ∀ (f k : Nat), (occF names l f k).length ≤ f
  | 0, _ => Nat.le_refl _
  | f + 1, k => by
    have h1 := occF_length names l f (k + 1)
    unfold occF
    split
    · split
      · split
        · rename_i e _
          have h2 := occF_length names l f e
          simp; omega
        · omega
      · omega
    · simp
theorem occs_length (names : List (List UInt8)) (l : List UInt8) (k : Nat) : (occs names l k).length ≤ l.length := by
  have := occF_length names l (l.length - k) k
  unfold occs; omega

/-- The text in which each occurrence is replaced by txt of its name: what is made and how far, behind the given occurrences. -/
def replSt (b : List UInt8) (txt : List UInt8 → List UInt8) (os : List Occ) : List UInt8 × Nat :=
  os.foldl (fun st o => (st.1 ++ (b.drop st.2).take (o.1 - st.2) ++ txt o.2.2, o.2.1 + 1)) ([], 0)
def replL (b : List UInt8) (txt : List UInt8 → List UInt8) (os : List Occ) : List UInt8 := (replSt b txt os).1 ++ b.drop (replSt b txt os).2

theorem replSt_snoc (b : List UInt8) (txt : List UInt8 → List UInt8) (os : List Occ) (o : Occ) : replSt b txt (os ++ [o]) =
    ((replSt b txt os).1 ++ (b.drop (replSt b txt os).2).take (o.1 - (replSt b txt os).2) ++ txt o.2.2, o.2.1 + 1) := by
  simp [replSt, List.foldl_append]

theorem occF_split (names : List (List UInt8)) (l : List UInt8) : ∀ (f k : Nat) (pre rest : List Occ) (x : Occ), occF names l f k = pre ++ x :: rest →
    (∀ y, pre.getLast? = some y → y.2.1 + 1 ≤ x.1) ∧ k ≤ x.1 ∧ x.1 < x.2.1 ∧ x.2.1 < l.length ∧ l[x.1]? = some 36 ∧ x.2.2 = nameAt l x.1 ∧ stepAt names l x.1 = some (x.2.1 + 1)
  | 0, k, pre, rest, x, h => by simp [occF] at h
  | f + 1, k, pre, rest, x, h => by
    unfold occF at h
    split at h
    · split at h
      · rename_i hk h36
        split at h
        · rename_i e hs
          have hbd := stepAt_bd hs
          cases pre with
          | nil =>
            simp only [List.nil_append, List.cons.injEq] at h
            obtain ⟨rfl, h⟩ := h
            refine ⟨by simp, Nat.le_refl _, by simp only; omega, by simp only; omega, h36, rfl, ?_⟩
            simp only
            rw [show e - 1 + 1 = e by omega]; exact hs
          | cons p pre =>
            simp only [List.cons_append, List.cons.injEq] at h
            obtain ⟨rfl, h⟩ := h
            obtain ⟨h1, h2, h3⟩ := occF_split names l f e pre rest x h
            refine ⟨fun y hy => ?_, by omega, h3⟩
            cases pre with
            | nil =>
              simp only [List.getLast?_singleton, Option.some.injEq] at hy
              subst hy
              simp only; omega
            | cons q pre => exact h1 y (by rwa [List.getLast?_cons_cons] at hy)
        · obtain ⟨h1, h2, h3⟩ := occF_split names l f (k + 1) pre rest x h
          exact ⟨h1, by omega, h3⟩
      · obtain ⟨h1, h2, h3⟩ := occF_split names l f (k + 1) pre rest x h
        exact ⟨h1, by omega, h3⟩
    · simp at h

theorem replSt_copied (b : List UInt8) (txt : List UInt8 → List UInt8) (os : List Occ) : (replSt b txt os).2 = (os.getLast?.map fun o => o.2.1 + 1).getD 0 := by
  rcases List.eq_nil_or_concat os with rfl | ⟨os', o, rfl⟩
  · rfl
  · rw [List.concat_eq_append, replSt_snoc]; simp

theorem occs_at (names : List (List UInt8)) (b : List UInt8) (txt : List UInt8 → List UInt8) (pre rest : List Occ) (x : Occ) (h : occs names b 0 = pre ++ x :: rest) :
    (replSt b txt pre).2 ≤ x.1 ∧ x.1 < x.2.1 ∧ x.2.1 < b.length ∧ x.2.2.length ≤ b.length ∧ nameAt b x.1 = x.2.2 := by
  obtain ⟨h1, h2, h3, h4, _, h5, _⟩ := occF_split names b _ 0 pre rest x h
  refine ⟨?_, h3, h4, ?_, h5.symm⟩
  · rw [replSt_copied]
    cases hl : pre.getLast? with
    | none => simp
    | some y => simpa using h1 y hl
  · rw [h5]; unfold nameAt; simp only [List.length_take, List.length_drop]; omega

theorem replSt_len (b : List UInt8) (txt : List UInt8 → List UInt8) (T : Nat) (names : List (List UInt8)) : ∀ (rest pre : List Occ), occs names b 0 = pre ++ rest → (∀ o ∈ pre, (txt o.2.2).length ≤ T) →
    (replSt b txt pre).1.length ≤ (replSt b txt pre).2 + pre.length * T ∧ (replSt b txt pre).2 ≤ b.length := by
  intro rest pre
  induction h : pre.length generalizing pre rest with
  | zero =>
    intro _ _
    have : pre = [] := List.eq_nil_of_length_eq_zero h
    subst this
    simp [replSt]
  | succ n ih =>
    intro h1 h2
    rcases List.eq_nil_or_concat pre with rfl | ⟨pre', x, rfl⟩
    · simp at h
    · rw [List.concat_eq_append] at *
      simp only [List.append_assoc, List.cons_append, List.nil_append] at h1
      obtain ⟨i1, i2⟩ := ih (x :: rest) pre' (by simpa using h) h1 (fun o ho => h2 o (by simp [ho]))
      obtain ⟨a1, a2, a3, _⟩ := occs_at names b txt pre' rest x h1
      have ht := h2 x (by simp)
      rw [replSt_snoc]
      simp only [List.length_append, List.length_take, List.length_drop, List.length_cons, List.length_nil, Nat.add_mul] at *
      omega

end Go.Proofs.YteolonjmgojoeaaGreatDoor.kw
/- Regions that draw their order, within a round of a range over a function. -/
namespace Go.Proofs.YteolonjmgojoeaaGreatDoor.kw
set_option linter.unusedVariables false
set_option linter.unusedSimpArgs false
open Go.RowKit

theorem wpIn_of_wp_op {l n : Nat} {P : Program} {o : Oper} {a : Act} {w : World} {K : Act → World → Prop} {Q : Exit → Act → World → Prop} (hd : ∀ c, o.op ≠ .defer c) (h : o.wp P a w K Q) :
    o.wpIn (Fence.wide.inRound l) n P a w K Q := by
  refine ⟨fun _ _ => trivial, ?_⟩
  unfold Oper.wp at h
  rw [Oper.semAt_eq _ _ _ hd]
  generalize (execOp a.eval o).run P w = r at h
  cases r with
  | ok x w' =>
    cases x with
    | value v => exact h
    | skip => exact h
    | defer d => exact h
    | enter f args => exact ⟨fun h => (by cases h), callsIn_wide.2 h⟩
    | row row args =>
      refine ⟨fun h => (by cases h), fun c cs _ => ?_⟩
      obtain ⟨v, w'', hr, hs⟩ := h c cs
      exact ⟨v, w'', hr, stepsIn_wide.2 hs⟩
    | round => exact h.elim
    | _ => exact h.elim
  | halt x w' => cases x <;> first | exact h | exact h.elim

def noDefer (ops : Array Oper) : Bool := ops.all fun o => match o.op with | .defer _ => false | _ => true

theorem noDefer_at {ops : Array Oper} (h : noDefer ops = true) {i : Nat} {o : Oper} (ho : ops[i]? = some o) : ∀ c, o.op ≠ .defer c := by
  intro c hc
  have := Array.all_eq_true'.1 h o (Array.mem_of_getElem? ho)
  rw [hc] at this
  cases this

theorem wpAnyIn_of_any {l n : Nat} {P : Program} {md : Region.Mode} {ops : Array Oper} {Q : Exit → Act → World → Prop} (hd : noDefer ops = true) (hQ : ¬ LetsOut Q) :
    ∀ (fuel : Nat) (listed : Array Bool) (a : Act) (w : World), wpAny P md ops Q fuel listed a w → wpAnyIn (Fence.wide.inRound l) n P md ops Q fuel listed a w := by
  intro fuel
  induction fuel with
  | zero => intro listed a w h; exact h
  | succ fuel ih =>
    intro listed a w h
    refine ⟨h.1, fun i hi => ?_⟩
    have h1 := h.2 i hi
    unfold wpOp at h1
    unfold wpOpIn
    cases ho : ops[i]? with
    | none => rw [ho] at h1; exact ih _ _ _ h1
    | some o =>
      rw [ho] at h1
      simp only at h1 ⊢
      split
      · rename_i hw
        rw [if_pos hw] at h1
        rcases h1 with h1 | h1
        · exact Oper.wpIn_mono (fun a w h => ih _ a w h) (wpIn_of_wp_op (noDefer_at hd ho) h1)
        · exact absurd h1.2 hQ
      · rename_i hw
        rw [if_neg hw] at h1
        exact ⟨fun _ _ => trivial, ih _ _ _ h1⟩

theorem wpAny_still_tail {P : Program} {Q : Exit → Act → World → Prop} {a : Act} {w : World} {l : List Oper} (n : Nat) (hB : Region.lexTailB .any l.toArray n = true)
    (h : wpStill P l.toArray w (fun a' => wpList P l.toArray Q (l.drop n) a' w) (l.take n) a) : wpAny P .any l.toArray Q l.toArray.size (Array.replicate l.toArray.size false) a w := by
  simp only [Region.lexTailB, Bool.and_eq_true, decide_eq_true_eq] at hB
  obtain ⟨⟨⟨⟨hsel, hn⟩, hs⟩, hc⟩, hlex⟩ := hB
  have htl : (l.take n).length = n := by have : n < l.length := by simpa using hn
                                         simp; omega
  have hdl : (l.drop n).length = l.toArray.size - n := by simp
  have inv0 : HeadInv .any l.toArray n (Array.replicate l.toArray.size false) :=
    ⟨by simp, fun j oj _ hl => (by rw [getD_replicate_false] at hl; cases hl), fun t _ ht => getD_in (by simpa using ht) (getD_replicate_false _ _)⟩
  have H := wpAnyL_lex (md := .any) (g := l.toArray.size - n) hsel hs hc hn (l.take n) 0 _ a (fun j hj => by
    rw [htl] at hj
    simp [hj]) (by simpa using htl) inv0 (by rw [htl]; exact hlex) h
  have H2 := wpAny_of_head (Q' := Q) (g := l.toArray.size - n) (fun listed a' hL => by
    have := wpAny_of_seq (md := .any) (Q' := Q) (l.drop n) n listed a' w (fun j => by simp [List.getElem?_drop]) (by rw [hdl]; exact hL.1) hL.2
    rwa [hdl] at this) _ _ _ H
  rw [htl, show n + (l.toArray.size - n) = l.toArray.size by omega] at H2
  exact H2

/-- Within a round: all operations but the last few read; these come last, in one order. -/
theorem wpIn_round_still_tail {lp nF id : Nat} {P : Program} {Q : Exit → Act → World → Prop} {a : Act} {w : World} {l : List Oper} (n : Nat) (hm : P.follows .mixedOrders = true) (hB : Region.lexTailB .any l.toArray n = true) (hd : noDefer l.toArray = true) (hQ : ¬ LetsOut Q)
    (h : wpStill P l.toArray w.drew (fun a' => wpList P l.toArray Q (l.drop n) a' w.drew) (l.take n) a) : (Code.region id l.toArray true).wpIn (Fence.wide.inRound lp) nF P Q a w :=
  wpIn_region_any hm (wpAnyIn_of_any hd hQ _ _ _ _ (wpAny_still_tail n hB h))

end Go.Proofs.YteolonjmgojoeaaGreatDoor.kw
/- The contracts of the statements' own helpers: large, words, awake. -/
namespace Go.Proofs.YteolonjmgojoeaaGreatDoor.kw
set_option linter.unusedVariables false
set_option linter.unusedSimpArgs false
set_option maxRecDepth 100000
open Go.RowKit
theorem bytes_const (W : World) (l : List UInt8) (e : TypeId) (fr : Nat × Nat) (hl : l.length ≤ maxLen) : Bytes (W.alloc (.cells (l.map fun b => Value.int .u8 (b.toNat : Int)).toArray e fr)) (.slice (some ⟨W.heap.size, 0, none⟩) l.length l.length) l := by
  refine ⟨_, _, rfl, Nat.le_refl _, hl, by simp, fun h => (by cases h), fun _ => ⟨_, rfl, by simp, fun j u hu => ?_⟩⟩
  have hadd : (⟨W.heap.size, 0, none⟩ : Addr).add j = ⟨W.heap.size, j, none⟩ := by unfold Addr.add; split <;> simp_all
  rw [hadd, World.cell?_alloc_mark]
  simpa using hu

end Go.Proofs.YteolonjmgojoeaaGreatDoor.kw
