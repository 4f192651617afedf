/- Words for a row of structs that is sorted in place: 'SB'; any program. -/
import Derived.Test.YtnblfaagchflaaaGreatDoorMzSym
import Derived.Test.YtnblfaagchflaaaGreatDoorMgw4
import Derived.Shelf.SlSortCmp.KitK
import Derived.Lib.QuietBelow
namespace Go.Proofs.YtnblfaagchflaaaGreatDoor
open Go.RowKit Go.Lib
open Go.Sort hiding Below
set_option linter.unusedVariables false
set_option linter.unusedSimpArgs false
section
variable {P : Program} {α : Type} [Inhabited α] {enc : α → List Value} {k : Nat} {e : TypeId} {w0 W W' : World} {blk off C : Nat} {d : Array α}

theorem setCells_size (g : Nat) : ∀ (vs : List Value) (o : Nat) (w : World), (w.setCells g o vs).heap.size = w.heap.size
  | [], o, w => rfl
  | v :: vs, o, w => by rw [World.setCells, setCells_size g vs (o + 1)]; simp [World.setCell]
theorem setCells_block (g : Nat) : ∀ (vs : List Value) (o : Nat) (w : World) (j : Nat), j ≠ g → (w.setCells g o vs).heap[j]? = w.heap[j]?
  | [], o, w, j, h => rfl
  | v :: vs, o, w, j, h => by rw [World.setCells, setCells_block g vs (o + 1) _ j h]; exact Below.heap_setCell w _ _ _ h
theorem setCells_own (g : Nat) (e : TypeId) (C : Nat) : ∀ (vs : List Value) (o : Nat) (w : World), (∃ cur : Array Value, w.heap[g]? = some (.cells cur e (0, 0)) ∧ cur.size = C) → ∃ cur : Array Value, (w.setCells g o vs).heap[g]? = some (.cells cur e (0, 0)) ∧ cur.size = C
  | [], o, w, h => h
  | v :: vs, o, w, ⟨cur, h1, h2⟩ => by
    rw [World.setCells]
    refine setCells_own g e C vs (o + 1) _ ⟨cur.setIfInBounds o v, ?_, by simpa using h2⟩
    simp [World.setCell, Array.getElem?_modify, h1]
theorem setCells_rest (g : Nat) : ∀ (vs : List Value) (o : Nat) (w : World), (w.setCells g o vs).os = w.os ∧ (w.setCells g o vs).tape = w.tape ∧ (w.setCells g o vs).output = w.output
  | [], o, w => ⟨rfl, rfl, rfl⟩
  | v :: vs, o, w => by rw [World.setCells]; exact setCells_rest g vs (o + 1) _

/-- In W block blk holds, from cell off on, the structs d; nothing but that block has turned since w0. -/
structure SB (enc : α → List Value) (k : Nat) (e : TypeId) (w0 : World) (blk off C : Nat) (d : Array α) (W : World) : Prop where
  hold : HoldsK enc k W blk off d
  own : ∃ cur : Array Value, W.heap[blk]? = some (.cells cur e (0, 0)) ∧ cur.size = C
  gr : w0.grownBy W (some blk)
theorem SB.lt (h : SB enc k e w0 blk off C d W) : blk < W.heap.size := by
  obtain ⟨cur, h1, -⟩ := h.own
  exact (Array.getElem?_eq_some_iff.1 h1).1
theorem SB.below (h : SB enc k e w0 blk off C d W) (hb : Go.RowKit.Below W.heap.size W W') : SB enc k e w0 blk off C d W' := by
  have hl := h.lt
  refine ⟨fun j hj => ?_, ?_, ?_⟩
  · obtain ⟨h1, h2⟩ := h.hold j hj
    exact ⟨(hb.cell (p := ⟨blk, off + j, none⟩) hl).trans h1, (hb.frozen (p := ⟨blk, off + j, none⟩) hl).trans h2⟩
  · rw [hb.block blk hl]; exact h.own
  · exact ⟨hb.os.trans h.gr.os, hb.tape.trans h.gr.tape, hb.output.trans h.gr.output, Nat.le_trans h.gr.size hb.size, fun j hj hne => (hb.block j (Nat.lt_of_lt_of_le hj h.gr.size)).trans (h.gr.block j hj hne)⟩
theorem SB.drew (h : SB enc k e w0 blk off C d W) : SB enc k e w0 blk off C d W.drew := h.below (Below.refl _ _).drew
theorem SB.load (h : SB enc k e w0 blk off C d W) (hk : ∀ x, (enc x).length = k) (P : Program) {i : Nat} (hi : i < d.size) :
    Sem.run P (loadCellsFrom ⟨blk, off + i * k, none⟩ 0 k #[]) W = .ok (enc d[i]!).toArray W :=
  run_loadCellsFrom_list P _ _ _ k (hk _) (HoldsK.cells h.hold hk hi)
theorem SB.st1 (h : SB enc k e w0 blk off C d W) (hk : ∀ x, (enc x).length = k) (h1 : ∀ x, ∀ v ∈ enc x, v.oneCell' = true) (P : Program) {i : Nat} (hi : i < d.size) (y : α) :
    Sem.run P (storeCells ⟨blk, off + i * k, none⟩ (enc y) 0) W = .ok () (W.setCells blk (off + i * k) (enc y)) :=
  stores_of_holds P h.hold (i * k) _ (by rw [hk, size_flatK]; exact rowK_bnd d k i hi) (h1 _)
theorem SB.st2 (h : SB enc k e w0 blk off C d W) (hk : ∀ x, (enc x).length = k) (h1 : ∀ x, ∀ v ∈ enc x, v.oneCell' = true) (P : Program) {i j : Nat} (hi : i < d.size) (hj : j < d.size) (y x : α) :
    Sem.run P (storeCells ⟨blk, off + j * k, none⟩ (enc x) 0) (W.setCells blk (off + i * k) (enc y)) = .ok () ((W.setCells blk (off + i * k) (enc y)).setCells blk (off + j * k) (enc x)) :=
  stores_of_holds P (holds_setCells_c h.hold (i * k) _ (by rw [hk, size_flatK]; exact rowK_bnd d k i hi)) (j * k) _ (by rw [hk, size_setMany, size_flatK]; exact rowK_bnd d k j hj) (h1 _)
theorem SB.swap (h : SB enc k e w0 blk off C d W) (hk : ∀ x, (enc x).length = k) {i j : Nat} (hi : i < d.size) (hj : j < d.size) :
    SB enc k e w0 blk off C (swp d i j) ((W.setCells blk (off + i * k) (enc d[j]!)).setCells blk (off + j * k) (enc d[i]!)) := by
  have hs := (SWK.start h.hold).swap hk h.lt i j hi hj
  obtain ⟨a1, a2, a3⟩ := setCells_rest blk (enc d[j]!) (off + i * k) W
  obtain ⟨b1, b2, b3⟩ := setCells_rest blk (enc d[i]!) (off + j * k) (W.setCells blk (off + i * k) (enc d[j]!))
  refine ⟨hs.holds h.lt h.hold (size_swp _ _ _), setCells_own _ _ _ _ _ _ (setCells_own _ _ _ _ _ _ h.own), ⟨by rw [b1, a1]; exact h.gr.os, by rw [b2, a2]; exact h.gr.tape, by rw [b3, a3]; exact h.gr.output, ?_, fun j' hj' hne => ?_⟩⟩
  · rw [setCells_size, setCells_size]; exact h.gr.size
  · have hne' : j' ≠ blk := fun e => hne (by rw [e])
    rw [setCells_block _ _ _ _ _ hne', setCells_block _ _ _ _ _ hne']
    exact h.gr.block j' hj' hne
end
/-- What the walks of a sorting function lean on: the types. -/
structure SFacts (P : Program) (S E F : TypeId) (k : Nat) : Prop where
  mixed : P.follows .mixedOrders = true
  t0 : P.underlying 0 = some (TypeDesc.tuple #[])
  a0 : ∀ w, (isAgg 0).run P w = .ok false w
  z0 : ∀ w, (Go.sizeOf 0).run P w = .ok 1 w
  ti : P.underlying 3 = some (TypeDesc.int IntKind.i64)
  ai : ∀ w, (isAgg 3).run P w = .ok false w
  zi : ∀ w, (Go.sizeOf 3).run P w = .ok 1 w
  vi : ∀ w, (zeroValue 3).run P w = .ok (Value.int IntKind.i64 0) w
  tb : P.underlying 4 = some TypeDesc.bool
  ab : ∀ w, (isAgg 4).run P w = .ok false w
  zb : ∀ w, (Go.sizeOf 4).run P w = .ok 1 w
  tu : P.underlying 98 = some (TypeDesc.int IntKind.u64)
  au : ∀ w, (isAgg 98).run P w = .ok false w
  zu : ∀ w, (Go.sizeOf 98).run P w = .ok 1 w
  tS : P.underlying S = some (TypeDesc.slice E)
  aS : ∀ w, (isAgg S).run P w = .ok false w
  zS : ∀ w, (Go.sizeOf S).run P w = .ok 1 w
  aE : ∀ w, (isAgg E).run P w = .ok true w
  zE : ∀ w, (Go.sizeOf E).run P w = .ok k w
  tF : P.underlying F = some (TypeDesc.func #[E, E] #[3] false)
  aF : ∀ w, (isAgg F).run P w = .ok false w
  zF : ∀ w, (Go.sizeOf F).run P w = .ok 1 w
end Go.Proofs.YtnblfaagchflaaaGreatDoor
/- oneEdit. -/
namespace Go.Proofs.YtnblfaagchflaaaGreatDoor
open Go.RowKit
set_option linter.unusedVariables false
set_option linter.unusedSimpArgs false

theorem isLive_is (a : Int) (b : Bool) (h : liveA a = b) (w : World) : Calls Tryz.prog 19 #[.int .i64 a] w fun e w' => e = .returned (.bool b) ∧ w = w' := by
  rw [← h]; exact isLive_any a w
theorem check_is (b : Int) (k l x : Bool) (v : Int) (h : errOf 90 (tyOk b k x) = v) (w : World) :
    Calls Tryz.prog 129 #[.agg #[.int .i64 b, .bool k, .bool l, .bool x]] w fun e w' => e = .returned (.int .i64 v) ∧ Below w.heap.size w w' := by
  rw [← h]; exact check_any b k l x w
theorem live_is (f : ByteArray → Option Rev) (p : ByteArray) (r : Rev) (b : Bool) (hr : lastR f p = r) (hb : isLast f p = b) (g : Nat) (dv dr ev rv : Value) (n : Int) (cl tx : ByteArray) (bl be bn : Nat) (w : World) (hk : Chk w g dv dr n cl tx ev rv bl be bn) (hL : LastMap w bl f) :
    Calls Tryz.prog 128 #[.pointer (some ⟨g, 0, none⟩), .string p] w
      fun e w' => e = .returned (.tuple #[.agg #[.string r.path, .int .i64 r.num, .int .i64 r.chg, .int .i64 r.act, .int .i64 r.ty.base, .bool r.ty.k, .bool r.ty.l, .bool r.ty.x, .int .u64 r.sum, .int .i64 r.size, .string r.frm, .int .i64 r.fnum], .bool b]) ∧ Below w.heap.size w w' := by
  rw [← hr, ← hb]; exact live_any f p g dv dr ev rv n cl tx bl be bn w hk hL
theorem empty_toList : emptyS.toList = [] := by rw [ByteArray.toList_eq]; rfl
theorem str_empty {s : ByteArray} (h : s = emptyS) : s.toList = [] := by subst h; exact empty_toList
theorem str_ne {s : ByteArray} (h : s ≠ emptyS) : ¬ s.toList = [] := by
  intro e
  apply h
  rw [← toList_inj, e, empty_toList]
theorem str_isE {s : ByteArray} (h : s ≠ emptyS) : s.toList.isEmpty = false := by
  have := str_ne h
  cases hs : s.toList with
  | nil => exact absurd hs this
  | cons a l => rfl
theorem str_eqB (a b : ByteArray) : (a.toList == b.toList) = decide (a = b) := by
  rw [Bool.eq_iff_iff, beq_iff_eq, decide_eq_true_eq, toList_inj]

/-- The five tests of an action. -/
structure Acts (a : Int) (b1 b2 b3 b4 b5 : Bool) : Prop where
  q1 : (a == 1) = b1
  q2 : (a == 2) = b2
  q3 : (a == 3) = b3
  q4 : (a == 4) = b4
  q5 : (a == 5) = b5
theorem acts_of (a : Int) : Acts a (decide (a = 1)) (decide (a = 2)) (decide (a = 3)) (decide (a = 4)) (decide (a = 5)) := by
  constructor <;> (rw [Bool.eq_iff_iff]; simp)

set_option maxRecDepth 100000 in
set_option maxHeartbeats 4000000 in
theorem oneEdit_no (f : ByteArray → Option Rev) (x : Edt) (g : Nat) (dv dr ev rv : Value) (n : Int) (cl tx : ByteArray) (bl be bn : Nat) (w : World) (hk : Chk w g dv dr n cl tx ev rv bl be bn) (hL : LastMap w bl f) (hA : actE f x ≠ 0) :
    Calls Tryz.prog 105 #[.pointer (some ⟨g, 0, none⟩), .agg #[.string x.path, .int .i64 x.act, .int .i64 x.ty.base, .bool x.ty.k, .bool x.ty.l, .bool x.ty.x, .int .u64 x.sum, .int .i64 x.size, .int .i64 x.base, .string x.frm, .int .i64 x.fnum, .int .i64 x.fence]] w
      fun e w' => e = .returned (.int .i64 113) ∧ Below w.heap.size w w' := by
  have hbW : Below w.heap.size w (w.alloc (.cells #[.string x.path, .int .i64 x.act, .int .i64 x.ty.base, .bool x.ty.k, .bool x.ty.l, .bool x.ty.x, .int .u64 x.sum, .int .i64 x.size, .int .i64 x.base, .string x.frm, .int .i64 x.fnum, .int .i64 x.fence] 55)) := (Below.refl _ _).alloc (Nat.le_refl _) _
  have HLV := Lib.hid (fun r b hr hb => live_is f x.path r b hr hb g dv dr ev rv n cl tx bl be bn (w.alloc (.cells #[.string x.path, .int .i64 x.act, .int .i64 x.ty.base, .bool x.ty.k, .bool x.ty.l, .bool x.ty.x, .int .u64 x.sum, .int .i64 x.size, .int .i64 x.base, .string x.frm, .int .i64 x.fnum, .int .i64 x.fence] 55)) (Blk.below hk hbW (Blk.lt hk)) (FMap.below hL hbW))
  have hX := blk_new w [.string x.path, .int .i64 x.act, .int .i64 x.ty.base, .bool x.ty.k, .bool x.ty.l, .bool x.ty.x, .int .u64 x.sum, .int .i64 x.size, .int .i64 x.base, .string x.frm, .int .i64 x.fnum, .int .i64 x.fence] 55
  have main : ∀ b1 b2 b3 b4 b5 b, Acts x.act b1 b2 b3 b4 b5 → isLast f x.path = b → ((b1 = true ∨ (b1 = false ∧ b4 = true)) ∧ b = true ∨ (b1 = false ∧ b4 = false ∧ (b2 = true ∨ b2 = false ∧ b3 = true ∨ b2 = false ∧ b3 = false ∧ b5 = true) ∧ b = false) ∨ (b1 = false ∧ b4 = false ∧ b2 = false ∧ b3 = false ∧ b5 = false)) →
      Calls Tryz.prog 105 #[.pointer (some ⟨g, 0, none⟩), .agg #[.string x.path, .int .i64 x.act, .int .i64 x.ty.base, .bool x.ty.k, .bool x.ty.l, .bool x.ty.x, .int .u64 x.sum, .int .i64 x.size, .int .i64 x.base, .string x.frm, .int .i64 x.fnum, .int .i64 x.fence]] w fun e w' => e = .returned (.int .i64 113) ∧ Below w.heap.size w w' := by
    intro b1 b2 b3 b4 b5 b hq hb hcase
    obtain ⟨q1, q2, q3, q4, q5⟩ := hq
    have HC := Lib.hid (HLV.out _ b rfl hb)
    clear hb HLV
    generalize lastR f x.path = r at HC
    rcases hcase with ⟨rfl | ⟨rfl, rfl⟩, rfl⟩ | ⟨rfl, rfl, rfl | ⟨rfl, rfl⟩ | ⟨rfl, rfl, rfl⟩, rfl⟩ | ⟨rfl, rfl, rfl, rfl, rfl⟩
    all_goals
      go_enter Tryz.func105, Tryz.ntmps105
      go_wp2_with fail
      refine HC.out.mono ?_
      rintro e w1 ⟨rfl, hb1⟩
      have hX1 := hX.below hb1 hX.lt
      have hbw1 : Below w.heap.size w w1 := below_next hbW hb1
      have hs1 := hX1.lt
      obtain ⟨c0, c1, c2, c3, c4, c5, c6, c7, c8, c9, c10, c11⟩ := box12 hX1
      clear hX1 hb1
      go_wp2_with fail
      go_ret
      exact ⟨rfl, hbw1.alloc hbw1.size _⟩
  refine main _ _ _ _ _ _ (acts_of x.act) rfl ?_
  unfold actE at hA
  by_cases h1 : x.act = 1 ∨ x.act = 4
  · rw [if_pos h1] at hA
    left
    refine ⟨by rcases h1 with h | h <;> simp [h], ?_⟩
    cases hh : isLast f x.path
    · rw [hh] at hA; simp at hA
    · rfl
  · rw [if_neg h1] at hA
    by_cases h2 : x.act = 2 ∨ x.act = 3 ∨ x.act = 5
    · rw [if_pos h2] at hA
      right; left
      refine ⟨by simp; omega, by simp; omega, by rcases h2 with h | h | h <;> simp [h], ?_⟩
      cases hh : isLast f x.path
      · rfl
      · rw [hh] at hA; simp at hA
    · right; right
      refine ⟨?_, ?_, ?_, ?_, ?_⟩ <;> (simp; omega)
end Go.Proofs.YtnblfaagchflaaaGreatDoor
