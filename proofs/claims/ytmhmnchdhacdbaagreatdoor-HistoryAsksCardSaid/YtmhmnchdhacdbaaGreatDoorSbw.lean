/- Words for a row of structs that is sorted in place: 'SB'; any program. -/
import Derived.Test.YtmhmnchdhacdbaaGreatDoorSym
import Derived.Shelf.SlSortCmp.KitK
import Derived.Lib.QuietBelow
namespace Go.Proofs.YtmhmnchdhacdbaaGreatDoor
open Go.RowKit Go.Lib
open Go.Sort hiding Below
set_option linter.unusedVariables false
set_option linter.unusedSimpArgs false
section
variable {P : Program} {α : Type} [Inhabited α] {enc : α → List Value} {k : Nat} {e : TypeId} {w0 W W' : World} {blk off C : Nat} {d : Array α}

theorem setCells_size (g : Nat) : ∀ (vs : List Value) (o : Nat) (w : World), (w.setCells g o vs).heap.size = w.heap.size
  | [], o, w => rfl
  | v :: vs, o, w => by rw [World.setCells, setCells_size g vs (o + 1)]; simp [World.setCell]
theorem setCells_block (g : Nat) : ∀ (vs : List Value) (o : Nat) (w : World) (j : Nat), j ≠ g → (w.setCells g o vs).heap[j]? = w.heap[j]?
  | [], o, w, j, h => rfl
  | v :: vs, o, w, j, h => by rw [World.setCells, setCells_block g vs (o + 1) _ j h]; exact Below.heap_setCell w _ _ _ h
theorem setCells_own (g : Nat) (e : TypeId) (C : Nat) : ∀ (vs : List Value) (o : Nat) (w : World), (∃ cur : Array Value, w.heap[g]? = some (.cells cur e (0, 0)) ∧ cur.size = C) → ∃ cur : Array Value, (w.setCells g o vs).heap[g]? = some (.cells cur e (0, 0)) ∧ cur.size = C
  | [], o, w, h => h
  | v :: vs, o, w, ⟨cur, h1, h2⟩ => by
    rw [World.setCells]
    refine setCells_own g e C vs (o + 1) _ ⟨cur.setIfInBounds o v, ?_, by simpa using h2⟩
    simp [World.setCell, Array.getElem?_modify, h1]
theorem setCells_rest (g : Nat) : ∀ (vs : List Value) (o : Nat) (w : World), (w.setCells g o vs).os = w.os ∧ (w.setCells g o vs).tape = w.tape ∧ (w.setCells g o vs).output = w.output
  | [], o, w => ⟨rfl, rfl, rfl⟩
  | v :: vs, o, w => by rw [World.setCells]; exact setCells_rest g vs (o + 1) _

/-- In W block blk holds, from cell off on, the structs d; nothing but that block has turned since w0. -/
structure SB (enc : α → List Value) (k : Nat) (e : TypeId) (w0 : World) (blk off C : Nat) (d : Array α) (W : World) : Prop where
  hold : HoldsK enc k W blk off d
  own : ∃ cur : Array Value, W.heap[blk]? = some (.cells cur e (0, 0)) ∧ cur.size = C
  gr : w0.grownBy W (some blk)
theorem SB.lt (h : SB enc k e w0 blk off C d W) : blk < W.heap.size := by
  obtain ⟨cur, h1, -⟩ := h.own
  exact (Array.getElem?_eq_some_iff.1 h1).1
theorem SB.below (h : SB enc k e w0 blk off C d W) (hb : Go.RowKit.Below W.heap.size W W') : SB enc k e w0 blk off C d W' := by
  have hl := h.lt
  refine ⟨fun j hj => ?_, ?_, ?_⟩
  · obtain ⟨h1, h2⟩ := h.hold j hj
    exact ⟨(hb.cell (p := ⟨blk, off + j, none⟩) hl).trans h1, (hb.frozen (p := ⟨blk, off + j, none⟩) hl).trans h2⟩
  · rw [hb.block blk hl]; exact h.own
  · exact ⟨hb.os.trans h.gr.os, hb.tape.trans h.gr.tape, hb.output.trans h.gr.output, Nat.le_trans h.gr.size hb.size, fun j hj hne => (hb.block j (Nat.lt_of_lt_of_le hj h.gr.size)).trans (h.gr.block j hj hne)⟩
theorem SB.drew (h : SB enc k e w0 blk off C d W) : SB enc k e w0 blk off C d W.drew := h.below (Below.refl _ _).drew
theorem SB.load (h : SB enc k e w0 blk off C d W) (hk : ∀ x, (enc x).length = k) (P : Program) {i : Nat} (hi : i < d.size) :
    Sem.run P (loadCellsFrom ⟨blk, off + i * k, none⟩ 0 k #[]) W = .ok (enc d[i]!).toArray W :=
  run_loadCellsFrom_list P _ _ _ k (hk _) (HoldsK.cells h.hold hk hi)
theorem SB.st1 (h : SB enc k e w0 blk off C d W) (hk : ∀ x, (enc x).length = k) (h1 : ∀ x, ∀ v ∈ enc x, v.oneCell' = true) (P : Program) {i : Nat} (hi : i < d.size) (y : α) :
    Sem.run P (storeCells ⟨blk, off + i * k, none⟩ (enc y) 0) W = .ok () (W.setCells blk (off + i * k) (enc y)) :=
  stores_of_holds P h.hold (i * k) _ (by rw [hk, size_flatK]; exact rowK_bnd d k i hi) (h1 _)
theorem SB.st2 (h : SB enc k e w0 blk off C d W) (hk : ∀ x, (enc x).length = k) (h1 : ∀ x, ∀ v ∈ enc x, v.oneCell' = true) (P : Program) {i j : Nat} (hi : i < d.size) (hj : j < d.size) (y x : α) :
    Sem.run P (storeCells ⟨blk, off + j * k, none⟩ (enc x) 0) (W.setCells blk (off + i * k) (enc y)) = .ok () ((W.setCells blk (off + i * k) (enc y)).setCells blk (off + j * k) (enc x)) :=
  stores_of_holds P (holds_setCells_c h.hold (i * k) _ (by rw [hk, size_flatK]; exact rowK_bnd d k i hi)) (j * k) _ (by rw [hk, size_setMany, size_flatK]; exact rowK_bnd d k j hj) (h1 _)
theorem SB.swap (h : SB enc k e w0 blk off C d W) (hk : ∀ x, (enc x).length = k) {i j : Nat} (hi : i < d.size) (hj : j < d.size) :
    SB enc k e w0 blk off C (swp d i j) ((W.setCells blk (off + i * k) (enc d[j]!)).setCells blk (off + j * k) (enc d[i]!)) := by
  have hs := (SWK.start h.hold).swap hk h.lt i j hi hj
  obtain ⟨a1, a2, a3⟩ := setCells_rest blk (enc d[j]!) (off + i * k) W
  obtain ⟨b1, b2, b3⟩ := setCells_rest blk (enc d[i]!) (off + j * k) (W.setCells blk (off + i * k) (enc d[j]!))
  refine ⟨hs.holds h.lt h.hold (size_swp _ _ _), setCells_own _ _ _ _ _ _ (setCells_own _ _ _ _ _ _ h.own), ⟨by rw [b1, a1]; exact h.gr.os, by rw [b2, a2]; exact h.gr.tape, by rw [b3, a3]; exact h.gr.output, ?_, fun j' hj' hne => ?_⟩⟩
  · rw [setCells_size, setCells_size]; exact h.gr.size
  · have hne' : j' ≠ blk := fun e => hne (by rw [e])
    rw [setCells_block _ _ _ _ _ hne', setCells_block _ _ _ _ _ hne']
    exact h.gr.block j' hj' hne
end
/-- What the walks of a sorting function lean on: the types. -/
structure SFacts (P : Program) (S E F : TypeId) (k : Nat) : Prop where
  mixed : P.follows .mixedOrders = true
  t0 : P.underlying 0 = some (TypeDesc.tuple #[])
  a0 : ∀ w, (isAgg 0).run P w = .ok false w
  z0 : ∀ w, (Go.sizeOf 0).run P w = .ok 1 w
  ti : P.underlying 3 = some (TypeDesc.int IntKind.i64)
  ai : ∀ w, (isAgg 3).run P w = .ok false w
  zi : ∀ w, (Go.sizeOf 3).run P w = .ok 1 w
  vi : ∀ w, (zeroValue 3).run P w = .ok (Value.int IntKind.i64 0) w
  tb : P.underlying 4 = some TypeDesc.bool
  ab : ∀ w, (isAgg 4).run P w = .ok false w
  zb : ∀ w, (Go.sizeOf 4).run P w = .ok 1 w
  tu : P.underlying 104 = some (TypeDesc.int IntKind.u64)
  au : ∀ w, (isAgg 104).run P w = .ok false w
  zu : ∀ w, (Go.sizeOf 104).run P w = .ok 1 w
  tS : P.underlying S = some (TypeDesc.slice E)
  aS : ∀ w, (isAgg S).run P w = .ok false w
  zS : ∀ w, (Go.sizeOf S).run P w = .ok 1 w
  aE : ∀ w, (isAgg E).run P w = .ok true w
  zE : ∀ w, (Go.sizeOf E).run P w = .ok k w
  tF : P.underlying F = some (TypeDesc.func #[E, E] #[3] false)
  aF : ∀ w, (isAgg F).run P w = .ok false w
  zF : ∀ w, (Go.sizeOf F).run P w = .ok 1 w
end Go.Proofs.YtmhmnchdhacdbaaGreatDoor
