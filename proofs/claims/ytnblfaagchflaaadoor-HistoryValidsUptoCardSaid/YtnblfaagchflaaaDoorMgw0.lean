/- Words for a row of structs that is sorted in place: 'SB'; any program. -/
import Derived.Test.YtnblfaagchflaaaDoorSym
import Derived.Test.YtnblfaagchflaaaDoorCore
import Derived.Shelf.SlSortCmp.KitK
import Derived.Lib.QuietBelow
namespace Go.Proofs.YtnblfaagchflaaaDoor
open Go.RowKit Go.Lib
open Go.Sort hiding Below
set_option linter.unusedVariables false
set_option linter.unusedSimpArgs false
section
variable {P : Program} {α : Type} [Inhabited α] {enc : α → List Value} {k : Nat} {e : TypeId} {w0 W W' : World} {blk off C : Nat} {d : Array α}

theorem setCells_size (g : Nat) : ∀ (vs : List Value) (o : Nat) (w : World), (w.setCells g o vs).heap.size = w.heap.size
  | [], o, w => rfl
  | v :: vs, o, w => by rw [World.setCells, setCells_size g vs (o + 1)]; simp [World.setCell]
theorem setCells_block (g : Nat) : ∀ (vs : List Value) (o : Nat) (w : World) (j : Nat), j ≠ g → (w.setCells g o vs).heap[j]? = w.heap[j]?
  | [], o, w, j, h => rfl
  | v :: vs, o, w, j, h => by rw [World.setCells, setCells_block g vs (o + 1) _ j h]; exact Below.heap_setCell w _ _ _ h
theorem setCells_own (g : Nat) (e : TypeId) (C : Nat) : ∀ (vs : List Value) (o : Nat) (w : World), (∃ cur : Array Value, w.heap[g]? = some (.cells cur e (0, 0)) ∧ cur.size = C) → ∃ cur : Array Value, (w.setCells g o vs).heap[g]? = some (.cells cur e (0, 0)) ∧ cur.size = C
  | [], o, w, h => h
  | v :: vs, o, w, ⟨cur, h1, h2⟩ => by
    rw [World.setCells]
    refine setCells_own g e C vs (o + 1) _ ⟨cur.setIfInBounds o v, ?_, by simpa using h2⟩
    simp [World.setCell, Array.getElem?_modify, h1]
theorem setCells_rest (g : Nat) : ∀ (vs : List Value) (o : Nat) (w : World), (w.setCells g o vs).os = w.os ∧ (w.setCells g o vs).tape = w.tape ∧ (w.setCells g o vs).output = w.output
  | [], o, w => ⟨rfl, rfl, rfl⟩
  | v :: vs, o, w => by rw [World.setCells]; exact setCells_rest g vs (o + 1) _

/-- In W block blk holds, from cell off on, the structs d; nothing but that block has turned since w0. -/
structure SB (enc : α → List Value) (k : Nat) (e : TypeId) (w0 : World) (blk off C : Nat) (d : Array α) (W : World) : Prop where
  hold : HoldsK enc k W blk off d
  own : ∃ cur : Array Value, W.heap[blk]? = some (.cells cur e (0, 0)) ∧ cur.size = C
  gr : w0.grownBy W (some blk)
theorem SB.lt (h : SB enc k e w0 blk off C d W) : blk < W.heap.size := by
  obtain ⟨cur, h1, -⟩ := h.own
  exact (Array.getElem?_eq_some_iff.1 h1).1
theorem SB.below (h : SB enc k e w0 blk off C d W) (hb : Go.RowKit.Below W.heap.size W W') : SB enc k e w0 blk off C d W' := by
  have hl := h.lt
  refine ⟨fun j hj => ?_, ?_, ?_⟩
  · obtain ⟨h1, h2⟩ := h.hold j hj
    exact ⟨(hb.cell (p := ⟨blk, off + j, none⟩) hl).trans h1, (hb.frozen (p := ⟨blk, off + j, none⟩) hl).trans h2⟩
  · rw [hb.block blk hl]; exact h.own
  · exact ⟨hb.os.trans h.gr.os, hb.tape.trans h.gr.tape, hb.output.trans h.gr.output, Nat.le_trans h.gr.size hb.size, fun j hj hne => (hb.block j (Nat.lt_of_lt_of_le hj h.gr.size)).trans (h.gr.block j hj hne)⟩
theorem SB.drew (h : SB enc k e w0 blk off C d W) : SB enc k e w0 blk off C d W.drew := h.below (Below.refl _ _).drew
theorem SB.load (h : SB enc k e w0 blk off C d W) (hk : ∀ x, (enc x).length = k) (P : Program) {i : Nat} (hi : i < d.size) :
    Sem.run P (loadCellsFrom ⟨blk, off + i * k, none⟩ 0 k #[]) W = .ok (enc d[i]!).toArray W :=
  run_loadCellsFrom_list P _ _ _ k (hk _) (HoldsK.cells h.hold hk hi)
theorem SB.st1 (h : SB enc k e w0 blk off C d W) (hk : ∀ x, (enc x).length = k) (h1 : ∀ x, ∀ v ∈ enc x, v.oneCell' = true) (P : Program) {i : Nat} (hi : i < d.size) (y : α) :
    Sem.run P (storeCells ⟨blk, off + i * k, none⟩ (enc y) 0) W = .ok () (W.setCells blk (off + i * k) (enc y)) :=
  stores_of_holds P h.hold (i * k) _ (by rw [hk, size_flatK]; exact rowK_bnd d k i hi) (h1 _)
theorem SB.st2 (h : SB enc k e w0 blk off C d W) (hk : ∀ x, (enc x).length = k) (h1 : ∀ x, ∀ v ∈ enc x, v.oneCell' = true) (P : Program) {i j : Nat} (hi : i < d.size) (hj : j < d.size) (y x : α) :
    Sem.run P (storeCells ⟨blk, off + j * k, none⟩ (enc x) 0) (W.setCells blk (off + i * k) (enc y)) = .ok () ((W.setCells blk (off + i * k) (enc y)).setCells blk (off + j * k) (enc x)) :=
  stores_of_holds P (holds_setCells_c h.hold (i * k) _ (by rw [hk, size_flatK]; exact rowK_bnd d k i hi)) (j * k) _ (by rw [hk, size_setMany, size_flatK]; exact rowK_bnd d k j hj) (h1 _)
theorem SB.swap (h : SB enc k e w0 blk off C d W) (hk : ∀ x, (enc x).length = k) {i j : Nat} (hi : i < d.size) (hj : j < d.size) :
    SB enc k e w0 blk off C (swp d i j) ((W.setCells blk (off + i * k) (enc d[j]!)).setCells blk (off + j * k) (enc d[i]!)) := by
  have hs := (SWK.start h.hold).swap hk h.lt i j hi hj
  obtain ⟨a1, a2, a3⟩ := setCells_rest blk (enc d[j]!) (off + i * k) W
  obtain ⟨b1, b2, b3⟩ := setCells_rest blk (enc d[i]!) (off + j * k) (W.setCells blk (off + i * k) (enc d[j]!))
  refine ⟨hs.holds h.lt h.hold (size_swp _ _ _), setCells_own _ _ _ _ _ _ (setCells_own _ _ _ _ _ _ h.own), ⟨by rw [b1, a1]; exact h.gr.os, by rw [b2, a2]; exact h.gr.tape, by rw [b3, a3]; exact h.gr.output, ?_, fun j' hj' hne => ?_⟩⟩
  · rw [setCells_size, setCells_size]; exact h.gr.size
  · have hne' : j' ≠ blk := fun e => hne (by rw [e])
    rw [setCells_block _ _ _ _ _ hne', setCells_block _ _ _ _ _ hne']
    exact h.gr.block j' hj' hne
end
/-- What the walks of a sorting function lean on: the types. -/
structure SFacts (P : Program) (S E F : TypeId) (k : Nat) : Prop where
  mixed : P.follows .mixedOrders = true
  t0 : P.underlying 0 = some (TypeDesc.tuple #[])
  a0 : ∀ w, (isAgg 0).run P w = .ok false w
  z0 : ∀ w, (Go.sizeOf 0).run P w = .ok 1 w
  ti : P.underlying 3 = some (TypeDesc.int IntKind.i64)
  ai : ∀ w, (isAgg 3).run P w = .ok false w
  zi : ∀ w, (Go.sizeOf 3).run P w = .ok 1 w
  vi : ∀ w, (zeroValue 3).run P w = .ok (Value.int IntKind.i64 0) w
  tb : P.underlying 4 = some TypeDesc.bool
  ab : ∀ w, (isAgg 4).run P w = .ok false w
  zb : ∀ w, (Go.sizeOf 4).run P w = .ok 1 w
  tu : P.underlying 116 = some (TypeDesc.int IntKind.u64)
  au : ∀ w, (isAgg 116).run P w = .ok false w
  zu : ∀ w, (Go.sizeOf 116).run P w = .ok 1 w
  tS : P.underlying S = some (TypeDesc.slice E)
  aS : ∀ w, (isAgg S).run P w = .ok false w
  zS : ∀ w, (Go.sizeOf S).run P w = .ok 1 w
  aE : ∀ w, (isAgg E).run P w = .ok true w
  zE : ∀ w, (Go.sizeOf E).run P w = .ok k w
  tF : P.underlying F = some (TypeDesc.func #[E, E] #[3] false)
  aF : ∀ w, (isAgg F).run P w = .ok false w
  zF : ∀ w, (Go.sizeOf F).run P w = .ok 1 w
end Go.Proofs.YtnblfaagchflaaaDoor
/- The exchange of two ranges of structs: slices.swapRangeCmpFunc at records. -/
namespace Go.Proofs.YtnblfaagchflaaaDoor
open Go.RowKit Go.Lib
open Go.Sort hiding Below
set_option linter.unusedVariables false
set_option linter.unusedSimpArgs false
variable {P : Program} {α : Type} [Inhabited α]

set_option maxHeartbeats 4000000 in
set_option maxRecDepth 100000 in
theorem swapRange_rcd {k : Nat} (L : SFacts P 23 50 67 k) (F : P.funcs[74]? = some Tryd.f74)
    (enc : α → List Value) (hk : ∀ x, (enc x).length = k) (h1 : ∀ x, ∀ v ∈ enc x, v.oneCell' = true) (w0 W : World) (blk off C cap a b n : Nat) (d : Array α) (cv : Value) (h : SB enc k 50 w0 blk off C d W)
    (hab : a + n ≤ b) (hbn : b + n ≤ d.size) (hsz : d.size < 4611686018427387904) :
    Calls P 74 #[.slice (some ⟨blk, off, none⟩) d.size cap, .int .i64 a, .int .i64 b, .int .i64 n, cv] W fun e w' => e = .returned (.tuple #[]) ∧ SB enc k 50 w0 blk off C (swpR d a b n) w' := by
  have mixed := L.mixed; have t0 := L.t0; have a0 := L.a0; have z0 := L.z0; have ti := L.ti; have ai := L.ai; have zi := L.zi; have vi := L.vi; have tb := L.tb; have ab := L.ab; have zb := L.zb; have tS := L.tS; have aS := L.aS; have zS := L.zS; have aE := L.aE; have zE := L.zE; have tF := L.tF; have aF := L.aF; have zF := L.zF
  have HS := Lib.hid h
  have HK := Lib.hid hk
  have H1 := Lib.hid h1
  clear h hk h1
  go_enter F, Tryd.ntmps74
  go_wp2
  go_loopw [10] (fun s wr => ∃ i : Nat, s = .int .i64 i ∧ i ≤ n ∧ Hid (SB enc k 50 w0 blk off C (swpR d a b i) wr)) (fun s _ => n - (intOf s).toNat)
  case atStart => exact ⟨0, rfl, Nat.zero_le _, HS.out⟩
  case round =>
    obtain ⟨i, rfl, hi, HB⟩ := hrel
    by_cases hlt : i < n
    · have hltz : (i : Int) < (n : Int) := by omega
      have hds : (swpR d a b i).size = d.size := swpR_size d a b i
      have wa : IntKind.i64.wrap ((a : Int) + (i : Int)) = ((a + i : Nat) : Int) := by rw [IntKind.wrap_i64]; omega
      have wb : IntKind.i64.wrap ((b : Int) + (i : Int)) = ((b + i : Nat) : Int) := by rw [IntKind.wrap_i64]; omega
      have za : ((a + i : Nat) : Int) < (d.size : Int) := by omega
      have zb' : ((b + i : Nat) : Int) < (d.size : Int) := by omega
      have hB2 := HB.out.drew
      have la := hB2.load HK.out P (i := a + i) (by omega)
      have lb := hB2.load HK.out P (i := b + i) (by omega)
      have s1 := hB2.st1 HK.out H1.out P (i := a + i) (by omega) ((swpR d a b i)[b + i]!)
      have s2 := hB2.st2 HK.out H1.out P (i := a + i) (j := b + i) (by omega) (by omega) ((swpR d a b i)[b + i]!) ((swpR d a b i)[a + i]!)
      have HN : Hid _ := hB2.swap HK.out (i := a + i) (j := b + i) (by omega) (by omega)
      have q1 : (enc (swpR d a b i)[a + i]!).length = k := HK.out _
      have q2 : (enc (swpR d a b i)[b + i]!).length = k := HK.out _
      clear hB2
      generalize enc (swpR d a b i)[a + i]! = ca at la lb s1 s2 HN q1 q2
      generalize enc (swpR d a b i)[b + i]! = cb at la lb s1 s2 HN q1 q2
      go_wp2_with fail
      go_big_region_o
      all_goals go_wp2
      go_roundw
      case rel => exact ⟨i + 1, by go_num, by omega, HN.out⟩
      case measure => simp [intOf]; omega
    · have hin : i = n := by omega
      subst hin
      go_wp2
      go_end0
      exact ⟨rfl, HB.out⟩
end Go.Proofs.YtnblfaagchflaaaDoor
/- Small laws on memory. -/
namespace Go.Proofs.YtnblfaagchflaaaDoor
open Go.RowKit

theorem own_below {w w' : World} {B : Nat} {e : TypeId} {k : Nat} {v : Value} {n : Nat} {xs : List Value} (h : w.ownsRow B e k v n xs) (hb : Below w.heap.size w w') : w'.ownsRow B e k v n xs := by
  refine ⟨h.1, ?_⟩
  rcases h.2 with ⟨e1, e2⟩ | ⟨g, cap, cur, e1, h1, hg, rest⟩
  · exact .inl ⟨e1, e2⟩
  · exact .inr ⟨g, cap, cur, e1, h1, (hb.block g (Array.getElem?_eq_some_iff.1 hg).1).trans hg, rest⟩
theorem own_slice {w : World} {B : Nat} {e : TypeId} {k : Nat} {v : Value} {n : Nat} {xs : List Value} (h : w.ownsRow B e k v n xs) : ∃ A c, v = .slice A n c := by
  rcases h.2 with ⟨e1, e2⟩ | ⟨g, cap, cur, e1, _⟩
  · exact ⟨none, 0, by rw [e1, e2]⟩
  · exact ⟨_, cap, e1⟩
theorem below_dN {B : Nat} {a w : World} (h : Below B a w) (n : Nat) : Below B a (w.drewN n) := ⟨h.os, h.tape, h.output, h.size, h.block⟩
theorem below_step {B : Nat} {a w w' : World} (h : Below B a w) (hB : B ≤ w.heap.size) (h2 : Below w.heap.size w w') : Below B a w' := h.trans (h2.mono hB)
theorem below_next {w w1 w2 : World} (h1 : Below w.heap.size w w1) (h2 : Below w1.heap.size w1 w2) : Below w.heap.size w w2 := h1.trans (h2.mono h1.size)

/-- A block of four cells: what the walk asks of it. -/
theorem box4 {w : World} {g : Nat} {e : TypeId} {a b c d : Value} (h : Blk w g e [a, b, c, d]) :
    w.cell? ⟨g, 0, none⟩ = some a ∧ w.cell? ⟨g, 1, none⟩ = some b ∧ w.cell? ⟨g, 2, none⟩ = some c ∧ w.cell? ⟨g, 3, none⟩ = some d ∧
    w.frozen? ⟨g, 0, none⟩ = false ∧ w.frozen? ⟨g, 1, none⟩ = false ∧ w.frozen? ⟨g, 2, none⟩ = false ∧ w.frozen? ⟨g, 3, none⟩ = false :=
  ⟨h.cell 0, h.cell 1, h.cell 2, h.cell 3, h.frozen 0, h.frozen 1, h.frozen 2, h.frozen 3⟩
theorem own_some {w : World} {B : Nat} {e : TypeId} {k : Nat} {v : Value} {n : Nat} {xs : List Value} (h : w.ownsRow B e k v n xs) (hn : 0 < n) : ∃ g c, v = .slice (some ⟨g, 0, none⟩) n c := by
  rcases h.2 with ⟨e1, e2⟩ | ⟨g, cap, cur, e1, _⟩
  · omega
  · exact ⟨_, cap, e1⟩
theorem box_store {w : World} {g : Nat} {e : TypeId} {a b c d : Value} (h : Blk w g e [a, b, c, d]) (x0 x1 x2 x3 : Value) :
    Blk ((((w.setCell ⟨g, 0, none⟩ x0).setCell ⟨g, 1, none⟩ x1).setCell ⟨g, 2, none⟩ x2).setCell ⟨g, 3, none⟩ x3) g e [x0, x1, x2, x3] := (((h.set_ 0 _).set_ 1 _).set_ 2 _).set_ 3 _
theorem below_store {w0 w : World} {B g : Nat} (h : Below B w0 w) (hg : B ≤ g) (x0 x1 x2 x3 : Value) :
    Below B w0 ((((w.setCell ⟨g, 0, none⟩ x0).setCell ⟨g, 1, none⟩ x1).setCell ⟨g, 2, none⟩ x2).setCell ⟨g, 3, none⟩ x3) := (((h.setCell hg _).setCell hg _).setCell hg _).setCell hg _
end Go.Proofs.YtnblfaagchflaaaDoor
