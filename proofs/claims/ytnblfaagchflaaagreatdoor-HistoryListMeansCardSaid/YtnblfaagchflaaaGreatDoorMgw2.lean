/- Words for a row of structs that is sorted in place: 'SB'; any program. -/
import Derived.Test.YtnblfaagchflaaaGreatDoorSym
import Derived.Test.YtnblfaagchflaaaGreatDoorMgw1
import Derived.Shelf.SlSortCmp.KitK
import Derived.Lib.QuietBelow
namespace Go.Proofs.YtnblfaagchflaaaGreatDoor
open Go.RowKit Go.Lib
open Go.Sort hiding Below
set_option linter.unusedVariables false
set_option linter.unusedSimpArgs false
section
variable {P : Program} {α : Type} [Inhabited α] {enc : α → List Value} {k : Nat} {e : TypeId} {w0 W W' : World} {blk off C : Nat} {d : Array α}

theorem setCells_size (g : Nat) : ∀ (vs : List Value) (o : Nat) (w : World), (w.setCells g o vs).heap.size = w.heap.size
  | [], o, w => rfl
  | v :: vs, o, w => by rw [World.setCells, setCells_size g vs (o + 1)]; simp [World.setCell]
theorem setCells_block (g : Nat) : ∀ (vs : List Value) (o : Nat) (w : World) (j : Nat), j ≠ g → (w.setCells g o vs).heap[j]? = w.heap[j]?
  | [], o, w, j, h => rfl
  | v :: vs, o, w, j, h => by rw [World.setCells, setCells_block g vs (o + 1) _ j h]; exact Below.heap_setCell w _ _ _ h
theorem setCells_own (g : Nat) (e : TypeId) (C : Nat) : ∀ (vs : List Value) (o : Nat) (w : World), (∃ cur : Array Value, w.heap[g]? = some (.cells cur e (0, 0)) ∧ cur.size = C) → ∃ cur : Array Value, (w.setCells g o vs).heap[g]? = some (.cells cur e (0, 0)) ∧ cur.size = C
  | [], o, w, h => h
  | v :: vs, o, w, ⟨cur, h1, h2⟩ => by
    rw [World.setCells]
    refine setCells_own g e C vs (o + 1) _ ⟨cur.setIfInBounds o v, ?_, by simpa using h2⟩
    simp [World.setCell, Array.getElem?_modify, h1]
theorem setCells_rest (g : Nat) : ∀ (vs : List Value) (o : Nat) (w : World), (w.setCells g o vs).os = w.os ∧ (w.setCells g o vs).tape = w.tape ∧ (w.setCells g o vs).output = w.output
  | [], o, w => ⟨rfl, rfl, rfl⟩
  | v :: vs, o, w => by rw [World.setCells]; exact setCells_rest g vs (o + 1) _

/-- In W block blk holds, from cell off on, the structs d; nothing but that block has turned since w0. -/
structure SB (enc : α → List Value) (k : Nat) (e : TypeId) (w0 : World) (blk off C : Nat) (d : Array α) (W : World) : Prop where
  hold : HoldsK enc k W blk off d
  own : ∃ cur : Array Value, W.heap[blk]? = some (.cells cur e (0, 0)) ∧ cur.size = C
  gr : w0.grownBy W (some blk)
theorem SB.lt (h : SB enc k e w0 blk off C d W) : blk < W.heap.size := by
  obtain ⟨cur, h1, -⟩ := h.own
  exact (Array.getElem?_eq_some_iff.1 h1).1
theorem SB.below (h : SB enc k e w0 blk off C d W) (hb : Go.RowKit.Below W.heap.size W W') : SB enc k e w0 blk off C d W' := by
  have hl := h.lt
  refine ⟨fun j hj => ?_, ?_, ?_⟩
  · obtain ⟨h1, h2⟩ := h.hold j hj
    exact ⟨(hb.cell (p := ⟨blk, off + j, none⟩) hl).trans h1, (hb.frozen (p := ⟨blk, off + j, none⟩) hl).trans h2⟩
  · rw [hb.block blk hl]; exact h.own
  · exact ⟨hb.os.trans h.gr.os, hb.tape.trans h.gr.tape, hb.output.trans h.gr.output, Nat.le_trans h.gr.size hb.size, fun j hj hne => (hb.block j (Nat.lt_of_lt_of_le hj h.gr.size)).trans (h.gr.block j hj hne)⟩
theorem SB.drew (h : SB enc k e w0 blk off C d W) : SB enc k e w0 blk off C d W.drew := h.below (Below.refl _ _).drew
theorem SB.load (h : SB enc k e w0 blk off C d W) (hk : ∀ x, (enc x).length = k) (P : Program) {i : Nat} (hi : i < d.size) :
    Sem.run P (loadCellsFrom ⟨blk, off + i * k, none⟩ 0 k #[]) W = .ok (enc d[i]!).toArray W :=
  run_loadCellsFrom_list P _ _ _ k (hk _) (HoldsK.cells h.hold hk hi)
theorem SB.st1 (h : SB enc k e w0 blk off C d W) (hk : ∀ x, (enc x).length = k) (h1 : ∀ x, ∀ v ∈ enc x, v.oneCell' = true) (P : Program) {i : Nat} (hi : i < d.size) (y : α) :
    Sem.run P (storeCells ⟨blk, off + i * k, none⟩ (enc y) 0) W = .ok () (W.setCells blk (off + i * k) (enc y)) :=
  stores_of_holds P h.hold (i * k) _ (by rw [hk, size_flatK]; exact rowK_bnd d k i hi) (h1 _)
theorem SB.st2 (h : SB enc k e w0 blk off C d W) (hk : ∀ x, (enc x).length = k) (h1 : ∀ x, ∀ v ∈ enc x, v.oneCell' = true) (P : Program) {i j : Nat} (hi : i < d.size) (hj : j < d.size) (y x : α) :
    Sem.run P (storeCells ⟨blk, off + j * k, none⟩ (enc x) 0) (W.setCells blk (off + i * k) (enc y)) = .ok () ((W.setCells blk (off + i * k) (enc y)).setCells blk (off + j * k) (enc x)) :=
  stores_of_holds P (holds_setCells_c h.hold (i * k) _ (by rw [hk, size_flatK]; exact rowK_bnd d k i hi)) (j * k) _ (by rw [hk, size_setMany, size_flatK]; exact rowK_bnd d k j hj) (h1 _)
theorem SB.swap (h : SB enc k e w0 blk off C d W) (hk : ∀ x, (enc x).length = k) {i j : Nat} (hi : i < d.size) (hj : j < d.size) :
    SB enc k e w0 blk off C (swp d i j) ((W.setCells blk (off + i * k) (enc d[j]!)).setCells blk (off + j * k) (enc d[i]!)) := by
  have hs := (SWK.start h.hold).swap hk h.lt i j hi hj
  obtain ⟨a1, a2, a3⟩ := setCells_rest blk (enc d[j]!) (off + i * k) W
  obtain ⟨b1, b2, b3⟩ := setCells_rest blk (enc d[i]!) (off + j * k) (W.setCells blk (off + i * k) (enc d[j]!))
  refine ⟨hs.holds h.lt h.hold (size_swp _ _ _), setCells_own _ _ _ _ _ _ (setCells_own _ _ _ _ _ _ h.own), ⟨by rw [b1, a1]; exact h.gr.os, by rw [b2, a2]; exact h.gr.tape, by rw [b3, a3]; exact h.gr.output, ?_, fun j' hj' hne => ?_⟩⟩
  · rw [setCells_size, setCells_size]; exact h.gr.size
  · have hne' : j' ≠ blk := fun e => hne (by rw [e])
    rw [setCells_block _ _ _ _ _ hne', setCells_block _ _ _ _ _ hne']
    exact h.gr.block j' hj' hne
end
/-- What the walks of a sorting function lean on: the types. -/
structure SFacts (P : Program) (S E F : TypeId) (k : Nat) : Prop where
  mixed : P.follows .mixedOrders = true
  t0 : P.underlying 0 = some (TypeDesc.tuple #[])
  a0 : ∀ w, (isAgg 0).run P w = .ok false w
  z0 : ∀ w, (Go.sizeOf 0).run P w = .ok 1 w
  ti : P.underlying 3 = some (TypeDesc.int IntKind.i64)
  ai : ∀ w, (isAgg 3).run P w = .ok false w
  zi : ∀ w, (Go.sizeOf 3).run P w = .ok 1 w
  vi : ∀ w, (zeroValue 3).run P w = .ok (Value.int IntKind.i64 0) w
  tb : P.underlying 4 = some TypeDesc.bool
  ab : ∀ w, (isAgg 4).run P w = .ok false w
  zb : ∀ w, (Go.sizeOf 4).run P w = .ok 1 w
  tu : P.underlying 98 = some (TypeDesc.int IntKind.u64)
  au : ∀ w, (isAgg 98).run P w = .ok false w
  zu : ∀ w, (Go.sizeOf 98).run P w = .ok 1 w
  tS : P.underlying S = some (TypeDesc.slice E)
  aS : ∀ w, (isAgg S).run P w = .ok false w
  zS : ∀ w, (Go.sizeOf S).run P w = .ok 1 w
  aE : ∀ w, (isAgg E).run P w = .ok true w
  zE : ∀ w, (Go.sizeOf E).run P w = .ok k w
  tF : P.underlying F = some (TypeDesc.func #[E, E] #[3] false)
  aF : ∀ w, (isAgg F).run P w = .ok false w
  zF : ∀ w, (Go.sizeOf F).run P w = .ok 1 w
end Go.Proofs.YtnblfaagchflaaaGreatDoor
/- The exchange of two ranges of structs: slices.swapRangeCmpFunc at records. -/
namespace Go.Proofs.YtnblfaagchflaaaGreatDoor
open Go.RowKit Go.Lib
open Go.Sort hiding Below
set_option linter.unusedVariables false
set_option linter.unusedSimpArgs false
variable {P : Program} {α : Type} [Inhabited α]

set_option maxHeartbeats 4000000 in
set_option maxRecDepth 100000 in
theorem swapRange_rcd {k : Nat} (L : SFacts P 29 57 87 k) (F : P.funcs[138]? = some Tryz.f138)
    (enc : α → List Value) (hk : ∀ x, (enc x).length = k) (h1 : ∀ x, ∀ v ∈ enc x, v.oneCell' = true) (w0 W : World) (blk off C cap a b n : Nat) (d : Array α) (cv : Value) (h : SB enc k 57 w0 blk off C d W)
    (hab : a + n ≤ b) (hbn : b + n ≤ d.size) (hsz : d.size < 4611686018427387904) :
    Calls P 138 #[.slice (some ⟨blk, off, none⟩) d.size cap, .int .i64 a, .int .i64 b, .int .i64 n, cv] W fun e w' => e = .returned (.tuple #[]) ∧ SB enc k 57 w0 blk off C (swpR d a b n) w' := by
  have mixed := L.mixed; have t0 := L.t0; have a0 := L.a0; have z0 := L.z0; have ti := L.ti; have ai := L.ai; have zi := L.zi; have vi := L.vi; have tb := L.tb; have ab := L.ab; have zb := L.zb; have tS := L.tS; have aS := L.aS; have zS := L.zS; have aE := L.aE; have zE := L.zE; have tF := L.tF; have aF := L.aF; have zF := L.zF
  have HS := Lib.hid h
  have HK := Lib.hid hk
  have H1 := Lib.hid h1
  clear h hk h1
  go_enter F, Tryz.ntmps138
  go_wp2
  go_loopw [10] (fun s wr => ∃ i : Nat, s = .int .i64 i ∧ i ≤ n ∧ Hid (SB enc k 57 w0 blk off C (swpR d a b i) wr)) (fun s _ => n - (intOf s).toNat)
  case atStart => exact ⟨0, rfl, Nat.zero_le _, HS.out⟩
  case round =>
    obtain ⟨i, rfl, hi, HB⟩ := hrel
    by_cases hlt : i < n
    · have hltz : (i : Int) < (n : Int) := by omega
      have hds : (swpR d a b i).size = d.size := swpR_size d a b i
      have wa : IntKind.i64.wrap ((a : Int) + (i : Int)) = ((a + i : Nat) : Int) := by rw [IntKind.wrap_i64]; omega
      have wb : IntKind.i64.wrap ((b : Int) + (i : Int)) = ((b + i : Nat) : Int) := by rw [IntKind.wrap_i64]; omega
      have za : ((a + i : Nat) : Int) < (d.size : Int) := by omega
      have zb' : ((b + i : Nat) : Int) < (d.size : Int) := by omega
      have hB2 := HB.out.drew
      have la := hB2.load HK.out P (i := a + i) (by omega)
      have lb := hB2.load HK.out P (i := b + i) (by omega)
      have s1 := hB2.st1 HK.out H1.out P (i := a + i) (by omega) ((swpR d a b i)[b + i]!)
      have s2 := hB2.st2 HK.out H1.out P (i := a + i) (j := b + i) (by omega) (by omega) ((swpR d a b i)[b + i]!) ((swpR d a b i)[a + i]!)
      have HN : Hid _ := hB2.swap HK.out (i := a + i) (j := b + i) (by omega) (by omega)
      have q1 : (enc (swpR d a b i)[a + i]!).length = k := HK.out _
      have q2 : (enc (swpR d a b i)[b + i]!).length = k := HK.out _
      clear hB2
      generalize enc (swpR d a b i)[a + i]! = ca at la lb s1 s2 HN q1 q2
      generalize enc (swpR d a b i)[b + i]! = cb at la lb s1 s2 HN q1 q2
      go_wp2_with fail
      go_big_region_o
      all_goals go_wp2
      go_roundw
      case rel => exact ⟨i + 1, by go_num, by omega, HN.out⟩
      case measure => simp [intOf]; omega
    · have hin : i = n := by omega
      subst hin
      go_wp2
      go_end0
      exact ⟨rfl, HB.out⟩
end Go.Proofs.YtnblfaagchflaaaGreatDoor
/- Two neighbouring ranges of structs exchanged: slices.rotateCmpFunc at records. -/
namespace Go.Proofs.YtnblfaagchflaaaGreatDoor
open Go.RowKit Go.Lib
open Go.Sort hiding Below
set_option linter.unusedVariables false
set_option linter.unusedSimpArgs false
variable {P : Program} {α : Type} [Inhabited α]

set_option maxHeartbeats 4000000 in
set_option maxRecDepth 100000 in
theorem rotate_rcd {k : Nat} (L : SFacts P 29 57 87 k) (F : P.funcs[138]? = some Tryz.f138)
    (F2 : P.funcs[131]? = some Tryz.f131)
    (enc : α → List Value) (hk : ∀ x, (enc x).length = k) (h1 : ∀ x, ∀ v ∈ enc x, v.oneCell' = true) (w0 W : World) (blk off C cap a m b : Nat) (d : Array α) (cv : Value) (h : SB enc k 57 w0 blk off C d W)
    (ham : a < m) (hmb : m < b) (hb : b ≤ d.size) (hsz : d.size < 4611686018427387904) :
    Calls P 131 #[.slice (some ⟨blk, off, none⟩) d.size cap, .int .i64 a, .int .i64 m, .int .i64 b, cv] W fun e w' => e = .returned (.tuple #[]) ∧ ∃ d', PermIn a b d d' ∧ (∀ x, d'[x]! = rotAt d a m b x) ∧ SB enc k 57 w0 blk off C d' w' := by
  have mixed := L.mixed; have t0 := L.t0; have a0 := L.a0; have z0 := L.z0; have ti := L.ti; have ai := L.ai; have zi := L.zi; have vi := L.vi; have tb := L.tb; have ab := L.ab; have zb := L.zb; have tu := L.tu; have au := L.au; have zu := L.zu; have tS := L.tS; have aS := L.aS; have zS := L.zS; have aE := L.aE; have zE := L.zE; have tF := L.tF; have aF := L.aF; have zF := L.zF
  have HSW := Lib.hid (fun (d' : Array α) (W' : World) (a b n : Nat) (h : SB enc k 57 w0 blk off C d' W') (hd : d'.size = d.size) (h2 : a + n ≤ b) (h3 : b + n ≤ d'.size) => swapRange_rcd L F enc hk h1 w0 W' blk off C cap a b n d' cv h h2 h3 (by omega))
  have HS := Lib.hid h
  have e65 : ∀ args w, (callFunc 138 args).run P w = .ok (.enter 138 args) w := enters_of F (by kernel_rfl) rfl
  have w1 : IntKind.i64.wrap ((m : Int) - (a : Int)) = ((m - a : Nat) : Int) := by rw [IntKind.wrap_i64]; omega
  have w2 : IntKind.i64.wrap ((b : Int) - (m : Int)) = ((b - m : Nat) : Int) := by rw [IntKind.wrap_i64]; omega
  clear h hk h1
  go_enter F2, Tryz.ntmps131
  go_wp2
  clear w1 w2
  go_loopw [10, 11] (fun s t wr => ∃ (i j : Nat) (d' : Array α), s = .int .i64 i ∧ t = .int .i64 j ∧ Hid (RotI d a m b d' i j ∧ SB enc k 57 w0 blk off C d' wr)) (fun s t _ => (intOf s).toNat + (intOf t).toNat)
  case atStart => exact ⟨_, _, d, rfl, rfl, RotI.start ham hmb, HS.out⟩
  case round =>
    obtain ⟨i, j, d', rfl, rfl, HI⟩ := hrel
    have hi0 := HI.out.1.1
    have hj0 := HI.out.1.2.1
    have hi1 := HI.out.1.2.2.1
    have hj1 := HI.out.1.2.2.2.1
    have hds : d'.size = d.size := HI.out.1.2.2.2.2.1.1
    have w1 : IntKind.i64.wrap ((m : Int) - (i : Int)) = ((m - i : Nat) : Int) := by rw [IntKind.wrap_i64]; omega
    by_cases hne : i = j
    · subst hne
      have HF := Lib.hid (HI.out.1.fin ham hmb hb)
      have HW := Lib.hid (HSW.out d' wr (m - i) m i HI.out.2 hds (by omega) (by omega))
      rw [hds] at HW
      go_wp2_with fail
      refine HW.out.mono ?_
      rintro e w' ⟨rfl, hB⟩
      have HB := Lib.hid hB
      clear hB
      go_wp2_with fail
      go_end0
      exact ⟨rfl, _, HF.out.1, HF.out.2, HB.out⟩
    · have q1 : ((i : Int) != (j : Int)) = true := by rw [bne_iff_ne]; omega
      by_cases hij : j < i
      · have q2 : decide ((j : Int) < (i : Int)) = true := by simp; omega
        have HN := Lib.hid (HI.out.1.left ham hmb hb hij)
        have HW := Lib.hid (HSW.out d' wr (m - i) m j HI.out.2 hds (by omega) (by omega))
        rw [hds] at HW
        have w2 : IntKind.i64.wrap ((i : Int) - (j : Int)) = ((i - j : Nat) : Int) := by rw [IntKind.wrap_i64]; omega
        go_wp2_with fail
        refine HW.out.mono ?_
        rintro e w' ⟨rfl, hB⟩
        have HB := Lib.hid hB
        clear hB
        go_wp2_with fail
        go_roundw
        case rel => exact ⟨i - j, j, _, rfl, rfl, HN.out, HB.out⟩
        case measure => simp [intOf]; omega
      · have q2 : decide ((j : Int) < (i : Int)) = false := by simp; omega
        have HN := Lib.hid (HI.out.1.right ham hmb hb (by omega))
        have HW := Lib.hid (HSW.out d' wr (m - i) (m + j - i) i HI.out.2 hds (by omega) (by omega))
        rw [hds] at HW
        have w2 : IntKind.i64.wrap ((j : Int) - (i : Int)) = ((j - i : Nat) : Int) := by rw [IntKind.wrap_i64]; omega
        have c1 : ((m + j - i : Nat) : Int) = (m : Int) + (j : Int) - (i : Int) := by omega
        rw [c1] at HW
        clear c1
        go_wp2_with fail
        refine HW.out.mono ?_
        rintro e w' ⟨rfl, hB⟩
        have HB := Lib.hid hB
        clear hB
        go_wp2_with fail
        go_roundw
        case rel => exact ⟨i, j - i, _, rfl, rfl, HN.out, HB.out⟩
        case measure => simp [intOf]; omega
end Go.Proofs.YtnblfaagchflaaaGreatDoor
/- slices.insertionSortCmpFunc at records, with a comparison that may lay blocks. -/
namespace Go.Proofs.YtnblfaagchflaaaGreatDoor
open Go.RowKit Go.Lib
open Go.Sort hiding Below
set_option linter.unusedVariables false
set_option linter.unusedSimpArgs false
variable {P : Program} {α : Type} [Inhabited α]

/-- The comparison g answers cf, wherever it is called; of what was there nothing turns. -/
def CmpB (P : Program) (g : Nat) (enc : α → List Value) (cf : α → α → Int) : Prop :=
  (∀ args w, (callFunc g args).run P w = .ok (.enter g args) w) ∧ ∀ x y W, Calls P g #[.agg (enc x).toArray, .agg (enc y).toArray] W fun e w' => e = .returned (.int .i64 (cf x y)) ∧ Go.RowKit.Below W.heap.size W w'
omit [Inhabited α] in
theorem CmpB.at_ {g : Nat} {enc : α → List Value} {cf : α → α → Int} (h : CmpB P g enc cf) (x y : α) (W : World) (d : Nat) (os : Array Obj) :
    Calls P g #[.agg (enc x).toArray, .agg (enc y).toArray] (grow (redrawn W d) os) fun e w'' => e = .returned (.int .i64 (cf x y)) ∧ ∃ p : Regrown, w'' = grow (redrawn W p.d) p.os := Calls.regrown_of (h.2 x y _)
theorem SB.lds {enc : α → List Value} {k : Nat} {e : TypeId} {w0 W : World} {blk off C : Nat} {d : Array α} (h : SB enc k e w0 blk off C d W) (hk : ∀ x, (enc x).length = k) (P : Program) {i : Nat} (hi : i < d.size) (q : Nat) (os : Array Obj) :
    Sem.run P (loadCellsFrom ⟨blk, off + i * k, none⟩ 0 k #[]) (grow (redrawn W q) os) = .ok (enc d[i]!).toArray (grow (redrawn W q) os) := (h.below (below_regrown W q os)).load hk P hi

set_option maxHeartbeats 4000000 in
set_option maxRecDepth 100000 in
theorem insertion_rcd {k : Nat} (L : SFacts P 29 57 87 k) (F : P.funcs[108]? = some Tryz.f108)
    (enc : α → List Value) (hk : ∀ x, (enc x).length = k) (h1 : ∀ x, ∀ v ∈ enc x, v.oneCell' = true) (cf : α → α → Int) (g : Nat) (hC : CmpB P g enc cf) (w0 W : World) (blk off C cap a b : Nat) (d : Array α) (h : SB enc k 57 w0 blk off C d W)
    (hab : a ≤ b) (hb : b ≤ d.size) (hsz : d.size < 4611686018427387904) :
    Calls P 108 #[.slice (some ⟨blk, off, none⟩) d.size cap, .int .i64 a, .int .i64 b, .func (.func g) #[] #[]] W fun e w' => e = .returned (.tuple #[]) ∧ SB enc k 57 w0 blk off C (Sort.insertionSort (ltOf cf) d a b) w' := by
  have mixed := L.mixed; have t0 := L.t0; have a0 := L.a0; have z0 := L.z0; have ti := L.ti; have ai := L.ai; have zi := L.zi; have vi := L.vi; have tb := L.tb; have ab := L.ab; have zb := L.zb; have tu := L.tu; have au := L.au; have zu := L.zu; have tS := L.tS; have aS := L.aS; have zS := L.zS; have aE := L.aE; have zE := L.zE; have tF := L.tF; have aF := L.aF; have zF := L.zF
  have HC := Lib.hid hC.2
  have HCB := Lib.hid hC
  have eg := hC.1
  have HS := Lib.hid h
  have HK := Lib.hid hk
  have H1 := Lib.hid h1
  clear h hk h1 hC
  go_enter F, Tryz.ntmps108
  go_wp2
  go_loopw [8] (fun s wr => ∃ (i : Nat) (dk : Array α), s = .int .i64 i ∧ a < i ∧ i ≤ b + 1 ∧ dk.size = d.size ∧ Hid (insOuter (ltOf cf) a b i dk = insOuter (ltOf cf) a b (a + 1) d ∧ SB enc k 57 w0 blk off C dk wr)) (fun s _ => b + 1 - (intOf s).toNat)
  case atStart => exact ⟨a + 1, d, by go_num, by omega, by omega, rfl, rfl, HS.out⟩
  case round =>
    obtain ⟨i, dk, rfl, hai, hib, hsk, HO⟩ := hrel
    by_cases hlt : i < b
    · have hltz : (i : Int) < (b : Int) := by omega
      go_wp2
      go_loopw [9] (fun s wr => ∃ (j : Nat) (dj : Array α), s = .int .i64 j ∧ a ≤ j ∧ j ≤ i ∧ dj.size = d.size ∧ Hid (insInner (ltOf cf) a j dj = insInner (ltOf cf) a i dk ∧ SB enc k 57 w0 blk off C dj wr)) (fun s _ => (intOf s).toNat)
      case atStart => exact ⟨i, dk, rfl, by omega, Nat.le_refl _, hsk, rfl, HO.out.2⟩
      case round =>
        obtain ⟨j, dj, rfl, haj, hji, hsj, HI⟩ := hrel
        have OUT : Hid ((j ≤ a ∨ ltOf cf dj[j]! dj[j - 1]! = false) → insOuter (ltOf cf) a b (i + 1) dj = insOuter (ltOf cf) a b (a + 1) d) := fun hs => by
          rw [← HO.out.1, insOuter_go _ _ _ _ _ hlt, ← HI.out.1, insInner_stop _ _ _ _ hs]
        by_cases hja : a < j
        · obtain ⟨jp, rfl⟩ : ∃ jp, j = jp + 1 := ⟨j - 1, by omega⟩
          have hjaz' : (a : Int) < (jp : Int) + 1 := by omega
          have hwp : IntKind.i64.wrap (jp : Int) = (jp : Int) := by rw [IntKind.wrap_i64]; omega
          have jz : (jp : Int) + 1 < (d.size : Int) := by omega
          have jz1 : (jp : Int) < (d.size : Int) := by omega
          have p0 : (0 : Int) ≤ (jp : Int) + 1 := by omega
          have e0 : ((jp : Int) + 1).toNat = jp + 1 := by omega
          have lj := HI.out.2.lds HK.out P (i := jp + 1) (by omega)
          have lp := HI.out.2.lds HK.out P (i := jp) (by omega)
          obtain ⟨xj, hxj⟩ : ∃ x, dj[jp + 1]! = x := ⟨_, rfl⟩
          obtain ⟨xp, hxp⟩ : ∃ x, dj[jp]! = x := ⟨_, rfl⟩
          rw [hxj] at lj
          rw [hxp] at lp
          have HCG := Lib.hid (HCB.out.at_ xj xp wr)
          have HXJ := Lib.hid hxj
          have HXP := Lib.hid hxp
          clear hxj hxp
          by_cases hlv : cf xj xp < 0
          · have dlv : decide (cf xj xp < 0) = true := by simp; omega
            go_wp2_with fail
            refine wp_region_quiet_below (by assumption) (by kernel_rfl) ?_
            repeat (first | go_big_quiet_step (exact HCG.out _ _) | quiet_step (exact HCG.out _ _))
            refine wpQuiet_nil ?_
            intro _ hw'
            obtain ⟨⟨dq, osq⟩, hw''⟩ := hw'
            subst hw''
            have hB5 := HI.out.2.below (below_regrown wr dq osq)
            clear lj lp
            generalize grow (redrawn wr dq) osq = W5 at hB5 ⊢
            have hB6 := hB5.drew
            have lj := hB6.load HK.out P (i := jp + 1) (by omega)
            have lp := hB6.load HK.out P (i := jp) (by omega)
            have s1 := hB6.st1 HK.out H1.out P (i := jp + 1) (by omega) dj[jp]!
            have s2 := hB6.st2 HK.out H1.out P (i := jp + 1) (j := jp) (by omega) (by omega) dj[jp]! dj[jp + 1]!
            have HN : Hid _ := hB6.swap HK.out (i := jp + 1) (j := jp) (by omega) (by omega)
            have q1 : (enc dj[jp + 1]!).length = k := HK.out _
            have q2 : (enc dj[jp]!).length = k := HK.out _
            clear hB6 hB5
            generalize enc dj[jp + 1]! = cj at lj lp s1 s2 HN q1 q2
            generalize enc dj[jp]! = cp at lj lp s1 s2 HN q1 q2
            go_wp2_with fail
            go_big_region_o
            all_goals go_wp2
            go_roundw
            case rel =>
              refine ⟨jp, swp dj (jp + 1) jp, by first | rfl | go_num | (congr 1; omega), by omega, by omega, by rw [size_swp]; exact hsj, ?_, HN.out⟩
              have := insInner_go (ltOf cf) a (jp + 1) dj hja (by simp only [Nat.add_sub_cancel]; rw [HXJ.out, HXP.out]; exact dlv)
              simp only [Nat.add_sub_cancel] at this
              rw [← HI.out.1, this]
            case measure => simp [intOf]
          · have dlv : decide (cf xj xp < 0) = false := by simp; omega
            go_wp2_with fail
            refine wp_region_quiet_below (by assumption) (by kernel_rfl) ?_
            repeat (first | go_big_quiet_step (exact HCG.out _ _) | quiet_step (exact HCG.out _ _))
            refine wpQuiet_nil ?_
            intro _ hw'
            obtain ⟨⟨dq, osq⟩, hw''⟩ := hw'
            subst hw''
            have HB5 := Lib.hid (HI.out.2.below (below_regrown wr dq osq))
            generalize grow (redrawn wr dq) osq = W5 at HB5 ⊢
            go_wp2
            go_roundw
            case rel => exact ⟨i + 1, dj, by go_num, by omega, by omega, hsj, OUT.out (Or.inr (by simp only [Nat.add_sub_cancel]; rw [HXJ.out, HXP.out]; exact dlv)), HB5.out⟩
            case measure => simp [intOf]; omega
        · have hjaz : decide ((a : Int) < (j : Int)) = false := decide_eq_false (by omega)
          have hjaz' : ¬ (a : Int) < (j : Int) := by omega
          have HB5 := Lib.hid HI.out.2.drew
          go_wp2_with fail
          go_big_region_o
          all_goals go_wp2
          go_roundw
          case rel => exact ⟨i + 1, dj, by go_num, by omega, by omega, hsj, OUT.out (Or.inl (by omega)), HB5.out⟩
          case measure => simp [intOf]; omega
    · have hltz : ¬ (i : Int) < (b : Int) := by omega
      go_wp2
      go_end0
      exact ⟨rfl, by unfold Sort.insertionSort; rw [← HO.out.1, insOuter_stop _ _ _ _ _ hlt]; exact HO.out.2⟩
end Go.Proofs.YtnblfaagchflaaaGreatDoor
/- Plain: the order of paths by their components is the order by their bytes. -/
namespace Go.Proofs.YtnblfaagchflaaaGreatDoor
open Go.RowKit
set_option linter.unusedVariables false
set_option linter.unusedSimpArgs false

/-- Both paths of a record are paths. -/
def Rcd.val_ (r : Rcd) : Prop := validS r.frm = true ∧ validS r.to = true
def cmpC : List (List UInt8) → List (List UInt8) → Int
  | [], [] => 0
  | [], _ :: _ => -1
  | _ :: _, [] => 1
  | a :: l, b :: m => if Lib.compareBytes a b = 0 then cmpC l m else Lib.compareBytes a b
/-- Components, each behind its slash. -/
def tailL : List (List UInt8) → List UInt8
  | [] => []
  | p :: ps => 47 :: p ++ tailL ps
theorem join_tail (p : List UInt8) (ps : List (List UInt8)) : 47 :: Lib.join (p :: ps) [47] = tailL (p :: ps) := by
  induction ps generalizing p with
  | nil => simp [Lib.join_one, tailL]
  | cons q ps ih =>
    rw [join_cons2 p (q :: ps) (by simp), tailL, ← ih q]
    simp
def Starts (l : List UInt8) : Prop := l = [] ∨ ∃ r, l = 47 :: r
theorem tail_starts (ps : List (List UInt8)) : Starts (tailL ps) := by
  cases ps with
  | nil => exact .inl rfl
  | cons p ps => exact .inr ⟨p ++ tailL ps, by simp [tailL]⟩
theorem cmp_app : ∀ (p q X Y : List UInt8), (47 : UInt8) ∉ p → (47 : UInt8) ∉ q → Starts X → Starts Y → cmpL (p ++ X) (q ++ Y) = if Lib.compareBytes p q = 0 then cmpL X Y else Lib.compareBytes p q
  | [], [], X, Y, _, _, _, _ => by simp [Lib.compareBytes]
  | [], b :: q, X, Y, _, hq, hX, _ => by
    have hb : b ≠ 47 := fun e => hq (by rw [e]; exact List.mem_cons_self ..)
    rcases hX with rfl | ⟨r, rfl⟩
    · simp [Lib.compareBytes, cmpL]
    · simp [Lib.compareBytes, cmpL]
      exact fun e => absurd e.symm hb
  | a :: p, [], X, Y, hp, _, _, hY => by
    have ha : a ≠ 47 := fun e => hp (by rw [e]; exact List.mem_cons_self ..)
    rcases hY with rfl | ⟨r, rfl⟩
    · simp [Lib.compareBytes, cmpL]
    · simp [Lib.compareBytes, cmpL, ha]
  | a :: p, b :: q, X, Y, hp, hq, hX, hY => by
    have ha : a ≠ 47 := fun e => hp (by rw [e]; exact List.mem_cons_self ..)
    have hb : b ≠ 47 := fun e => hq (by rw [e]; exact List.mem_cons_self ..)
    have ih := cmp_app p q X Y (fun h => hp (List.mem_cons_of_mem _ h)) (fun h => hq (List.mem_cons_of_mem _ h)) hX hY
    rw [List.cons_append, List.cons_append, cmpL, Lib.compareBytes]
    by_cases e : a = b
    · subst e
      have hlt : ¬ a < a := by rw [UInt8.lt_iff_toNat_lt]; omega
      rw [if_pos rfl, if_neg hlt, if_neg hlt]
      exact ih
    · rw [if_neg e, if_neg ha, if_neg hb]
      by_cases hl : a < b
      · rw [if_pos hl, if_pos hl]; simp
      · have hg : b < a := by
          have : a.toNat ≠ b.toNat := fun h => e (UInt8.toNat_inj.1 h)
          rw [UInt8.lt_iff_toNat_lt] at hl ⊢; omega
        rw [if_neg hl, if_neg hl, if_pos hg]; simp
theorem cmp_tail : ∀ (ps qs : List (List UInt8)), (∀ p ∈ ps, (47 : UInt8) ∉ p) → (∀ q ∈ qs, (47 : UInt8) ∉ q) → cmpL (tailL ps) (tailL qs) = cmpC ps qs
  | [], [], _, _ => rfl
  | [], q :: qs, _, _ => by simp [tailL, cmpL, cmpC]
  | p :: ps, [], _, _ => by simp [tailL, cmpL, cmpC]
  | p :: ps, q :: qs, hp, hq => by
    have ih := cmp_tail ps qs (fun x hx => hp x (List.mem_cons_of_mem _ hx)) (fun x hx => hq x (List.mem_cons_of_mem _ hx))
    rw [tailL, tailL, List.cons_append, List.cons_append, cmpL, if_pos rfl, cmp_app p q _ _ (hp p (List.mem_cons_self ..)) (hq q (List.mem_cons_self ..)) (tail_starts _) (tail_starts _), cmpC, ih]
theorem dir_tail {l : List UInt8} {least : Nat} {ps : List (List UInt8)} (h : dirL l least = some ps) : l = 47 :: tailL ps ∧ ∀ p ∈ ps, (47 : UInt8) ∉ p := by
  unfold dirL at h
  split at h
  · rename_i hc
    injection h with h
    subst h
    have hp := hc.1
    have hl : l = 47 :: 47 :: l.drop 2 := by
      match l, hp with
      | [], hp => simp [Lib.hasPrefix] at hp
      | [a], hp => simp [Lib.hasPrefix] at hp
      | a :: b :: r, hp =>
        simp [Lib.hasPrefix] at hp
        obtain ⟨rfl, rfl⟩ := hp
        rfl
    have hj := join_splitL (l.drop 2)
    refine ⟨?_, fun p hp => (splitL_mem hp).1⟩
    cases hs : splitL (l.drop 2) with
    | nil => exact absurd hs (splitL_ne _)
    | cons p ps =>
      rw [← join_tail, ← hs, hj]
      exact hl
  · cases h
/-- The order of two paths by their components. -/
theorem cmpP_comps {a b : ByteArray} {ps qs : List (List UInt8)} (ha : dirL a.data.toList 2 = some ps) (hb : dirL b.data.toList 2 = some qs) : cmpP a b = cmpC ps qs := by
  have va : validS a = true := by unfold validS validB; rw [ha]; rfl
  have vb : validS b = true := by unfold validS validB; rw [hb]; rfl
  obtain ⟨a1, a2⟩ := dir_tail ha
  obtain ⟨b1, b2⟩ := dir_tail hb
  rw [cmpP_valid va vb, a1, b1, cmpL, if_pos rfl, cmp_tail ps qs a2 b2]
end Go.Proofs.YtnblfaagchflaaaGreatDoor
