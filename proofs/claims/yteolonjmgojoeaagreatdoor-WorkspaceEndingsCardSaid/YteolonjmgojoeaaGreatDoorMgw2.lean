/- The three maps of an examination; lineOf, live. -/
import Derived.Test.YteolonjmgojoeaaGreatDoorMzMem
import Derived.Test.YteolonjmgojoeaaGreatDoorMgw0
import Derived.StillTailTactics
import Derived.IntWalk
import Derived.Shelf.SlSortCmp.KitK
import Derived.Lib.QuietBelow
namespace Go.Proofs.YteolonjmgojoeaaGreatDoor
open Go.RowKit
set_option linter.unusedVariables false
set_option linter.unusedSimpArgs false

theorem toList_inj {a b : ByteArray} : a.toList = b.toList ↔ a = b := by
  constructor
  · intro h
    rw [ByteArray.toList_eq, ByteArray.toList_eq] at h
    cases a with | mk x => cases b with | mk y =>
    congr 1; exact Array.toList_inj.1 h
  · intro h; rw [h]
theorem equal_fil (a b : Fil) (w : World) : (Op.equal 106 (filV a) (filV b)).run Tryz.prog w = .ok (a == b) w := by
  obtain ⟨a0, a1⟩ := a
  obtain ⟨b0, b1⟩ := b
  show (Op.equalIn 10000 106 _ _).run Tryz.prog w = _
  unfold filV
  rw [run_equalIn_agg w 9999 106 _ _ (by kernel_rfl) (by kernel_rfl)]
  simp [go_sem, Op.eqFields, toList_inj]
  by_cases h1 : a0 = b0 <;> by_cases h2 : a1 = b1 <;> simp [h1, h2]
theorem check_fil (b : Bool) (a : Fil) (w : World) : (Instr.checkKey b 10000 106 (filV a)).run Tryz.prog w = .ok () w := by
  unfold filV
  rw [Instr.checkKey]
  simp [run_underlying Tryz.underlying106, go_sem]
  rw [check_string Tryz.underlying9 b _ w 9998, Result.andThen_ok]
  exact check_int Tryz.underlying3 b _ w 9998
theorem bits_fil (a : Fil) : Instr.sameBits 10000 (filV a) (filV a) = true := by
  unfold filV
  rw [Instr.sameBits]
  simp [bits_string, bits_int]
theorem keyOk_fil : KeyOk Tryz.prog 106 filV :=
  ⟨find_of_ask Tryz.underlying106 (fun _ _ => rfl) equal_fil, check_fil, fun a b h => by
    have : b = a := (eq_of_beq h).symm
    subst this
    exact bits_fil b⟩
theorem keyOk_str : KeyOk Tryz.prog 9 Value.string := keyOk_string Tryz.underlying9

def LastMap (w : World) (B : Nat) (f : ByteArray → Option Rev) : Prop := FMap Value.string Rev.val w B f
def EditMap (w : World) (B : Nat) (f : ByteArray → Option Edt) : Prop := FMap Value.string Edt.val w B f
def LineMap (w : World) (B : Nat) (f : Fil → Option Fil) : Prop := FMap filV filV w B f
theorem zero_rev (w : World) : (zeroValue 74).run Tryz.prog w = .ok zeroRev.val w := by kernel_rfl
theorem zero_edt (w : World) : (zeroValue 54).run Tryz.prog w = .ok zeroEdt.val w := by kernel_rfl
theorem zero_fil (w : World) : (zeroValue 106).run Tryz.prog w = .ok (filV zeroFil) w := by kernel_rfl
section
variable {w : World} {B : Nat}
theorem LastMap.look {f : ByteArray → Option Rev} (h : LastMap w B f) (p : ByteArray) : (Instr.lookup 100 (.map (some B)) (.string p) false).run Tryz.prog w = .ok (.agg #[.string (lastR f p).path, .int .i64 (lastR f p).num, .int .i64 (lastR f p).chg, .int .i64 (lastR f p).act, .int .i64 (lastR f p).ty.base, .bool (lastR f p).ty.k, .bool (lastR f p).ty.l, .bool (lastR f p).ty.x, .int .u64 (lastR f p).sum, .int .i64 (lastR f p).size, .string (lastR f p).frm, .int .i64 (lastR f p).fnum]) w := by
  rw [FMap.lookup h keyOk_str Tryz.underlying100 (zero_rev w) p false]
  unfold lookV lastR
  cases f p <;> rfl
theorem LastMap.look2 {f : ByteArray → Option Rev} (h : LastMap w B f) (p : ByteArray) : (Instr.lookup 100 (.map (some B)) (.string p) true).run Tryz.prog w = .ok (.tuple #[.agg #[.string (lastR f p).path, .int .i64 (lastR f p).num, .int .i64 (lastR f p).chg, .int .i64 (lastR f p).act, .int .i64 (lastR f p).ty.base, .bool (lastR f p).ty.k, .bool (lastR f p).ty.l, .bool (lastR f p).ty.x, .int .u64 (lastR f p).sum, .int .i64 (lastR f p).size, .string (lastR f p).frm, .int .i64 (lastR f p).fnum], .bool (f p).isSome]) w := by
  rw [FMap.lookup h keyOk_str Tryz.underlying100 (zero_rev w) p true]
  unfold lookV lastR
  cases f p <;> rfl
def editR (f : ByteArray → Option Edt) (p : ByteArray) : Edt := (f p).getD zeroEdt
theorem EditMap.look {f : ByteArray → Option Edt} (h : EditMap w B f) (p : ByteArray) : (Instr.lookup 101 (.map (some B)) (.string p) false).run Tryz.prog w = .ok (.agg #[.string (editR f p).path, .int .i64 (editR f p).act, .int .i64 (editR f p).ty.base, .bool (editR f p).ty.k, .bool (editR f p).ty.l, .bool (editR f p).ty.x, .int .u64 (editR f p).sum, .int .i64 (editR f p).size, .int .i64 (editR f p).base, .string (editR f p).frm, .int .i64 (editR f p).fnum, .int .i64 (editR f p).fence]) w := by
  rw [FMap.lookup h keyOk_str Tryz.underlying101 (zero_edt w) p false]
  unfold lookV editR
  cases f p <;> rfl
theorem EditMap.look2 {f : ByteArray → Option Edt} (h : EditMap w B f) (p : ByteArray) : (Instr.lookup 101 (.map (some B)) (.string p) true).run Tryz.prog w = .ok (.tuple #[.agg #[.string (editR f p).path, .int .i64 (editR f p).act, .int .i64 (editR f p).ty.base, .bool (editR f p).ty.k, .bool (editR f p).ty.l, .bool (editR f p).ty.x, .int .u64 (editR f p).sum, .int .i64 (editR f p).size, .int .i64 (editR f p).base, .string (editR f p).frm, .int .i64 (editR f p).fnum, .int .i64 (editR f p).fence], .bool (f p).isSome]) w := by
  rw [FMap.lookup h keyOk_str Tryz.underlying101 (zero_edt w) p true]
  unfold lookV editR
  cases f p <;> rfl
def lineR (f : Fil → Option Fil) (p : Fil) : Fil := (f p).getD zeroFil
theorem LineMap.look {f : Fil → Option Fil} (h : LineMap w B f) (p : ByteArray) (n : Int) : (Instr.lookup 102 (.map (some B)) (.agg #[.string p, .int .i64 n]) false).run Tryz.prog w = .ok (.agg #[.string (lineR f (p, n)).1, .int .i64 (lineR f (p, n)).2]) w := by
  have := FMap.lookup h keyOk_fil Tryz.underlying102 (zero_fil w) (p, n) false
  unfold lookV at this
  unfold lineR
  cases hf : f (p, n) <;> (rw [hf] at this; exact this)
theorem LineMap.look2 {f : Fil → Option Fil} (h : LineMap w B f) (p : ByteArray) (n : Int) : (Instr.lookup 102 (.map (some B)) (.agg #[.string p, .int .i64 n]) true).run Tryz.prog w = .ok (.tuple #[.agg #[.string (lineR f (p, n)).1, .int .i64 (lineR f (p, n)).2], .bool (f (p, n)).isSome]) w := by
  have := FMap.lookup h keyOk_fil Tryz.underlying102 (zero_fil w) (p, n) true
  unfold lookV at this
  unfold lineR
  cases hf : f (p, n) <;> (rw [hf] at this; exact this)
end

/-! lineOf. -/
theorem box12 {w : World} {g : Nat} {e : TypeId} {a0 a1 a2 a3 a4 a5 a6 a7 a8 a9 a10 a11 : Value} (h : Blk w g e [a0, a1, a2, a3, a4, a5, a6, a7, a8, a9, a10, a11]) :
    w.cell? ⟨g, 0, none⟩ = some a0 ∧ w.cell? ⟨g, 1, none⟩ = some a1 ∧ w.cell? ⟨g, 2, none⟩ = some a2 ∧ w.cell? ⟨g, 3, none⟩ = some a3 ∧ w.cell? ⟨g, 4, none⟩ = some a4 ∧ w.cell? ⟨g, 5, none⟩ = some a5 ∧
    w.cell? ⟨g, 6, none⟩ = some a6 ∧ w.cell? ⟨g, 7, none⟩ = some a7 ∧ w.cell? ⟨g, 8, none⟩ = some a8 ∧ w.cell? ⟨g, 9, none⟩ = some a9 ∧ w.cell? ⟨g, 10, none⟩ = some a10 ∧ w.cell? ⟨g, 11, none⟩ = some a11 :=
  ⟨h.cell 0, h.cell 1, h.cell 2, h.cell 3, h.cell 4, h.cell 5, h.cell 6, h.cell 7, h.cell 8, h.cell 9, h.cell 10, h.cell 11⟩
theorem box2 {w : World} {g : Nat} {e : TypeId} {a b : Value} (h : Blk w g e [a, b]) : w.cell? ⟨g, 0, none⟩ = some a ∧ w.cell? ⟨g, 1, none⟩ = some b ∧ w.frozen? ⟨g, 0, none⟩ = false ∧ w.frozen? ⟨g, 1, none⟩ = false :=
  ⟨h.cell 0, h.cell 1, h.frozen 0, h.frozen 1⟩
set_option maxRecDepth 100000 in
set_option maxHeartbeats 4000000 in
theorem lineOf_main (f : Fil → Option Fil) (r : Rev) (g : Nat) (dv dr ev rv : Value) (n : Int) (cl tx : ByteArray) (bl be bn : Nat) (w : World) (hk : Chk w g dv dr n cl tx ev rv bl be bn) (hL : LineMap w bn f) (hn : 0 < r.num) (hn2 : r.num ≤ 1000000) :
    Calls Tryz.prog 31 #[.pointer (some ⟨g, 0, none⟩), .agg #[.string r.path, .int .i64 r.num, .int .i64 r.chg, .int .i64 r.act, .int .i64 r.ty.base, .bool r.ty.k, .bool r.ty.l, .bool r.ty.x, .int .u64 r.sum, .int .i64 r.size, .string r.frm, .int .i64 r.fnum]] w
      fun e w' => e = .returned (.agg #[.string (lineV f r).1, .int .i64 (lineV f r).2]) ∧ Below w.heap.size w w' := by
  obtain ⟨W, hW⟩ : ∃ W, W = (w.alloc (.cells #[.string r.path, .int .i64 r.num, .int .i64 r.chg, .int .i64 r.act, .int .i64 r.ty.base, .bool r.ty.k, .bool r.ty.l, .bool r.ty.x, .int .u64 r.sum, .int .i64 r.size, .string r.frm, .int .i64 r.fnum] 74)).alloc (.cells #[.string ⟨#[]⟩, .int .i64 0] 106) := ⟨_, rfl⟩
  have hbW : Below w.heap.size w W := by rw [hW]; exact ((Below.refl _ _).alloc (Nat.le_refl _) _).alloc (by simp) _
  have hR : Blk W w.heap.size 74 [.string r.path, .int .i64 r.num, .int .i64 r.chg, .int .i64 r.act, .int .i64 r.ty.base, .bool r.ty.k, .bool r.ty.l, .bool r.ty.x, .int .u64 r.sum, .int .i64 r.size, .string r.frm, .int .i64 r.fnum] := by rw [hW]; exact (blk_new w _ _).alloc _
  have hF : Blk W (w.heap.size + 1) 106 [.string ⟨#[]⟩, .int .i64 0] := by
    rw [hW]
    have := blk_new (w.alloc (.cells #[.string r.path, .int .i64 r.num, .int .i64 r.chg, .int .i64 r.act, .int .i64 r.ty.base, .bool r.ty.k, .bool r.ty.l, .bool r.ty.x, .int .u64 r.sum, .int .i64 r.size, .string r.frm, .int .i64 r.fnum] 74)) [.string ⟨#[]⟩, .int .i64 0] 106
    simpa using this
  have hK : Chk W g dv dr n cl tx ev rv bl be bn := Blk.below hk hbW (Blk.lt hk)
  have hLW : LineMap W bn f := FMap.below hL hbW
  have HW := Lib.hid hW
  clear hW
  by_cases h1 : r.act = 1
  · have H : Hid (lineV f r = (r.path, r.num)) := Lib.hid (by unfold lineV; rw [if_pos h1])
    have q1 : (r.act == 1) = true := by rw [h1]; rfl
    clear h1 hbW
    go_enter Tryz.func31, Tryz.ntmps31
    go_wp2_with fail
    refine bodyPost_ret (v := .agg #[.string r.path, .int .i64 r.num]) (by simp [results, Tryz.results31, go_sem]) rfl ⟨?_, ((Below.refl _ _).alloc (Nat.le_refl _) _).alloc (by simp) _⟩
    rw [H.out]
  · have q1 : (r.act == 1) = false := by simpa using h1
    obtain ⟨c0, c1, c2, c3, c4, c5, c6, c7, c8, c9, c10, c11⟩ := box12 hR
    obtain ⟨f0, f1, f2, f3⟩ := box2 hF
    obtain ⟨k0, k1, k2, k5, k6, k7, k8, k9⟩ := box10 hK
    by_cases h4 : r.act = 4
    · have H : Hid (lineV f r = lineR f (r.frm, r.fnum)) := Lib.hid (by unfold lineV lineR; rw [if_neg h1, if_pos h4])
      have q4 : (r.act == 4) = true := by rw [h4]; rfl
      have hlk := LineMap.look (w := W.drew) hLW r.frm r.fnum
      clear h1 h4
      generalize lineR f (r.frm, r.fnum) = o at H hlk
      go_enter Tryz.func31, Tryz.ntmps31
      go_wp2_with fail
      rw [← HW.out]
      go_still_tail 10, (by kernel_rfl)
      change wpList _ _ _ _ _ W.drew
      have hB2 : Below w.heap.size w W.drew := hbW.drew
      have hF2 : Blk W.drew (w.heap.size + 1) 106 [.string ⟨#[]⟩, .int .i64 0] := hF
      clear hlk
      generalize W.drew = W2 at hB2 hF2 ⊢
      obtain ⟨f0, f1, f2, f3⟩ := box2 hF2
      go_wp2_with fail
      have hF3 := (hF2.set_ 0 (.string o.1)).set_ 1 (.int .i64 o.2)
      have hB3 := (hB2.setCell (p := ⟨w.heap.size + 1, 0, none⟩) (by simp) (.string o.1)).setCell (p := ⟨w.heap.size + 1, 1, none⟩) (by simp) (.int .i64 o.2)
      generalize ((W2.setCell ⟨w.heap.size + 1, 0, none⟩ (.string o.1)).setCell ⟨w.heap.size + 1, 1, none⟩ (.int .i64 o.2)) = W3 at hF3 hB3 ⊢
      obtain ⟨e0, e1, -, -⟩ := box2 hF3
      refine bodyPost_ret (v := .agg #[.string o.1, .int .i64 o.2]) (by simp [results, Tryz.results31, go_sem, e0, e1]) rfl ⟨?_, hB3⟩
      rw [H.out]
    · have H : Hid (lineV f r = lineR f (r.path, r.num - 1)) := Lib.hid (by unfold lineV lineR; rw [if_neg h1, if_neg h4])
      have q4 : (r.act == 4) = false := by simpa using h4
      have hlk := LineMap.look (w := W.drew) hLW r.path (r.num - 1)
      clear h1 h4
      generalize lineR f (r.path, r.num - 1) = o at H hlk
      go_enter Tryz.func31, Tryz.ntmps31
      go_wp2_with fail
      rw [← HW.out]
      have hwr : IntKind.i64.wrap (r.num - 1) = r.num - 1 := IntWalk.i64_in _ (by omega)
      go_still_tail 11, (by kernel_rfl)
      change wpList _ _ _ _ _ W.drew
      clear hwr
      have hB2 : Below w.heap.size w W.drew := hbW.drew
      have hF2 : Blk W.drew (w.heap.size + 1) 106 [.string ⟨#[]⟩, .int .i64 0] := hF
      clear hlk
      generalize W.drew = W2 at hB2 hF2 ⊢
      obtain ⟨f0, f1, f2, f3⟩ := box2 hF2
      go_wp2_with fail
      have hF3 := (hF2.set_ 0 (.string o.1)).set_ 1 (.int .i64 o.2)
      have hB3 := (hB2.setCell (p := ⟨w.heap.size + 1, 0, none⟩) (by simp) (.string o.1)).setCell (p := ⟨w.heap.size + 1, 1, none⟩) (by simp) (.int .i64 o.2)
      generalize ((W2.setCell ⟨w.heap.size + 1, 0, none⟩ (.string o.1)).setCell ⟨w.heap.size + 1, 1, none⟩ (.int .i64 o.2)) = W3 at hF3 hB3 ⊢
      obtain ⟨e0, e1, -, -⟩ := box2 hF3
      refine bodyPost_ret (v := .agg #[.string o.1, .int .i64 o.2]) (by simp [results, Tryz.results31, go_sem, e0, e1]) rfl ⟨?_, hB3⟩
      rw [H.out]
end Go.Proofs.YteolonjmgojoeaaGreatDoor
/- Words for a row of structs that is sorted in place: 'SB'; any program. -/
namespace Go.Proofs.YteolonjmgojoeaaGreatDoor
open Go.RowKit Go.Lib
open Go.Sort hiding Below
set_option linter.unusedVariables false
set_option linter.unusedSimpArgs false
section
variable {P : Program} {α : Type} [Inhabited α] {enc : α → List Value} {k : Nat} {e : TypeId} {w0 W W' : World} {blk off C : Nat} {d : Array α}

theorem setCells_size (g : Nat) : ∀ (vs : List Value) (o : Nat) (w : World), (w.setCells g o vs).heap.size = w.heap.size
  | [], o, w => rfl
  | v :: vs, o, w => by rw [World.setCells, setCells_size g vs (o + 1)]; simp [World.setCell]
theorem setCells_block (g : Nat) : ∀ (vs : List Value) (o : Nat) (w : World) (j : Nat), j ≠ g → (w.setCells g o vs).heap[j]? = w.heap[j]?
  | [], o, w, j, h => rfl
  | v :: vs, o, w, j, h => by rw [World.setCells, setCells_block g vs (o + 1) _ j h]; exact Below.heap_setCell w _ _ _ h
theorem setCells_own (g : Nat) (e : TypeId) (C : Nat) : ∀ (vs : List Value) (o : Nat) (w : World), (∃ cur : Array Value, w.heap[g]? = some (.cells cur e (0, 0)) ∧ cur.size = C) → ∃ cur : Array Value, (w.setCells g o vs).heap[g]? = some (.cells cur e (0, 0)) ∧ cur.size = C
  | [], o, w, h => h
  | v :: vs, o, w, ⟨cur, h1, h2⟩ => by
    rw [World.setCells]
    refine setCells_own g e C vs (o + 1) _ ⟨cur.setIfInBounds o v, ?_, by simpa using h2⟩
    simp [World.setCell, Array.getElem?_modify, h1]
theorem setCells_rest (g : Nat) : ∀ (vs : List Value) (o : Nat) (w : World), (w.setCells g o vs).os = w.os ∧ (w.setCells g o vs).tape = w.tape ∧ (w.setCells g o vs).output = w.output
  | [], o, w => ⟨rfl, rfl, rfl⟩
  | v :: vs, o, w => by rw [World.setCells]; exact setCells_rest g vs (o + 1) _

/-- In W block blk holds, from cell off on, the structs d; nothing but that block has turned since w0. -/
structure SB (enc : α → List Value) (k : Nat) (e : TypeId) (w0 : World) (blk off C : Nat) (d : Array α) (W : World) : Prop where
  hold : HoldsK enc k W blk off d
  own : ∃ cur : Array Value, W.heap[blk]? = some (.cells cur e (0, 0)) ∧ cur.size = C
  gr : w0.grownBy W (some blk)
theorem SB.lt (h : SB enc k e w0 blk off C d W) : blk < W.heap.size := by
  obtain ⟨cur, h1, -⟩ := h.own
  exact (Array.getElem?_eq_some_iff.1 h1).1
theorem SB.below (h : SB enc k e w0 blk off C d W) (hb : Go.RowKit.Below W.heap.size W W') : SB enc k e w0 blk off C d W' := by
  have hl := h.lt
  refine ⟨fun j hj => ?_, ?_, ?_⟩
  · obtain ⟨h1, h2⟩ := h.hold j hj
    exact ⟨(hb.cell (p := ⟨blk, off + j, none⟩) hl).trans h1, (hb.frozen (p := ⟨blk, off + j, none⟩) hl).trans h2⟩
  · rw [hb.block blk hl]; exact h.own
  · exact ⟨hb.os.trans h.gr.os, hb.tape.trans h.gr.tape, hb.output.trans h.gr.output, Nat.le_trans h.gr.size hb.size, fun j hj hne => (hb.block j (Nat.lt_of_lt_of_le hj h.gr.size)).trans (h.gr.block j hj hne)⟩
theorem SB.drew (h : SB enc k e w0 blk off C d W) : SB enc k e w0 blk off C d W.drew := h.below (Below.refl _ _).drew
theorem SB.load (h : SB enc k e w0 blk off C d W) (hk : ∀ x, (enc x).length = k) (P : Program) {i : Nat} (hi : i < d.size) :
    Sem.run P (loadCellsFrom ⟨blk, off + i * k, none⟩ 0 k #[]) W = .ok (enc d[i]!).toArray W :=
  run_loadCellsFrom_list P _ _ _ k (hk _) (HoldsK.cells h.hold hk hi)
theorem SB.st1 (h : SB enc k e w0 blk off C d W) (hk : ∀ x, (enc x).length = k) (h1 : ∀ x, ∀ v ∈ enc x, v.oneCell' = true) (P : Program) {i : Nat} (hi : i < d.size) (y : α) :
    Sem.run P (storeCells ⟨blk, off + i * k, none⟩ (enc y) 0) W = .ok () (W.setCells blk (off + i * k) (enc y)) :=
  stores_of_holds P h.hold (i * k) _ (by rw [hk, size_flatK]; exact rowK_bnd d k i hi) (h1 _)
theorem SB.st2 (h : SB enc k e w0 blk off C d W) (hk : ∀ x, (enc x).length = k) (h1 : ∀ x, ∀ v ∈ enc x, v.oneCell' = true) (P : Program) {i j : Nat} (hi : i < d.size) (hj : j < d.size) (y x : α) :
    Sem.run P (storeCells ⟨blk, off + j * k, none⟩ (enc x) 0) (W.setCells blk (off + i * k) (enc y)) = .ok () ((W.setCells blk (off + i * k) (enc y)).setCells blk (off + j * k) (enc x)) :=
  stores_of_holds P (holds_setCells_c h.hold (i * k) _ (by rw [hk, size_flatK]; exact rowK_bnd d k i hi)) (j * k) _ (by rw [hk, size_setMany, size_flatK]; exact rowK_bnd d k j hj) (h1 _)
theorem SB.swap (h : SB enc k e w0 blk off C d W) (hk : ∀ x, (enc x).length = k) {i j : Nat} (hi : i < d.size) (hj : j < d.size) :
    SB enc k e w0 blk off C (swp d i j) ((W.setCells blk (off + i * k) (enc d[j]!)).setCells blk (off + j * k) (enc d[i]!)) := by
  have hs := (SWK.start h.hold).swap hk h.lt i j hi hj
  obtain ⟨a1, a2, a3⟩ := setCells_rest blk (enc d[j]!) (off + i * k) W
  obtain ⟨b1, b2, b3⟩ := setCells_rest blk (enc d[i]!) (off + j * k) (W.setCells blk (off + i * k) (enc d[j]!))
  refine ⟨hs.holds h.lt h.hold (size_swp _ _ _), setCells_own _ _ _ _ _ _ (setCells_own _ _ _ _ _ _ h.own), ⟨by rw [b1, a1]; exact h.gr.os, by rw [b2, a2]; exact h.gr.tape, by rw [b3, a3]; exact h.gr.output, ?_, fun j' hj' hne => ?_⟩⟩
  · rw [setCells_size, setCells_size]; exact h.gr.size
  · have hne' : j' ≠ blk := fun e => hne (by rw [e])
    rw [setCells_block _ _ _ _ _ hne', setCells_block _ _ _ _ _ hne']
    exact h.gr.block j' hj' hne
end
/-- What the walks of a sorting function lean on: the types. -/
structure SFacts (P : Program) (S E F : TypeId) (k : Nat) : Prop where
  mixed : P.follows .mixedOrders = true
  t0 : P.underlying 0 = some (TypeDesc.tuple #[])
  a0 : ∀ w, (isAgg 0).run P w = .ok false w
  z0 : ∀ w, (Go.sizeOf 0).run P w = .ok 1 w
  ti : P.underlying 3 = some (TypeDesc.int IntKind.i64)
  ai : ∀ w, (isAgg 3).run P w = .ok false w
  zi : ∀ w, (Go.sizeOf 3).run P w = .ok 1 w
  vi : ∀ w, (zeroValue 3).run P w = .ok (Value.int IntKind.i64 0) w
  tb : P.underlying 4 = some TypeDesc.bool
  ab : ∀ w, (isAgg 4).run P w = .ok false w
  zb : ∀ w, (Go.sizeOf 4).run P w = .ok 1 w
  tu : P.underlying 129 = some (TypeDesc.int IntKind.u64)
  au : ∀ w, (isAgg 129).run P w = .ok false w
  zu : ∀ w, (Go.sizeOf 129).run P w = .ok 1 w
  tS : P.underlying S = some (TypeDesc.slice E)
  aS : ∀ w, (isAgg S).run P w = .ok false w
  zS : ∀ w, (Go.sizeOf S).run P w = .ok 1 w
  aE : ∀ w, (isAgg E).run P w = .ok true w
  zE : ∀ w, (Go.sizeOf E).run P w = .ok k w
  tF : P.underlying F = some (TypeDesc.func #[E, E] #[3] false)
  aF : ∀ w, (isAgg F).run P w = .ok false w
  zF : ∀ w, (Go.sizeOf F).run P w = .ok 1 w
end Go.Proofs.YteolonjmgojoeaaGreatDoor
/- The exchange of two ranges of structs: slices.swapRangeCmpFunc at records. -/
namespace Go.Proofs.YteolonjmgojoeaaGreatDoor
open Go.RowKit Go.Lib
open Go.Sort hiding Below
set_option linter.unusedVariables false
set_option linter.unusedSimpArgs false
variable {P : Program} {α : Type} [Inhabited α]

set_option maxHeartbeats 4000000 in
set_option maxRecDepth 100000 in
theorem swapRange_rcd {k : Nat} (L : SFacts P 46 77 80 k) (F : P.funcs[98]? = some Tryz.f98)
    (enc : α → List Value) (hk : ∀ x, (enc x).length = k) (h1 : ∀ x, ∀ v ∈ enc x, v.oneCell' = true) (w0 W : World) (blk off C cap a b n : Nat) (d : Array α) (cv : Value) (h : SB enc k 77 w0 blk off C d W)
    (hab : a + n ≤ b) (hbn : b + n ≤ d.size) (hsz : d.size < 4611686018427387904) :
    Calls P 98 #[.slice (some ⟨blk, off, none⟩) d.size cap, .int .i64 a, .int .i64 b, .int .i64 n, cv] W fun e w' => e = .returned (.tuple #[]) ∧ SB enc k 77 w0 blk off C (swpR d a b n) w' := by
  have mixed := L.mixed; have t0 := L.t0; have a0 := L.a0; have z0 := L.z0; have ti := L.ti; have ai := L.ai; have zi := L.zi; have vi := L.vi; have tb := L.tb; have ab := L.ab; have zb := L.zb; have tS := L.tS; have aS := L.aS; have zS := L.zS; have aE := L.aE; have zE := L.zE; have tF := L.tF; have aF := L.aF; have zF := L.zF
  have HS := Lib.hid h
  have HK := Lib.hid hk
  have H1 := Lib.hid h1
  clear h hk h1
  go_enter F, Tryz.ntmps98
  go_wp2
  go_loopw [10] (fun s wr => ∃ i : Nat, s = .int .i64 i ∧ i ≤ n ∧ Hid (SB enc k 77 w0 blk off C (swpR d a b i) wr)) (fun s _ => n - (intOf s).toNat)
  case atStart => exact ⟨0, rfl, Nat.zero_le _, HS.out⟩
  case round =>
    obtain ⟨i, rfl, hi, HB⟩ := hrel
    by_cases hlt : i < n
    · have hltz : (i : Int) < (n : Int) := by omega
      have hds : (swpR d a b i).size = d.size := swpR_size d a b i
      have wa : IntKind.i64.wrap ((a : Int) + (i : Int)) = ((a + i : Nat) : Int) := by rw [IntKind.wrap_i64]; omega
      have wb : IntKind.i64.wrap ((b : Int) + (i : Int)) = ((b + i : Nat) : Int) := by rw [IntKind.wrap_i64]; omega
      have za : ((a + i : Nat) : Int) < (d.size : Int) := by omega
      have zb' : ((b + i : Nat) : Int) < (d.size : Int) := by omega
      have hB2 := HB.out.drew
      have la := hB2.load HK.out P (i := a + i) (by omega)
      have lb := hB2.load HK.out P (i := b + i) (by omega)
      have s1 := hB2.st1 HK.out H1.out P (i := a + i) (by omega) ((swpR d a b i)[b + i]!)
      have s2 := hB2.st2 HK.out H1.out P (i := a + i) (j := b + i) (by omega) (by omega) ((swpR d a b i)[b + i]!) ((swpR d a b i)[a + i]!)
      have HN : Hid _ := hB2.swap HK.out (i := a + i) (j := b + i) (by omega) (by omega)
      have q1 : (enc (swpR d a b i)[a + i]!).length = k := HK.out _
      have q2 : (enc (swpR d a b i)[b + i]!).length = k := HK.out _
      clear hB2
      generalize enc (swpR d a b i)[a + i]! = ca at la lb s1 s2 HN q1 q2
      generalize enc (swpR d a b i)[b + i]! = cb at la lb s1 s2 HN q1 q2
      go_wp2_with fail
      go_big_region_o
      all_goals go_wp2
      go_roundw
      case rel => exact ⟨i + 1, by go_num, by omega, HN.out⟩
      case measure => simp [intOf]; omega
    · have hin : i = n := by omega
      subst hin
      go_wp2
      go_end0
      exact ⟨rfl, HB.out⟩
end Go.Proofs.YteolonjmgojoeaaGreatDoor
/- Two neighbouring ranges of structs exchanged: slices.rotateCmpFunc at records. -/
namespace Go.Proofs.YteolonjmgojoeaaGreatDoor
open Go.RowKit Go.Lib
open Go.Sort hiding Below
set_option linter.unusedVariables false
set_option linter.unusedSimpArgs false
variable {P : Program} {α : Type} [Inhabited α]

set_option maxHeartbeats 4000000 in
set_option maxRecDepth 100000 in
theorem rotate_rcd {k : Nat} (L : SFacts P 46 77 80 k) (F : P.funcs[98]? = some Tryz.f98)
    (F2 : P.funcs[85]? = some Tryz.f85)
    (enc : α → List Value) (hk : ∀ x, (enc x).length = k) (h1 : ∀ x, ∀ v ∈ enc x, v.oneCell' = true) (w0 W : World) (blk off C cap a m b : Nat) (d : Array α) (cv : Value) (h : SB enc k 77 w0 blk off C d W)
    (ham : a < m) (hmb : m < b) (hb : b ≤ d.size) (hsz : d.size < 4611686018427387904) :
    Calls P 85 #[.slice (some ⟨blk, off, none⟩) d.size cap, .int .i64 a, .int .i64 m, .int .i64 b, cv] W fun e w' => e = .returned (.tuple #[]) ∧ ∃ d', PermIn a b d d' ∧ (∀ x, d'[x]! = rotAt d a m b x) ∧ SB enc k 77 w0 blk off C d' w' := by
  have mixed := L.mixed; have t0 := L.t0; have a0 := L.a0; have z0 := L.z0; have ti := L.ti; have ai := L.ai; have zi := L.zi; have vi := L.vi; have tb := L.tb; have ab := L.ab; have zb := L.zb; have tu := L.tu; have au := L.au; have zu := L.zu; have tS := L.tS; have aS := L.aS; have zS := L.zS; have aE := L.aE; have zE := L.zE; have tF := L.tF; have aF := L.aF; have zF := L.zF
  have HSW := Lib.hid (fun (d' : Array α) (W' : World) (a b n : Nat) (h : SB enc k 77 w0 blk off C d' W') (hd : d'.size = d.size) (h2 : a + n ≤ b) (h3 : b + n ≤ d'.size) => swapRange_rcd L F enc hk h1 w0 W' blk off C cap a b n d' cv h h2 h3 (by omega))
  have HS := Lib.hid h
  have e65 : ∀ args w, (callFunc 98 args).run P w = .ok (.enter 98 args) w := enters_of F (by kernel_rfl) rfl
  have w1 : IntKind.i64.wrap ((m : Int) - (a : Int)) = ((m - a : Nat) : Int) := by rw [IntKind.wrap_i64]; omega
  have w2 : IntKind.i64.wrap ((b : Int) - (m : Int)) = ((b - m : Nat) : Int) := by rw [IntKind.wrap_i64]; omega
  clear h hk h1
  go_enter F2, Tryz.ntmps85
  go_wp2
  clear w1 w2
  go_loopw [10, 11] (fun s t wr => ∃ (i j : Nat) (d' : Array α), s = .int .i64 i ∧ t = .int .i64 j ∧ Hid (RotI d a m b d' i j ∧ SB enc k 77 w0 blk off C d' wr)) (fun s t _ => (intOf s).toNat + (intOf t).toNat)
  case atStart => exact ⟨_, _, d, rfl, rfl, RotI.start ham hmb, HS.out⟩
  case round =>
    obtain ⟨i, j, d', rfl, rfl, HI⟩ := hrel
    have hi0 := HI.out.1.1
    have hj0 := HI.out.1.2.1
    have hi1 := HI.out.1.2.2.1
    have hj1 := HI.out.1.2.2.2.1
    have hds : d'.size = d.size := HI.out.1.2.2.2.2.1.1
    have w1 : IntKind.i64.wrap ((m : Int) - (i : Int)) = ((m - i : Nat) : Int) := by rw [IntKind.wrap_i64]; omega
    by_cases hne : i = j
    · subst hne
      have HF := Lib.hid (HI.out.1.fin ham hmb hb)
      have HW := Lib.hid (HSW.out d' wr (m - i) m i HI.out.2 hds (by omega) (by omega))
      rw [hds] at HW
      go_wp2_with fail
      refine HW.out.mono ?_
      rintro e w' ⟨rfl, hB⟩
      have HB := Lib.hid hB
      clear hB
      go_wp2_with fail
      go_end0
      exact ⟨rfl, _, HF.out.1, HF.out.2, HB.out⟩
    · have q1 : ((i : Int) != (j : Int)) = true := by rw [bne_iff_ne]; omega
      by_cases hij : j < i
      · have q2 : decide ((j : Int) < (i : Int)) = true := by simp; omega
        have HN := Lib.hid (HI.out.1.left ham hmb hb hij)
        have HW := Lib.hid (HSW.out d' wr (m - i) m j HI.out.2 hds (by omega) (by omega))
        rw [hds] at HW
        have w2 : IntKind.i64.wrap ((i : Int) - (j : Int)) = ((i - j : Nat) : Int) := by rw [IntKind.wrap_i64]; omega
        go_wp2_with fail
        refine HW.out.mono ?_
        rintro e w' ⟨rfl, hB⟩
        have HB := Lib.hid hB
        clear hB
        go_wp2_with fail
        go_roundw
        case rel => exact ⟨i - j, j, _, rfl, rfl, HN.out, HB.out⟩
        case measure => simp [intOf]; omega
      · have q2 : decide ((j : Int) < (i : Int)) = false := by simp; omega
        have HN := Lib.hid (HI.out.1.right ham hmb hb (by omega))
        have HW := Lib.hid (HSW.out d' wr (m - i) (m + j - i) i HI.out.2 hds (by omega) (by omega))
        rw [hds] at HW
        have w2 : IntKind.i64.wrap ((j : Int) - (i : Int)) = ((j - i : Nat) : Int) := by rw [IntKind.wrap_i64]; omega
        have c1 : ((m + j - i : Nat) : Int) = (m : Int) + (j : Int) - (i : Int) := by omega
        rw [c1] at HW
        clear c1
        go_wp2_with fail
        refine HW.out.mono ?_
        rintro e w' ⟨rfl, hB⟩
        have HB := Lib.hid hB
        clear hB
        go_wp2_with fail
        go_roundw
        case rel => exact ⟨i, j - i, _, rfl, rfl, HN.out, HB.out⟩
        case measure => simp [intOf]; omega
end Go.Proofs.YteolonjmgojoeaaGreatDoor
