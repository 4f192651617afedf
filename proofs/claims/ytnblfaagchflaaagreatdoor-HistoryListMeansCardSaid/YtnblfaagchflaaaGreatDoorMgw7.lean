/- The three maps of an examination; lineOf, live. -/
import Derived.Test.YtnblfaagchflaaaGreatDoorMgw5
import Derived.StillTailTactics
import Derived.IntWalk
namespace Go.Proofs.YtnblfaagchflaaaGreatDoor
open Go.RowKit
set_option linter.unusedVariables false
set_option linter.unusedSimpArgs false

theorem toList_inj {a b : ByteArray} : a.toList = b.toList ↔ a = b := by
  constructor
  · intro h
    rw [ByteArray.toList_eq, ByteArray.toList_eq] at h
    cases a with | mk x => cases b with | mk y =>
    congr 1; exact Array.toList_inj.1 h
  · intro h; rw [h]
theorem equal_fil (a b : Fil) (w : World) : (Op.equal 90 (filV a) (filV b)).run Tryz.prog w = .ok (a == b) w := by
  obtain ⟨a0, a1⟩ := a
  obtain ⟨b0, b1⟩ := b
  show (Op.equalIn 10000 90 _ _).run Tryz.prog w = _
  unfold filV
  rw [run_equalIn_agg w 9999 90 _ _ (by kernel_rfl) (by kernel_rfl)]
  simp [go_sem, Op.eqFields, toList_inj]
  by_cases h1 : a0 = b0 <;> by_cases h2 : a1 = b1 <;> simp [h1, h2]
theorem check_fil (b : Bool) (a : Fil) (w : World) : (Instr.checkKey b 10000 90 (filV a)).run Tryz.prog w = .ok () w := by
  unfold filV
  rw [Instr.checkKey]
  simp [run_underlying Tryz.underlying90, go_sem]
  rw [check_string Tryz.underlying9 b _ w 9998, Result.andThen_ok]
  exact check_int Tryz.underlying3 b _ w 9998
theorem bits_fil (a : Fil) : Instr.sameBits 10000 (filV a) (filV a) = true := by
  unfold filV
  rw [Instr.sameBits]
  simp [bits_string, bits_int]
theorem keyOk_fil : KeyOk Tryz.prog 90 filV :=
  ⟨find_of_ask Tryz.underlying90 (fun _ _ => rfl) equal_fil, check_fil, fun a b h => by
    have : b = a := (eq_of_beq h).symm
    subst this
    exact bits_fil b⟩
theorem keyOk_str : KeyOk Tryz.prog 9 Value.string := keyOk_string Tryz.underlying9

def LastMap (w : World) (B : Nat) (f : ByteArray → Option Rev) : Prop := FMap Value.string Rev.val w B f
def EditMap (w : World) (B : Nat) (f : ByteArray → Option Edt) : Prop := FMap Value.string Edt.val w B f
def LineMap (w : World) (B : Nat) (f : Fil → Option Fil) : Prop := FMap filV filV w B f
theorem zero_rev (w : World) : (zeroValue 40).run Tryz.prog w = .ok zeroRev.val w := by kernel_rfl
theorem zero_edt (w : World) : (zeroValue 55).run Tryz.prog w = .ok zeroEdt.val w := by kernel_rfl
theorem zero_fil (w : World) : (zeroValue 90).run Tryz.prog w = .ok (filV zeroFil) w := by kernel_rfl
section
variable {w : World} {B : Nat}
theorem LastMap.look {f : ByteArray → Option Rev} (h : LastMap w B f) (p : ByteArray) : (Instr.lookup 63 (.map (some B)) (.string p) false).run Tryz.prog w = .ok (.agg #[.string (lastR f p).path, .int .i64 (lastR f p).num, .int .i64 (lastR f p).chg, .int .i64 (lastR f p).act, .int .i64 (lastR f p).ty.base, .bool (lastR f p).ty.k, .bool (lastR f p).ty.l, .bool (lastR f p).ty.x, .int .u64 (lastR f p).sum, .int .i64 (lastR f p).size, .string (lastR f p).frm, .int .i64 (lastR f p).fnum]) w := by
  rw [FMap.lookup h keyOk_str Tryz.underlying63 (zero_rev w) p false]
  unfold lookV lastR
  cases f p <;> rfl
theorem LastMap.look2 {f : ByteArray → Option Rev} (h : LastMap w B f) (p : ByteArray) : (Instr.lookup 63 (.map (some B)) (.string p) true).run Tryz.prog w = .ok (.tuple #[.agg #[.string (lastR f p).path, .int .i64 (lastR f p).num, .int .i64 (lastR f p).chg, .int .i64 (lastR f p).act, .int .i64 (lastR f p).ty.base, .bool (lastR f p).ty.k, .bool (lastR f p).ty.l, .bool (lastR f p).ty.x, .int .u64 (lastR f p).sum, .int .i64 (lastR f p).size, .string (lastR f p).frm, .int .i64 (lastR f p).fnum], .bool (f p).isSome]) w := by
  rw [FMap.lookup h keyOk_str Tryz.underlying63 (zero_rev w) p true]
  unfold lookV lastR
  cases f p <;> rfl
def editR (f : ByteArray → Option Edt) (p : ByteArray) : Edt := (f p).getD zeroEdt
theorem EditMap.look {f : ByteArray → Option Edt} (h : EditMap w B f) (p : ByteArray) : (Instr.lookup 119 (.map (some B)) (.string p) false).run Tryz.prog w = .ok (.agg #[.string (editR f p).path, .int .i64 (editR f p).act, .int .i64 (editR f p).ty.base, .bool (editR f p).ty.k, .bool (editR f p).ty.l, .bool (editR f p).ty.x, .int .u64 (editR f p).sum, .int .i64 (editR f p).size, .int .i64 (editR f p).base, .string (editR f p).frm, .int .i64 (editR f p).fnum, .int .i64 (editR f p).fence]) w := by
  rw [FMap.lookup h keyOk_str Tryz.underlying119 (zero_edt w) p false]
  unfold lookV editR
  cases f p <;> rfl
theorem EditMap.look2 {f : ByteArray → Option Edt} (h : EditMap w B f) (p : ByteArray) : (Instr.lookup 119 (.map (some B)) (.string p) true).run Tryz.prog w = .ok (.tuple #[.agg #[.string (editR f p).path, .int .i64 (editR f p).act, .int .i64 (editR f p).ty.base, .bool (editR f p).ty.k, .bool (editR f p).ty.l, .bool (editR f p).ty.x, .int .u64 (editR f p).sum, .int .i64 (editR f p).size, .int .i64 (editR f p).base, .string (editR f p).frm, .int .i64 (editR f p).fnum, .int .i64 (editR f p).fence], .bool (f p).isSome]) w := by
  rw [FMap.lookup h keyOk_str Tryz.underlying119 (zero_edt w) p true]
  unfold lookV editR
  cases f p <;> rfl
def lineR (f : Fil → Option Fil) (p : Fil) : Fil := (f p).getD zeroFil
theorem LineMap.look {f : Fil → Option Fil} (h : LineMap w B f) (p : ByteArray) (n : Int) : (Instr.lookup 120 (.map (some B)) (.agg #[.string p, .int .i64 n]) false).run Tryz.prog w = .ok (.agg #[.string (lineR f (p, n)).1, .int .i64 (lineR f (p, n)).2]) w := by
  have := FMap.lookup h keyOk_fil Tryz.underlying120 (zero_fil w) (p, n) false
  unfold lookV at this
  unfold lineR
  cases hf : f (p, n) <;> (rw [hf] at this; exact this)
theorem LineMap.look2 {f : Fil → Option Fil} (h : LineMap w B f) (p : ByteArray) (n : Int) : (Instr.lookup 120 (.map (some B)) (.agg #[.string p, .int .i64 n]) true).run Tryz.prog w = .ok (.tuple #[.agg #[.string (lineR f (p, n)).1, .int .i64 (lineR f (p, n)).2], .bool (f (p, n)).isSome]) w := by
  have := FMap.lookup h keyOk_fil Tryz.underlying120 (zero_fil w) (p, n) true
  unfold lookV at this
  unfold lineR
  cases hf : f (p, n) <;> (rw [hf] at this; exact this)
end

/-! lineOf. -/
theorem box12 {w : World} {g : Nat} {e : TypeId} {a0 a1 a2 a3 a4 a5 a6 a7 a8 a9 a10 a11 : Value} (h : Blk w g e [a0, a1, a2, a3, a4, a5, a6, a7, a8, a9, a10, a11]) :
    w.cell? ⟨g, 0, none⟩ = some a0 ∧ w.cell? ⟨g, 1, none⟩ = some a1 ∧ w.cell? ⟨g, 2, none⟩ = some a2 ∧ w.cell? ⟨g, 3, none⟩ = some a3 ∧ w.cell? ⟨g, 4, none⟩ = some a4 ∧ w.cell? ⟨g, 5, none⟩ = some a5 ∧
    w.cell? ⟨g, 6, none⟩ = some a6 ∧ w.cell? ⟨g, 7, none⟩ = some a7 ∧ w.cell? ⟨g, 8, none⟩ = some a8 ∧ w.cell? ⟨g, 9, none⟩ = some a9 ∧ w.cell? ⟨g, 10, none⟩ = some a10 ∧ w.cell? ⟨g, 11, none⟩ = some a11 :=
  ⟨h.cell 0, h.cell 1, h.cell 2, h.cell 3, h.cell 4, h.cell 5, h.cell 6, h.cell 7, h.cell 8, h.cell 9, h.cell 10, h.cell 11⟩
theorem box2 {w : World} {g : Nat} {e : TypeId} {a b : Value} (h : Blk w g e [a, b]) : w.cell? ⟨g, 0, none⟩ = some a ∧ w.cell? ⟨g, 1, none⟩ = some b ∧ w.frozen? ⟨g, 0, none⟩ = false ∧ w.frozen? ⟨g, 1, none⟩ = false :=
  ⟨h.cell 0, h.cell 1, h.frozen 0, h.frozen 1⟩
set_option maxRecDepth 100000 in
set_option maxHeartbeats 4000000 in
theorem lineOf_main (f : Fil → Option Fil) (r : Rev) (g : Nat) (dv dr ev rv : Value) (n : Int) (cl tx : ByteArray) (bl be bn : Nat) (w : World) (hk : Chk w g dv dr n cl tx ev rv bl be bn) (hL : LineMap w bn f) (hn : 0 < r.num) (hn2 : r.num ≤ 1000000) :
    Calls Tryz.prog 69 #[.pointer (some ⟨g, 0, none⟩), .agg #[.string r.path, .int .i64 r.num, .int .i64 r.chg, .int .i64 r.act, .int .i64 r.ty.base, .bool r.ty.k, .bool r.ty.l, .bool r.ty.x, .int .u64 r.sum, .int .i64 r.size, .string r.frm, .int .i64 r.fnum]] w
      fun e w' => e = .returned (.agg #[.string (lineV f r).1, .int .i64 (lineV f r).2]) ∧ Below w.heap.size w w' := by
  obtain ⟨W, hW⟩ : ∃ W, W = (w.alloc (.cells #[.string r.path, .int .i64 r.num, .int .i64 r.chg, .int .i64 r.act, .int .i64 r.ty.base, .bool r.ty.k, .bool r.ty.l, .bool r.ty.x, .int .u64 r.sum, .int .i64 r.size, .string r.frm, .int .i64 r.fnum] 40)).alloc (.cells #[.string ⟨#[]⟩, .int .i64 0] 90) := ⟨_, rfl⟩
  have hbW : Below w.heap.size w W := by rw [hW]; exact ((Below.refl _ _).alloc (Nat.le_refl _) _).alloc (by simp) _
  have hR : Blk W w.heap.size 40 [.string r.path, .int .i64 r.num, .int .i64 r.chg, .int .i64 r.act, .int .i64 r.ty.base, .bool r.ty.k, .bool r.ty.l, .bool r.ty.x, .int .u64 r.sum, .int .i64 r.size, .string r.frm, .int .i64 r.fnum] := by rw [hW]; exact (blk_new w _ _).alloc _
  have hF : Blk W (w.heap.size + 1) 90 [.string ⟨#[]⟩, .int .i64 0] := by
    rw [hW]
    have := blk_new (w.alloc (.cells #[.string r.path, .int .i64 r.num, .int .i64 r.chg, .int .i64 r.act, .int .i64 r.ty.base, .bool r.ty.k, .bool r.ty.l, .bool r.ty.x, .int .u64 r.sum, .int .i64 r.size, .string r.frm, .int .i64 r.fnum] 40)) [.string ⟨#[]⟩, .int .i64 0] 90
    simpa using this
  have hK : Chk W g dv dr n cl tx ev rv bl be bn := Blk.below hk hbW (Blk.lt hk)
  have hLW : LineMap W bn f := FMap.below hL hbW
  have HW := Lib.hid hW
  clear hW
  by_cases h1 : r.act = 1
  · have H : Hid (lineV f r = (r.path, r.num)) := Lib.hid (by unfold lineV; rw [if_pos h1])
    have q1 : (r.act == 1) = true := by rw [h1]; rfl
    clear h1 hbW
    go_enter Tryz.func69, Tryz.ntmps69
    go_wp2_with fail
    refine bodyPost_ret (v := .agg #[.string r.path, .int .i64 r.num]) (by simp [results, Tryz.results69, go_sem]) rfl ⟨?_, ((Below.refl _ _).alloc (Nat.le_refl _) _).alloc (by simp) _⟩
    rw [H.out]
  · have q1 : (r.act == 1) = false := by simpa using h1
    obtain ⟨c0, c1, c2, c3, c4, c5, c6, c7, c8, c9, c10, c11⟩ := box12 hR
    obtain ⟨f0, f1, f2, f3⟩ := box2 hF
    obtain ⟨k0, k1, k2, k5, k6, k7, k8, k9⟩ := box10 hK
    by_cases h4 : r.act = 4
    · have H : Hid (lineV f r = lineR f (r.frm, r.fnum)) := Lib.hid (by unfold lineV lineR; rw [if_neg h1, if_pos h4])
      have q4 : (r.act == 4) = true := by rw [h4]; rfl
      have hlk := LineMap.look (w := W.drew) hLW r.frm r.fnum
      clear h1 h4
      generalize lineR f (r.frm, r.fnum) = o at H hlk
      go_enter Tryz.func69, Tryz.ntmps69
      go_wp2_with fail
      rw [← HW.out]
      go_still_tail 10, (by kernel_rfl)
      change wpList _ _ _ _ _ W.drew
      have hB2 : Below w.heap.size w W.drew := hbW.drew
      have hF2 : Blk W.drew (w.heap.size + 1) 90 [.string ⟨#[]⟩, .int .i64 0] := hF
      clear hlk
      generalize W.drew = W2 at hB2 hF2 ⊢
      obtain ⟨f0, f1, f2, f3⟩ := box2 hF2
      go_wp2_with fail
      have hF3 := (hF2.set_ 0 (.string o.1)).set_ 1 (.int .i64 o.2)
      have hB3 := (hB2.setCell (p := ⟨w.heap.size + 1, 0, none⟩) (by simp) (.string o.1)).setCell (p := ⟨w.heap.size + 1, 1, none⟩) (by simp) (.int .i64 o.2)
      generalize ((W2.setCell ⟨w.heap.size + 1, 0, none⟩ (.string o.1)).setCell ⟨w.heap.size + 1, 1, none⟩ (.int .i64 o.2)) = W3 at hF3 hB3 ⊢
      obtain ⟨e0, e1, -, -⟩ := box2 hF3
      refine bodyPost_ret (v := .agg #[.string o.1, .int .i64 o.2]) (by simp [results, Tryz.results69, go_sem, e0, e1]) rfl ⟨?_, hB3⟩
      rw [H.out]
    · have H : Hid (lineV f r = lineR f (r.path, r.num - 1)) := Lib.hid (by unfold lineV lineR; rw [if_neg h1, if_neg h4])
      have q4 : (r.act == 4) = false := by simpa using h4
      have hlk := LineMap.look (w := W.drew) hLW r.path (r.num - 1)
      clear h1 h4
      generalize lineR f (r.path, r.num - 1) = o at H hlk
      go_enter Tryz.func69, Tryz.ntmps69
      go_wp2_with fail
      rw [← HW.out]
      have hwr : IntKind.i64.wrap (r.num - 1) = r.num - 1 := IntWalk.i64_in _ (by omega)
      go_still_tail 11, (by kernel_rfl)
      change wpList _ _ _ _ _ W.drew
      clear hwr
      have hB2 : Below w.heap.size w W.drew := hbW.drew
      have hF2 : Blk W.drew (w.heap.size + 1) 90 [.string ⟨#[]⟩, .int .i64 0] := hF
      clear hlk
      generalize W.drew = W2 at hB2 hF2 ⊢
      obtain ⟨f0, f1, f2, f3⟩ := box2 hF2
      go_wp2_with fail
      have hF3 := (hF2.set_ 0 (.string o.1)).set_ 1 (.int .i64 o.2)
      have hB3 := (hB2.setCell (p := ⟨w.heap.size + 1, 0, none⟩) (by simp) (.string o.1)).setCell (p := ⟨w.heap.size + 1, 1, none⟩) (by simp) (.int .i64 o.2)
      generalize ((W2.setCell ⟨w.heap.size + 1, 0, none⟩ (.string o.1)).setCell ⟨w.heap.size + 1, 1, none⟩ (.int .i64 o.2)) = W3 at hF3 hB3 ⊢
      obtain ⟨e0, e1, -, -⟩ := box2 hF3
      refine bodyPost_ret (v := .agg #[.string o.1, .int .i64 o.2]) (by simp [results, Tryz.results69, go_sem, e0, e1]) rfl ⟨?_, hB3⟩
      rw [H.out]
end Go.Proofs.YtnblfaagchflaaaGreatDoor
/- live, unchanged, revision, room. -/
namespace Go.Proofs.YtnblfaagchflaaaGreatDoor
open Go.RowKit
set_option linter.unusedVariables false
set_option linter.unusedSimpArgs false

theorem isLast_eq (f : ByteArray → Option Rev) (p : ByteArray) : isLast f p = ((f p).isSome && liveA (lastR f p).act) := by
  unfold isLast lastR; cases f p <;> rfl
theorem isLive_same (a : Int) (w : World) : Calls Tryz.prog 19 #[.int .i64 a] w fun e w' => e = .returned (.bool (liveA a)) ∧ w' = w :=
  (isLive_any a w).mono fun _ _ ⟨h1, h2⟩ => ⟨h1, h2.symm⟩
theorem frz12 {w : World} {g : Nat} {e : TypeId} {a0 a1 a2 a3 a4 a5 a6 a7 a8 a9 a10 a11 : Value} (h : Blk w g e [a0, a1, a2, a3, a4, a5, a6, a7, a8, a9, a10, a11]) :
    w.frozen? ⟨g, 0, none⟩ = false ∧ w.frozen? ⟨g, 1, none⟩ = false ∧ w.frozen? ⟨g, 2, none⟩ = false ∧ w.frozen? ⟨g, 3, none⟩ = false ∧ w.frozen? ⟨g, 4, none⟩ = false ∧ w.frozen? ⟨g, 5, none⟩ = false ∧
    w.frozen? ⟨g, 6, none⟩ = false ∧ w.frozen? ⟨g, 7, none⟩ = false ∧ w.frozen? ⟨g, 8, none⟩ = false ∧ w.frozen? ⟨g, 9, none⟩ = false ∧ w.frozen? ⟨g, 10, none⟩ = false ∧ w.frozen? ⟨g, 11, none⟩ = false :=
  ⟨h.frozen 0, h.frozen 1, h.frozen 2, h.frozen 3, h.frozen 4, h.frozen 5, h.frozen 6, h.frozen 7, h.frozen 8, h.frozen 9, h.frozen 10, h.frozen 11⟩
theorem set12 {w : World} {g : Nat} {e : TypeId} {a0 a1 a2 a3 a4 a5 a6 a7 a8 a9 a10 a11 : Value} (h : Blk w g e [a0, a1, a2, a3, a4, a5, a6, a7, a8, a9, a10, a11]) (r : Rev) :
    Blk ((((((((((((w.setCell ⟨g, 0, none⟩ (.string r.path)).setCell ⟨g, 1, none⟩ (.int .i64 r.num)).setCell ⟨g, 2, none⟩ (.int .i64 r.chg)).setCell ⟨g, 3, none⟩ (.int .i64 r.act)).setCell ⟨g, 4, none⟩ (.int .i64 r.ty.base)).setCell ⟨g, 5, none⟩ (.bool r.ty.k)).setCell ⟨g, 6, none⟩ (.bool r.ty.l)).setCell ⟨g, 7, none⟩ (.bool r.ty.x)).setCell ⟨g, 8, none⟩ (.int .u64 r.sum)).setCell ⟨g, 9, none⟩ (.int .i64 r.size)).setCell ⟨g, 10, none⟩ (.string r.frm)).setCell ⟨g, 11, none⟩ (.int .i64 r.fnum)) g e [.string r.path, .int .i64 r.num, .int .i64 r.chg, .int .i64 r.act, .int .i64 r.ty.base, .bool r.ty.k, .bool r.ty.l, .bool r.ty.x, .int .u64 r.sum, .int .i64 r.size, .string r.frm, .int .i64 r.fnum] :=
  ((((((((((((h.set_ 0 _).set_ 1 _).set_ 2 _).set_ 3 _).set_ 4 _).set_ 5 _).set_ 6 _).set_ 7 _).set_ 8 _).set_ 9 _).set_ 10 _).set_ 11 _)
theorem below12 {B : Nat} {w0 w : World} {g : Nat} (h : Below B w0 w) (hg : B ≤ g) (r : Rev) : Below B w0 ((((((((((((w.setCell ⟨g, 0, none⟩ (.string r.path)).setCell ⟨g, 1, none⟩ (.int .i64 r.num)).setCell ⟨g, 2, none⟩ (.int .i64 r.chg)).setCell ⟨g, 3, none⟩ (.int .i64 r.act)).setCell ⟨g, 4, none⟩ (.int .i64 r.ty.base)).setCell ⟨g, 5, none⟩ (.bool r.ty.k)).setCell ⟨g, 6, none⟩ (.bool r.ty.l)).setCell ⟨g, 7, none⟩ (.bool r.ty.x)).setCell ⟨g, 8, none⟩ (.int .u64 r.sum)).setCell ⟨g, 9, none⟩ (.int .i64 r.size)).setCell ⟨g, 10, none⟩ (.string r.frm)).setCell ⟨g, 11, none⟩ (.int .i64 r.fnum)) :=
  ((((((((((((h.setCell hg _).setCell hg _).setCell hg _).setCell hg _).setCell hg _).setCell hg _).setCell hg _).setCell hg _).setCell hg _).setCell hg _).setCell hg _).setCell hg _)

set_option maxRecDepth 100000 in
set_option maxHeartbeats 4000000 in
theorem live_any (f : ByteArray → Option Rev) (p : ByteArray) (g : Nat) (dv dr ev rv : Value) (n : Int) (cl tx : ByteArray) (bl be bn : Nat) (w : World) (hk : Chk w g dv dr n cl tx ev rv bl be bn) (hL : LastMap w bl f) :
    Calls Tryz.prog 128 #[.pointer (some ⟨g, 0, none⟩), .string p] w
      fun e w' => e = .returned (.tuple #[.agg #[.string (lastR f p).path, .int .i64 (lastR f p).num, .int .i64 (lastR f p).chg, .int .i64 (lastR f p).act, .int .i64 (lastR f p).ty.base, .bool (lastR f p).ty.k, .bool (lastR f p).ty.l, .bool (lastR f p).ty.x, .int .u64 (lastR f p).sum, .int .i64 (lastR f p).size, .string (lastR f p).frm, .int .i64 (lastR f p).fnum], .bool (isLast f p)]) ∧ Below w.heap.size w w' := by
  have hbW : Below w.heap.size w (w.alloc (.cells #[.string ⟨#[]⟩, .int .i64 0, .int .i64 0, .int .i64 0, .int .i64 0, .bool false, .bool false, .bool false, .int .u64 0, .int .i64 0, .string ⟨#[]⟩, .int .i64 0] 40)) := (Below.refl _ _).alloc (Nat.le_refl _) _
  have hK : Chk (w.alloc (.cells #[.string ⟨#[]⟩, .int .i64 0, .int .i64 0, .int .i64 0, .int .i64 0, .bool false, .bool false, .bool false, .int .u64 0, .int .i64 0, .string ⟨#[]⟩, .int .i64 0] 40)) g dv dr n cl tx ev rv bl be bn := Blk.below hk hbW (Blk.lt hk)
  have hlk := LastMap.look2 (w := w.alloc (.cells #[.string ⟨#[]⟩, .int .i64 0, .int .i64 0, .int .i64 0, .int .i64 0, .bool false, .bool false, .bool false, .int .u64 0, .int .i64 0, .string ⟨#[]⟩, .int .i64 0] 40)) (FMap.below hL hbW) p
  obtain ⟨-, -, -, -, -, k7, -, -⟩ := box10 hK
  clear hK
  have HL := Lib.hid (isLast_eq f p)
  have hgl := Blk.lt hk
  generalize lastR f p = r at hlk HL ⊢
  generalize (f p).isSome = b at hlk HL
  obtain ⟨W, hW⟩ : ∃ W, W = (w.alloc (.cells #[.string ⟨#[]⟩, .int .i64 0, .int .i64 0, .int .i64 0, .int .i64 0, .bool false, .bool false, .bool false, .int .u64 0, .int .i64 0, .string ⟨#[]⟩, .int .i64 0] 40)).alloc (.cells #[.string r.path, .int .i64 r.num, .int .i64 r.chg, .int .i64 r.act, .int .i64 r.ty.base, .bool r.ty.k, .bool r.ty.l, .bool r.ty.x, .int .u64 r.sum, .int .i64 r.size, .string r.frm, .int .i64 r.fnum] 40) := ⟨_, rfl⟩
  have hbW2 : Below w.heap.size w W := by rw [hW]; exact hbW.alloc hbW.size _
  have hZ : Blk W w.heap.size 40 [.string ⟨#[]⟩, .int .i64 0, .int .i64 0, .int .i64 0, .int .i64 0, .bool false, .bool false, .bool false, .int .u64 0, .int .i64 0, .string ⟨#[]⟩, .int .i64 0] := by rw [hW]; exact (blk_new w _ _).alloc _
  have hR : Blk W (w.heap.size + 1) 40 [.string r.path, .int .i64 r.num, .int .i64 r.chg, .int .i64 r.act, .int .i64 r.ty.base, .bool r.ty.k, .bool r.ty.l, .bool r.ty.x, .int .u64 r.sum, .int .i64 r.size, .string r.frm, .int .i64 r.fnum] := by
    rw [hW]
    have := blk_new (w.alloc (.cells #[.string ⟨#[]⟩, .int .i64 0, .int .i64 0, .int .i64 0, .int .i64 0, .bool false, .bool false, .bool false, .int .u64 0, .int .i64 0, .string ⟨#[]⟩, .int .i64 0] 40)) [.string r.path, .int .i64 r.num, .int .i64 r.chg, .int .i64 r.act, .int .i64 r.ty.base, .bool r.ty.k, .bool r.ty.l, .bool r.ty.x, .int .u64 r.sum, .int .i64 r.size, .string r.frm, .int .i64 r.fnum] 40
    simpa using this
  have HW := Lib.hid hW
  clear hW
  obtain ⟨c0, c1, c2, c3, c4, c5, c6, c7, c8, c9, c10, c11⟩ := box12 hR
  obtain ⟨z0, z1, z2, z3, z4, z5, z6, z7, z8, z9, z10, z11⟩ := box12 hZ
  obtain ⟨y0, y1, y2, y3, y4, y5, y6, y7, y8, y9, y10, y11⟩ := frz12 hZ
  cases b
  · go_enter Tryz.func128, Tryz.ntmps128
    go_wp2_with fail
    rw [← HW.out]
    clear hlk k7 hbW
    go_region
    have hZ2 := set12 hZ r
    have hB2 := below12 hbW2 (Nat.le_refl w.heap.size) r
    generalize ((((((((((((W.setCell ⟨w.heap.size, 0, none⟩ (.string r.path)).setCell ⟨w.heap.size, 1, none⟩ (.int .i64 r.num)).setCell ⟨w.heap.size, 2, none⟩ (.int .i64 r.chg)).setCell ⟨w.heap.size, 3, none⟩ (.int .i64 r.act)).setCell ⟨w.heap.size, 4, none⟩ (.int .i64 r.ty.base)).setCell ⟨w.heap.size, 5, none⟩ (.bool r.ty.k)).setCell ⟨w.heap.size, 6, none⟩ (.bool r.ty.l)).setCell ⟨w.heap.size, 7, none⟩ (.bool r.ty.x)).setCell ⟨w.heap.size, 8, none⟩ (.int .u64 r.sum)).setCell ⟨w.heap.size, 9, none⟩ (.int .i64 r.size)).setCell ⟨w.heap.size, 10, none⟩ (.string r.frm)).setCell ⟨w.heap.size, 11, none⟩ (.int .i64 r.fnum)) = W3 at hZ2 hB2 ⊢
    go_wp2_with fail
    obtain ⟨e0, e1, e2, e3, e4, e5, e6, e7, e8, e9, e10, e11⟩ := box12 hZ2
    refine bodyPost_ret (v := .tuple #[.agg #[.string r.path, .int .i64 r.num, .int .i64 r.chg, .int .i64 r.act, .int .i64 r.ty.base, .bool r.ty.k, .bool r.ty.l, .bool r.ty.x, .int .u64 r.sum, .int .i64 r.size, .string r.frm, .int .i64 r.fnum], .bool false]) (by simp [results, Tryz.results128, go_sem, e0, e1, e2, e3, e4, e5, e6, e7, e8, e9, e10, e11]) rfl ⟨?_, hB2.drew⟩
    rw [HL.out]; rfl
  · go_enter Tryz.func128, Tryz.ntmps128
    go_wp2_with fail
    rw [← HW.out]
    clear hlk k7 hbW
    go_region_with (go_at_call 19; refine (isLive_any _ _).mono ?_; rintro e w' ⟨rfl, rfl⟩)
    all_goals
      have hZ2 := set12 hZ r
      have hB2 := below12 hbW2 (Nat.le_refl w.heap.size) r
      generalize ((((((((((((W.setCell ⟨w.heap.size, 0, none⟩ (.string r.path)).setCell ⟨w.heap.size, 1, none⟩ (.int .i64 r.num)).setCell ⟨w.heap.size, 2, none⟩ (.int .i64 r.chg)).setCell ⟨w.heap.size, 3, none⟩ (.int .i64 r.act)).setCell ⟨w.heap.size, 4, none⟩ (.int .i64 r.ty.base)).setCell ⟨w.heap.size, 5, none⟩ (.bool r.ty.k)).setCell ⟨w.heap.size, 6, none⟩ (.bool r.ty.l)).setCell ⟨w.heap.size, 7, none⟩ (.bool r.ty.x)).setCell ⟨w.heap.size, 8, none⟩ (.int .u64 r.sum)).setCell ⟨w.heap.size, 9, none⟩ (.int .i64 r.size)).setCell ⟨w.heap.size, 10, none⟩ (.string r.frm)).setCell ⟨w.heap.size, 11, none⟩ (.int .i64 r.fnum)) = W3 at hZ2 hB2 ⊢
      go_wp2_with fail
      obtain ⟨e0, e1, e2, e3, e4, e5, e6, e7, e8, e9, e10, e11⟩ := box12 hZ2
      refine bodyPost_ret (v := .tuple #[.agg #[.string r.path, .int .i64 r.num, .int .i64 r.chg, .int .i64 r.act, .int .i64 r.ty.base, .bool r.ty.k, .bool r.ty.l, .bool r.ty.x, .int .u64 r.sum, .int .i64 r.size, .string r.frm, .int .i64 r.fnum], .bool (liveA r.act)]) (by simp [results, Tryz.results128, go_sem, e0, e1, e2, e3, e4, e5, e6, e7, e8, e9, e10, e11]) rfl ⟨?_, hB2.drew⟩
      rw [HL.out]; rfl
end Go.Proofs.YtnblfaagchflaaaGreatDoor
/- unchanged, revision, room. -/
namespace Go.Proofs.YtnblfaagchflaaaGreatDoor
open Go.RowKit
set_option linter.unusedVariables false
set_option linter.unusedSimpArgs false

theorem run_eql_ty (a b : Ty) (W : World) : (binOp .eql 35 (.agg #[.int .i64 a.base, .bool a.k, .bool a.l, .bool a.x]) (.agg #[.int .i64 b.base, .bool b.k, .bool b.l, .bool b.x])).run Tryz.prog W = .ok (.bool (decide (a = b))) W := by
  obtain ⟨a0, a1, a2, a3⟩ := a
  obtain ⟨b0, b1, b2, b3⟩ := b
  rw [run_eql_struct, run_equalIn_agg W 9999 35 _ _ (by kernel_rfl) (by kernel_rfl)]
  simp [go_sem, Op.eqFields]
  by_cases h1 : a0 = b0 <;> by_cases h2 : a1 = b1 <;> by_cases h3 : a2 = b2 <;> by_cases h4 : a3 = b3 <;> simp [h1, h2, h3, h4]
theorem run_neq_ty (a b : Ty) (W : World) : (binOp .neq 35 (.agg #[.int .i64 a.base, .bool a.k, .bool a.l, .bool a.x]) (.agg #[.int .i64 b.base, .bool b.k, .bool b.l, .bool b.x])).run Tryz.prog W = .ok (.bool (!decide (a = b))) W := by
  obtain ⟨a0, a1, a2, a3⟩ := a
  obtain ⟨b0, b1, b2, b3⟩ := b
  rw [run_neq_struct, run_equalIn_agg W 9999 35 _ _ (by kernel_rfl) (by kernel_rfl)]
  simp [go_sem, Op.eqFields]
  by_cases h1 : a0 = b0 <;> by_cases h2 : a1 = b1 <;> by_cases h3 : a2 = b2 <;> by_cases h4 : a3 = b3 <;> simp [h1, h2, h3, h4]
theorem run_eql_con (a b c d : Int) (W : World) : (binOp .eql 38 (.agg #[.int .u64 a, .int .i64 b]) (.agg #[.int .u64 c, .int .i64 d])).run Tryz.prog W = .ok (.bool (decide (a = c) && decide (b = d))) W := by
  rw [run_eql_struct, run_equalIn_agg W 9999 38 _ _ (by kernel_rfl) (by kernel_rfl)]
  simp [go_sem, Op.eqFields]
  by_cases h1 : a = c <;> by_cases h2 : b = d <;> simp [h1, h2]
theorem run_neq_con (a b c d : Int) (W : World) : (binOp .neq 38 (.agg #[.int .u64 a, .int .i64 b]) (.agg #[.int .u64 c, .int .i64 d])).run Tryz.prog W = .ok (.bool (!(decide (a = c) && decide (b = d)))) W := by
  rw [run_neq_struct, run_equalIn_agg W 9999 38 _ _ (by kernel_rfl) (by kernel_rfl)]
  simp [go_sem, Op.eqFields]
  by_cases h1 : a = c <;> by_cases h2 : b = d <;> simp [h1, h2]

set_option maxRecDepth 100000 in
set_option maxHeartbeats 4000000 in
theorem unchanged_any (f : ByteArray → Option Rev) (x : Edt) (g : Nat) (dv dr ev rv : Value) (n : Int) (cl tx : ByteArray) (bl be bn : Nat) (w : World) (hk : Chk w g dv dr n cl tx ev rv bl be bn) (hL : LastMap w bl f) :
    Calls Tryz.prog 107 #[.pointer (some ⟨g, 0, none⟩), .agg #[.string x.path, .int .i64 x.act, .int .i64 x.ty.base, .bool x.ty.k, .bool x.ty.l, .bool x.ty.x, .int .u64 x.sum, .int .i64 x.size, .int .i64 x.base, .string x.frm, .int .i64 x.fnum, .int .i64 x.fence]] w
      fun e w' => e = .returned (.bool (unchanged f x)) ∧ Below w.heap.size w w' := by
  obtain ⟨W, hW⟩ : ∃ W, W = w.alloc (.cells #[.string x.path, .int .i64 x.act, .int .i64 x.ty.base, .bool x.ty.k, .bool x.ty.l, .bool x.ty.x, .int .u64 x.sum, .int .i64 x.size, .int .i64 x.base, .string x.frm, .int .i64 x.fnum, .int .i64 x.fence] 55) := ⟨_, rfl⟩
  have hbW : Below w.heap.size w W := by rw [hW]; exact (Below.refl _ _).alloc (Nat.le_refl _) _
  have hX : Blk W w.heap.size 55 [.string x.path, .int .i64 x.act, .int .i64 x.ty.base, .bool x.ty.k, .bool x.ty.l, .bool x.ty.x, .int .u64 x.sum, .int .i64 x.size, .int .i64 x.base, .string x.frm, .int .i64 x.fnum, .int .i64 x.fence] := by rw [hW]; exact blk_new w _ _
  have hK : Chk W g dv dr n cl tx ev rv bl be bn := Blk.below hk hbW (Blk.lt hk)
  have hlk : ∀ w', Below W.heap.size W w' → _ := fun w' hb => LastMap.look (w := w') (FMap.below (FMap.below hL hbW) hb) x.path
  obtain ⟨-, -, -, -, -, k7, -, -⟩ := box10 hK
  have hsz := hX.lt
  have HW := Lib.hid hW
  have HU : Hid (unchanged f x = (decide (x.act = 2) && decide (x.ty = (lastR f x.path).ty) && (decide (x.sum = (lastR f x.path).sum) && decide (x.size = (lastR f x.path).size)))) := Lib.hid (by unfold unchanged; rw [Bool.and_assoc (_ && _)])
  clear hW hK
  generalize lastR f x.path = r at hlk HU
  have hty := run_eql_ty x.ty r.ty
  have hcn := run_eql_con x.sum x.size r.sum r.size
  generalize (decide (x.sum = r.sum) && decide (x.size = r.size)) = bc at hcn HU
  generalize decide (x.ty = r.ty) = bt at hty HU
  obtain ⟨c0, c1, c2, c3, c4, c5, c6, c7, c8, c9, c10, c11⟩ := box12 hX
  have HC : Hid (∀ w', Below W.heap.size W w' → w'.cell? ⟨g, 7, none⟩ = some (.map (some bl)) ∧ w'.cell? ⟨w.heap.size, 0, none⟩ = some (.string x.path)) := Lib.hid fun w' hb => ⟨cell_below k7 hb (cell_lt k7), cell_below c0 hb (cell_lt c0)⟩
  have fin : ∀ b, (x.act == 2) = b → Calls Tryz.prog 107 #[.pointer (some ⟨g, 0, none⟩), .agg #[.string x.path, .int .i64 x.act, .int .i64 x.ty.base, .bool x.ty.k, .bool x.ty.l, .bool x.ty.x, .int .u64 x.sum, .int .i64 x.size, .int .i64 x.base, .string x.frm, .int .i64 x.fnum, .int .i64 x.fence]] w
      fun e w' => e = .returned (.bool (b && bt && bc)) ∧ Below w.heap.size w w' := by
    intro b hb
    cases b <;> cases bt
    all_goals
      go_enter Tryz.func107, Tryz.ntmps107
      go_wp2_with fail
      rw [← HW.out]
      go_region_held3 (fun w' => Below W.heap.size W w' ∧ w'.cell? ⟨g, 7, none⟩ = some (.map (some bl)) ∧ w'.cell? ⟨w.heap.size, 0, none⟩ = some (.string x.path))
        ((refine and_of ?_ (HC.out _); first | exact (Below.refl _ _).drew | assumption | exact ((Below.refl _ _).alloc (Nat.le_refl _) _).drew)) (fail)
      all_goals
        have hX2 : Blk (W.alloc (.cells #[.string r.path, .int .i64 r.num, .int .i64 r.chg, .int .i64 r.act, .int .i64 r.ty.base, .bool r.ty.k, .bool r.ty.l, .bool r.ty.x, .int .u64 r.sum, .int .i64 r.size, .string r.frm, .int .i64 r.fnum] 40)).drew w.heap.size 55 [.string x.path, .int .i64 x.act, .int .i64 x.ty.base, .bool x.ty.k, .bool x.ty.l, .bool x.ty.x, .int .u64 x.sum, .int .i64 x.size, .int .i64 x.base, .string x.frm, .int .i64 x.fnum, .int .i64 x.fence] := hX.alloc _
        have hR2 : Blk (W.alloc (.cells #[.string r.path, .int .i64 r.num, .int .i64 r.chg, .int .i64 r.act, .int .i64 r.ty.base, .bool r.ty.k, .bool r.ty.l, .bool r.ty.x, .int .u64 r.sum, .int .i64 r.size, .string r.frm, .int .i64 r.fnum] 40)).drew W.heap.size 40 [.string r.path, .int .i64 r.num, .int .i64 r.chg, .int .i64 r.act, .int .i64 r.ty.base, .bool r.ty.k, .bool r.ty.l, .bool r.ty.x, .int .u64 r.sum, .int .i64 r.size, .string r.frm, .int .i64 r.fnum] := blk_new W _ _
        have hB2 : Below w.heap.size w (W.alloc (.cells #[.string r.path, .int .i64 r.num, .int .i64 r.chg, .int .i64 r.act, .int .i64 r.ty.base, .bool r.ty.k, .bool r.ty.l, .bool r.ty.x, .int .u64 r.sum, .int .i64 r.size, .string r.frm, .int .i64 r.fnum] 40)).drew := (hbW.alloc hbW.size _).drew
        clear hlk c0 c1 c2 c3 c4 c5 c6 c7 c8 c9 c10 c11 k7
        generalize (W.alloc (.cells #[.string r.path, .int .i64 r.num, .int .i64 r.chg, .int .i64 r.act, .int .i64 r.ty.base, .bool r.ty.k, .bool r.ty.l, .bool r.ty.x, .int .u64 r.sum, .int .i64 r.size, .string r.frm, .int .i64 r.fnum] 40)).drew = W2 at hB2 hX2 hR2 ⊢
        obtain ⟨c0, c1, c2, c3, c4, c5, c6, c7, c8, c9, c10, c11⟩ := box12 hX2
        obtain ⟨d0, d1, d2, d3, d4, d5, d6, d7, d8, d9, d10, d11⟩ := box12 hR2
        go_wp2_with fail
        go_ret
        exact ⟨rfl, hB2⟩
  have := fin _ rfl
  rw [HU.out]
  rwa [show (x.act == 2) = decide (x.act = 2) by rw [Bool.eq_iff_iff]; simp] at this

set_option maxRecDepth 100000 in
set_option maxHeartbeats 4000000 in
theorem revision_any (f : ByteArray → Option Rev) (x : Edt) (g : Nat) (dv dr ev rv : Value) (n : Int) (cl tx : ByteArray) (bl be bn : Nat) (w : World) (hk : Chk w g dv dr n cl tx ev rv bl be bn) (hL : LastMap w bl f)
    (h1 : 0 ≤ (lastR f x.path).num) (h2 : (lastR f x.path).num ≤ 1000000) :
    Calls Tryz.prog 41 #[.pointer (some ⟨g, 0, none⟩), .agg #[.string x.path, .int .i64 x.act, .int .i64 x.ty.base, .bool x.ty.k, .bool x.ty.l, .bool x.ty.x, .int .u64 x.sum, .int .i64 x.size, .int .i64 x.base, .string x.frm, .int .i64 x.fnum, .int .i64 x.fence]] w
      fun e w' => e = .returned (.agg #[.string (madeR f n x).path, .int .i64 (madeR f n x).num, .int .i64 (madeR f n x).chg, .int .i64 (madeR f n x).act, .int .i64 (madeR f n x).ty.base, .bool (madeR f n x).ty.k, .bool (madeR f n x).ty.l, .bool (madeR f n x).ty.x, .int .u64 (madeR f n x).sum, .int .i64 (madeR f n x).size, .string (madeR f n x).frm, .int .i64 (madeR f n x).fnum]) ∧ Below w.heap.size w w' := by
  obtain ⟨W, hW⟩ : ∃ W, W = (w.alloc (.cells #[.string x.path, .int .i64 x.act, .int .i64 x.ty.base, .bool x.ty.k, .bool x.ty.l, .bool x.ty.x, .int .u64 x.sum, .int .i64 x.size, .int .i64 x.base, .string x.frm, .int .i64 x.fnum, .int .i64 x.fence] 55)).alloc (.cells #[.string ⟨#[]⟩, .int .i64 0, .int .i64 0, .int .i64 0, .int .i64 0, .bool false, .bool false, .bool false, .int .u64 0, .int .i64 0, .string ⟨#[]⟩, .int .i64 0] 40) := ⟨_, rfl⟩
  have hbW : Below w.heap.size w W := by rw [hW]; exact ((Below.refl _ _).alloc (Nat.le_refl _) _).alloc (by simp) _
  have hX : Blk W w.heap.size 55 [.string x.path, .int .i64 x.act, .int .i64 x.ty.base, .bool x.ty.k, .bool x.ty.l, .bool x.ty.x, .int .u64 x.sum, .int .i64 x.size, .int .i64 x.base, .string x.frm, .int .i64 x.fnum, .int .i64 x.fence] := by rw [hW]; exact (blk_new w _ _).alloc _
  have hZ : Blk W (w.heap.size + 1) 40 [.string ⟨#[]⟩, .int .i64 0, .int .i64 0, .int .i64 0, .int .i64 0, .bool false, .bool false, .bool false, .int .u64 0, .int .i64 0, .string ⟨#[]⟩, .int .i64 0] := by
    rw [hW]
    have := blk_new (w.alloc (.cells #[.string x.path, .int .i64 x.act, .int .i64 x.ty.base, .bool x.ty.k, .bool x.ty.l, .bool x.ty.x, .int .u64 x.sum, .int .i64 x.size, .int .i64 x.base, .string x.frm, .int .i64 x.fnum, .int .i64 x.fence] 55)) [.string ⟨#[]⟩, .int .i64 0, .int .i64 0, .int .i64 0, .int .i64 0, .bool false, .bool false, .bool false, .int .u64 0, .int .i64 0, .string ⟨#[]⟩, .int .i64 0] 40
    simpa using this
  have hK : Chk W g dv dr n cl tx ev rv bl be bn := Blk.below hk hbW (Blk.lt hk)
  have hlk := LastMap.look (w := W.drew) (FMap.below hL hbW.drew) x.path
  obtain ⟨-, -, k2, -, -, k7, -, -⟩ := box10 hK
  have HW := Lib.hid hW
  have HM : Hid (madeR f n x = ⟨x.path, (lastR f x.path).num + 1, n, x.act, x.ty, x.sum, x.size, x.frm, x.fnum⟩) := Lib.hid rfl
  clear hW hK
  generalize lastR f x.path = r at hlk HM h1 h2
  generalize madeR f n x = m at HM ⊢
  obtain ⟨c0, c1, c2, c3, c4, c5, c6, c7, c8, c9, c10, c11⟩ := box12 hX
  go_enter Tryz.func41, Tryz.ntmps41
  go_wp2_with fail
  rw [← HW.out]
  have hwr : IntKind.i64.wrap (r.num + 1) = r.num + 1 := IntWalk.i64_in _ (by omega)
  have hfl : ∀ w, (Instr.field 40 (.agg #[.string r.path, .int .i64 r.num, .int .i64 r.chg, .int .i64 r.act, .int .i64 r.ty.base, .bool r.ty.k, .bool r.ty.l, .bool r.ty.x, .int .u64 r.sum, .int .i64 r.size, .string r.frm, .int .i64 r.fnum]) 1).run Tryz.prog w = .ok (.int .i64 r.num) w := fun w => by kernel_rfl
  go_still_tail 27, (by kernel_rfl)
  change wpList _ _ _ _ _ W.drew
  clear hwr hfl hlk c0 c1 c2 c3 c4 c5 c6 c7 c8 c9 c10 c11 k2 k7
  have hB2 : Below w.heap.size w W.drew := hbW.drew
  have hZ2 : Blk W.drew (w.heap.size + 1) 40 [.string ⟨#[]⟩, .int .i64 0, .int .i64 0, .int .i64 0, .int .i64 0, .bool false, .bool false, .bool false, .int .u64 0, .int .i64 0, .string ⟨#[]⟩, .int .i64 0] := hZ
  generalize W.drew = W2 at hB2 hZ2 ⊢
  obtain ⟨z0, z1, z2, z3, z4, z5, z6, z7, z8, z9, z10, z11⟩ := box12 hZ2
  obtain ⟨y0, y1, y2, y3, y4, y5, y6, y7, y8, y9, y10, y11⟩ := frz12 hZ2
  go_wp2_with fail
  have hZ3 := set12 hZ2 ⟨x.path, r.num + 1, n, x.act, x.ty, x.sum, x.size, x.frm, x.fnum⟩
  have hB3 := below12 hB2 (show w.heap.size ≤ w.heap.size + 1 by omega) ⟨x.path, r.num + 1, n, x.act, x.ty, x.sum, x.size, x.frm, x.fnum⟩
  rw [← HM.out] at hZ3 hB3
  have e : ((((((((((((W2.setCell ⟨w.heap.size + 1, 0, none⟩ (.string m.path)).setCell ⟨w.heap.size + 1, 1, none⟩ (.int .i64 m.num)).setCell ⟨w.heap.size + 1, 2, none⟩ (.int .i64 m.chg)).setCell ⟨w.heap.size + 1, 3, none⟩ (.int .i64 m.act)).setCell ⟨w.heap.size + 1, 4, none⟩ (.int .i64 m.ty.base)).setCell ⟨w.heap.size + 1, 5, none⟩ (.bool m.ty.k)).setCell ⟨w.heap.size + 1, 6, none⟩ (.bool m.ty.l)).setCell ⟨w.heap.size + 1, 7, none⟩ (.bool m.ty.x)).setCell ⟨w.heap.size + 1, 8, none⟩ (.int .u64 m.sum)).setCell ⟨w.heap.size + 1, 9, none⟩ (.int .i64 m.size)).setCell ⟨w.heap.size + 1, 10, none⟩ (.string m.frm)).setCell ⟨w.heap.size + 1, 11, none⟩ (.int .i64 m.fnum)) = ((((((((((((W2.setCell ⟨w.heap.size + 1, 0, none⟩ (.string ((⟨x.path, r.num + 1, n, x.act, x.ty, x.sum, x.size, x.frm, x.fnum⟩ : Rev)).path)).setCell ⟨w.heap.size + 1, 1, none⟩ (.int .i64 ((⟨x.path, r.num + 1, n, x.act, x.ty, x.sum, x.size, x.frm, x.fnum⟩ : Rev)).num)).setCell ⟨w.heap.size + 1, 2, none⟩ (.int .i64 ((⟨x.path, r.num + 1, n, x.act, x.ty, x.sum, x.size, x.frm, x.fnum⟩ : Rev)).chg)).setCell ⟨w.heap.size + 1, 3, none⟩ (.int .i64 ((⟨x.path, r.num + 1, n, x.act, x.ty, x.sum, x.size, x.frm, x.fnum⟩ : Rev)).act)).setCell ⟨w.heap.size + 1, 4, none⟩ (.int .i64 ((⟨x.path, r.num + 1, n, x.act, x.ty, x.sum, x.size, x.frm, x.fnum⟩ : Rev)).ty.base)).setCell ⟨w.heap.size + 1, 5, none⟩ (.bool ((⟨x.path, r.num + 1, n, x.act, x.ty, x.sum, x.size, x.frm, x.fnum⟩ : Rev)).ty.k)).setCell ⟨w.heap.size + 1, 6, none⟩ (.bool ((⟨x.path, r.num + 1, n, x.act, x.ty, x.sum, x.size, x.frm, x.fnum⟩ : Rev)).ty.l)).setCell ⟨w.heap.size + 1, 7, none⟩ (.bool ((⟨x.path, r.num + 1, n, x.act, x.ty, x.sum, x.size, x.frm, x.fnum⟩ : Rev)).ty.x)).setCell ⟨w.heap.size + 1, 8, none⟩ (.int .u64 ((⟨x.path, r.num + 1, n, x.act, x.ty, x.sum, x.size, x.frm, x.fnum⟩ : Rev)).sum)).setCell ⟨w.heap.size + 1, 9, none⟩ (.int .i64 ((⟨x.path, r.num + 1, n, x.act, x.ty, x.sum, x.size, x.frm, x.fnum⟩ : Rev)).size)).setCell ⟨w.heap.size + 1, 10, none⟩ (.string ((⟨x.path, r.num + 1, n, x.act, x.ty, x.sum, x.size, x.frm, x.fnum⟩ : Rev)).frm)).setCell ⟨w.heap.size + 1, 11, none⟩ (.int .i64 ((⟨x.path, r.num + 1, n, x.act, x.ty, x.sum, x.size, x.frm, x.fnum⟩ : Rev)).fnum)) := by rw [HM.out]
  dsimp only at e
  rw [← e]
  generalize ((((((((((((W2.setCell ⟨w.heap.size + 1, 0, none⟩ (.string m.path)).setCell ⟨w.heap.size + 1, 1, none⟩ (.int .i64 m.num)).setCell ⟨w.heap.size + 1, 2, none⟩ (.int .i64 m.chg)).setCell ⟨w.heap.size + 1, 3, none⟩ (.int .i64 m.act)).setCell ⟨w.heap.size + 1, 4, none⟩ (.int .i64 m.ty.base)).setCell ⟨w.heap.size + 1, 5, none⟩ (.bool m.ty.k)).setCell ⟨w.heap.size + 1, 6, none⟩ (.bool m.ty.l)).setCell ⟨w.heap.size + 1, 7, none⟩ (.bool m.ty.x)).setCell ⟨w.heap.size + 1, 8, none⟩ (.int .u64 m.sum)).setCell ⟨w.heap.size + 1, 9, none⟩ (.int .i64 m.size)).setCell ⟨w.heap.size + 1, 10, none⟩ (.string m.frm)).setCell ⟨w.heap.size + 1, 11, none⟩ (.int .i64 m.fnum)) = W3 at hZ3 hB3 ⊢
  obtain ⟨e0, e1, e2, e3, e4, e5, e6, e7, e8, e9, e10, e11⟩ := box12 hZ3
  refine bodyPost_ret (v := .agg #[.string m.path, .int .i64 m.num, .int .i64 m.chg, .int .i64 m.act, .int .i64 m.ty.base, .bool m.ty.k, .bool m.ty.l, .bool m.ty.x, .int .u64 m.sum, .int .i64 m.size, .string m.frm, .int .i64 m.fnum]) (by simp [results, Tryz.results41, go_sem, e0, e1, e2, e3, e4, e5, e6, e7, e8, e9, e10, e11]) rfl ⟨rfl, hB3⟩

set_option maxRecDepth 100000 in
set_option maxHeartbeats 4000000 in
theorem room_any (d : Dep) (c : Chg) (g : Nat) (dv dr ev rv : Value) (bl be bn : Nat) (w : World) (hk : Chk w g dv dr c.num c.client c.text ev rv bl be bn) (hR : Revs w dv d.revs) (hQ : Rcds w dr d.recs) (hE : Edts w ev c.edits) (hC : Rcds w rv c.recs)
    (b1 : d.revs.length ≤ 1000000) (b2 : d.recs.length ≤ 1000000) (b3 : c.edits.length ≤ 1000000) (b4 : c.recs.length ≤ 1000000) :
    Calls Tryz.prog 74 #[.pointer (some ⟨g, 0, none⟩)] w fun e w' => e = .returned (.int .i64 (roomE d c)) ∧ Below w.heap.size w w' := by
  obtain ⟨Ar, cr, rfl, hcr, hmr, -⟩ := id hR
  obtain ⟨Aq, cq, rfl, hcq, hmq, -⟩ := id hQ
  obtain ⟨Ae, ce, rfl, hce, hme, -⟩ := id hE
  obtain ⟨Ac, cc, rfl, hcc, hmc, -⟩ := id hC
  obtain ⟨k0, k1, -, k5, k6, -, -, -⟩ := box10 hk
  clear hR hE hC hk hQ
  by_cases h1 : 512 < d.revs.length + c.edits.length
  · have H : Hid (roomE d c = 110) := Lib.hid (by unfold roomE; rw [if_pos (.inl h1)])
    have q1 : decide (512 < (d.revs.length : Int) + (c.edits.length : Int)) = true := by simp; omega
    have q1' : (512 : Int) < (d.revs.length : Int) + (c.edits.length : Int) := by omega
    go_enter Tryz.func74, Tryz.ntmps74
    go_wp2_with fail
    have w1 : IntKind.i64.wrap ((d.revs.length : Int) + (c.edits.length : Int)) = (d.revs.length : Int) + (c.edits.length : Int) := IntWalk.i64_in _ (by omega)
    go_quiet (fail)
    clear w1
    go_wp2_with fail
    go_ret
    exact ⟨ret_int H.out.symm, below_drewN (Below.refl _ _) _⟩
  · have q1 : decide (512 < (d.revs.length : Int) + (c.edits.length : Int)) = false := by simp; omega
    have q1' : ¬ (512 : Int) < (d.revs.length : Int) + (c.edits.length : Int) := by omega
    by_cases h2 : 512 < d.recs.length + c.recs.length
    · have H : Hid (roomE d c = 110) := Lib.hid (by unfold roomE; rw [if_pos (.inr h2)])
      have q2 : decide (512 < (d.recs.length : Int) + (c.recs.length : Int)) = true := by simp; omega
      have q2' : (512 : Int) < (d.recs.length : Int) + (c.recs.length : Int) := by omega
      go_enter Tryz.func74, Tryz.ntmps74
      go_wp2_with fail
      have w1 : IntKind.i64.wrap ((d.revs.length : Int) + (c.edits.length : Int)) = (d.revs.length : Int) + (c.edits.length : Int) := IntWalk.i64_in _ (by omega)
      have w2 : IntKind.i64.wrap ((d.recs.length : Int) + (c.recs.length : Int)) = (d.recs.length : Int) + (c.recs.length : Int) := IntWalk.i64_in _ (by omega)
      go_quiet (fail)
      clear w1 w2
      go_wp2_with fail
      go_ret
      exact ⟨ret_int H.out.symm, below_drewN (Below.refl _ _) _⟩
    · have H : Hid (roomE d c = 0) := Lib.hid (by unfold roomE; rw [if_neg (by omega)])
      have q2 : decide (512 < (d.recs.length : Int) + (c.recs.length : Int)) = false := by simp; omega
      have q2' : ¬ (512 : Int) < (d.recs.length : Int) + (c.recs.length : Int) := by omega
      go_enter Tryz.func74, Tryz.ntmps74
      go_wp2_with fail
      have w1 : IntKind.i64.wrap ((d.revs.length : Int) + (c.edits.length : Int)) = (d.revs.length : Int) + (c.edits.length : Int) := IntWalk.i64_in _ (by omega)
      have w2 : IntKind.i64.wrap ((d.recs.length : Int) + (c.recs.length : Int)) = (d.recs.length : Int) + (c.recs.length : Int) := IntWalk.i64_in _ (by omega)
      go_quiet (fail)
      clear w1 w2
      go_wp2_with fail
      go_ret
      exact ⟨ret_int H.out.symm, below_drewN (Below.refl _ _) _⟩
end Go.Proofs.YtnblfaagchflaaaGreatDoor
/- oneEdit. -/
namespace Go.Proofs.YtnblfaagchflaaaGreatDoor
open Go.RowKit
set_option linter.unusedVariables false
set_option linter.unusedSimpArgs false

theorem isLive_is (a : Int) (b : Bool) (h : liveA a = b) (w : World) : Calls Tryz.prog 19 #[.int .i64 a] w fun e w' => e = .returned (.bool b) ∧ w = w' := by
  rw [← h]; exact isLive_any a w
theorem check_is (b : Int) (k l x : Bool) (v : Int) (h : errOf 90 (tyOk b k x) = v) (w : World) :
    Calls Tryz.prog 129 #[.agg #[.int .i64 b, .bool k, .bool l, .bool x]] w fun e w' => e = .returned (.int .i64 v) ∧ Below w.heap.size w w' := by
  rw [← h]; exact check_any b k l x w
theorem live_is (f : ByteArray → Option Rev) (p : ByteArray) (r : Rev) (b : Bool) (hr : lastR f p = r) (hb : isLast f p = b) (g : Nat) (dv dr ev rv : Value) (n : Int) (cl tx : ByteArray) (bl be bn : Nat) (w : World) (hk : Chk w g dv dr n cl tx ev rv bl be bn) (hL : LastMap w bl f) :
    Calls Tryz.prog 128 #[.pointer (some ⟨g, 0, none⟩), .string p] w
      fun e w' => e = .returned (.tuple #[.agg #[.string r.path, .int .i64 r.num, .int .i64 r.chg, .int .i64 r.act, .int .i64 r.ty.base, .bool r.ty.k, .bool r.ty.l, .bool r.ty.x, .int .u64 r.sum, .int .i64 r.size, .string r.frm, .int .i64 r.fnum], .bool b]) ∧ Below w.heap.size w w' := by
  rw [← hr, ← hb]; exact live_any f p g dv dr ev rv n cl tx bl be bn w hk hL
theorem empty_toList : emptyS.toList = [] := by rw [ByteArray.toList_eq]; rfl
theorem str_empty {s : ByteArray} (h : s = emptyS) : s.toList = [] := by subst h; exact empty_toList
theorem str_ne {s : ByteArray} (h : s ≠ emptyS) : ¬ s.toList = [] := by
  intro e
  apply h
  rw [← toList_inj, e, empty_toList]
theorem str_isE {s : ByteArray} (h : s ≠ emptyS) : s.toList.isEmpty = false := by
  have := str_ne h
  cases hs : s.toList with
  | nil => exact absurd hs this
  | cons a l => rfl
theorem str_eqB (a b : ByteArray) : (a.toList == b.toList) = decide (a = b) := by
  rw [Bool.eq_iff_iff, beq_iff_eq, decide_eq_true_eq, toList_inj]

/-- The five tests of an action. -/
structure Acts (a : Int) (b1 b2 b3 b4 b5 : Bool) : Prop where
  q1 : (a == 1) = b1
  q2 : (a == 2) = b2
  q3 : (a == 3) = b3
  q4 : (a == 4) = b4
  q5 : (a == 5) = b5
theorem acts_of (a : Int) : Acts a (decide (a = 1)) (decide (a = 2)) (decide (a = 3)) (decide (a = 4)) (decide (a = 5)) := by
  constructor <;> (rw [Bool.eq_iff_iff]; simp)

set_option maxRecDepth 100000 in
set_option maxHeartbeats 4000000 in
theorem oneEdit_no (f : ByteArray → Option Rev) (x : Edt) (g : Nat) (dv dr ev rv : Value) (n : Int) (cl tx : ByteArray) (bl be bn : Nat) (w : World) (hk : Chk w g dv dr n cl tx ev rv bl be bn) (hL : LastMap w bl f) (hA : actE f x ≠ 0) :
    Calls Tryz.prog 105 #[.pointer (some ⟨g, 0, none⟩), .agg #[.string x.path, .int .i64 x.act, .int .i64 x.ty.base, .bool x.ty.k, .bool x.ty.l, .bool x.ty.x, .int .u64 x.sum, .int .i64 x.size, .int .i64 x.base, .string x.frm, .int .i64 x.fnum, .int .i64 x.fence]] w
      fun e w' => e = .returned (.int .i64 113) ∧ Below w.heap.size w w' := by
  have hbW : Below w.heap.size w (w.alloc (.cells #[.string x.path, .int .i64 x.act, .int .i64 x.ty.base, .bool x.ty.k, .bool x.ty.l, .bool x.ty.x, .int .u64 x.sum, .int .i64 x.size, .int .i64 x.base, .string x.frm, .int .i64 x.fnum, .int .i64 x.fence] 55)) := (Below.refl _ _).alloc (Nat.le_refl _) _
  have HLV := Lib.hid (fun r b hr hb => live_is f x.path r b hr hb g dv dr ev rv n cl tx bl be bn (w.alloc (.cells #[.string x.path, .int .i64 x.act, .int .i64 x.ty.base, .bool x.ty.k, .bool x.ty.l, .bool x.ty.x, .int .u64 x.sum, .int .i64 x.size, .int .i64 x.base, .string x.frm, .int .i64 x.fnum, .int .i64 x.fence] 55)) (Blk.below hk hbW (Blk.lt hk)) (FMap.below hL hbW))
  have hX := blk_new w [.string x.path, .int .i64 x.act, .int .i64 x.ty.base, .bool x.ty.k, .bool x.ty.l, .bool x.ty.x, .int .u64 x.sum, .int .i64 x.size, .int .i64 x.base, .string x.frm, .int .i64 x.fnum, .int .i64 x.fence] 55
  have main : ∀ b1 b2 b3 b4 b5 b, Acts x.act b1 b2 b3 b4 b5 → isLast f x.path = b → ((b1 = true ∨ (b1 = false ∧ b4 = true)) ∧ b = true ∨ (b1 = false ∧ b4 = false ∧ (b2 = true ∨ b2 = false ∧ b3 = true ∨ b2 = false ∧ b3 = false ∧ b5 = true) ∧ b = false) ∨ (b1 = false ∧ b4 = false ∧ b2 = false ∧ b3 = false ∧ b5 = false)) →
      Calls Tryz.prog 105 #[.pointer (some ⟨g, 0, none⟩), .agg #[.string x.path, .int .i64 x.act, .int .i64 x.ty.base, .bool x.ty.k, .bool x.ty.l, .bool x.ty.x, .int .u64 x.sum, .int .i64 x.size, .int .i64 x.base, .string x.frm, .int .i64 x.fnum, .int .i64 x.fence]] w fun e w' => e = .returned (.int .i64 113) ∧ Below w.heap.size w w' := by
    intro b1 b2 b3 b4 b5 b hq hb hcase
    obtain ⟨q1, q2, q3, q4, q5⟩ := hq
    have HC := Lib.hid (HLV.out _ b rfl hb)
    clear hb HLV
    generalize lastR f x.path = r at HC
    rcases hcase with ⟨rfl | ⟨rfl, rfl⟩, rfl⟩ | ⟨rfl, rfl, rfl | ⟨rfl, rfl⟩ | ⟨rfl, rfl, rfl⟩, rfl⟩ | ⟨rfl, rfl, rfl, rfl, rfl⟩
    all_goals
      go_enter Tryz.func105, Tryz.ntmps105
      go_wp2_with fail
      refine HC.out.mono ?_
      rintro e w1 ⟨rfl, hb1⟩
      have hX1 := hX.below hb1 hX.lt
      have hbw1 : Below w.heap.size w w1 := below_next hbW hb1
      have hs1 := hX1.lt
      obtain ⟨c0, c1, c2, c3, c4, c5, c6, c7, c8, c9, c10, c11⟩ := box12 hX1
      clear hX1 hb1
      go_wp2_with fail
      go_ret
      exact ⟨rfl, hbw1.alloc hbw1.size _⟩
  refine main _ _ _ _ _ _ (acts_of x.act) rfl ?_
  unfold actE at hA
  by_cases h1 : x.act = 1 ∨ x.act = 4
  · rw [if_pos h1] at hA
    left
    refine ⟨by rcases h1 with h | h <;> simp [h], ?_⟩
    cases hh : isLast f x.path
    · rw [hh] at hA; simp at hA
    · rfl
  · rw [if_neg h1] at hA
    by_cases h2 : x.act = 2 ∨ x.act = 3 ∨ x.act = 5
    · rw [if_pos h2] at hA
      right; left
      refine ⟨by simp; omega, by simp; omega, by rcases h2 with h | h | h <;> simp [h], ?_⟩
      cases hh : isLast f x.path
      · rfl
      · rw [hh] at hA; simp at hA
    · right; right
      refine ⟨?_, ?_, ?_, ?_, ?_⟩ <;> (simp; omega)
end Go.Proofs.YtnblfaagchflaaaGreatDoor
/- oneEdit, where the action fits. -/
namespace Go.Proofs.YtnblfaagchflaaaGreatDoor
open Go.RowKit
set_option linter.unusedVariables false
set_option linter.unusedSimpArgs false

/-- What is left to test behind action and base. -/
theorem oneE_of {f : ByteArray → Option Rev} {x : Edt} (hA : actE f x = 0) : oneE f x = if x.base ≠ (lastR f x.path).num then 114 else if fromE f x = false then 115 else if typeE f x = false then 116 else 0 := by
  unfold oneE; rw [hA]; simp
theorem typeE_eq (f : ByteArray → Option Rev) (x : Edt) : typeE f x = (x.ty.ok && decide (0 ≤ x.size) && (liveA x.act || (decide (x.ty = (lastR f x.path).ty) && (decide (x.sum = 0) && decide (x.size = 0))))) := by
  unfold typeE; rw [Bool.and_assoc (decide (x.ty = _))]
theorem fromE_4 {f : ByteArray → Option Rev} {x : Edt} (h : x.act = 4) : fromE f x = (isLast f x.frm && !decide (x.frm = x.path) && decide (x.fnum = (lastR f x.frm).num)) := by unfold fromE; rw [if_pos h]
theorem fromE_o {f : ByteArray → Option Rev} {x : Edt} (h : x.act ≠ 4) : fromE f x = (decide (x.frm = emptyS) && decide (x.fnum = 0)) := by unfold fromE; rw [if_neg h]
theorem beq_dec (a b : Int) : (a == b) = decide (a = b) := by rw [Bool.eq_iff_iff]; simp
theorem bne_dec (a b : Int) : (a != b) = !decide (a = b) := by rw [Bool.eq_iff_iff]; simp

set_option maxRecDepth 100000 in
set_option maxHeartbeats 8000000 in
theorem oneEdit_plain (f : ByteArray → Option Rev) (x : Edt) (g : Nat) (dv dr ev rv : Value) (n : Int) (cl tx : ByteArray) (bl be bn : Nat) (w : World) (hk : Chk w g dv dr n cl tx ev rv bl be bn) (hL : LastMap w bl f) (hA : actE f x = 0) (h4 : x.act ≠ 4) :
    Calls Tryz.prog 105 #[.pointer (some ⟨g, 0, none⟩), .agg #[.string x.path, .int .i64 x.act, .int .i64 x.ty.base, .bool x.ty.k, .bool x.ty.l, .bool x.ty.x, .int .u64 x.sum, .int .i64 x.size, .int .i64 x.base, .string x.frm, .int .i64 x.fnum, .int .i64 x.fence]] w
      fun e w' => e = .returned (.int .i64 (oneE f x)) ∧ Below w.heap.size w w' := by
  have hbW : Below w.heap.size w (w.alloc (.cells #[.string x.path, .int .i64 x.act, .int .i64 x.ty.base, .bool x.ty.k, .bool x.ty.l, .bool x.ty.x, .int .u64 x.sum, .int .i64 x.size, .int .i64 x.base, .string x.frm, .int .i64 x.fnum, .int .i64 x.fence] 55)) := (Below.refl _ _).alloc (Nat.le_refl _) _
  have HLV := Lib.hid (fun r b hr hb => live_is f x.path r b hr hb g dv dr ev rv n cl tx bl be bn (w.alloc (.cells #[.string x.path, .int .i64 x.act, .int .i64 x.ty.base, .bool x.ty.k, .bool x.ty.l, .bool x.ty.x, .int .u64 x.sum, .int .i64 x.size, .int .i64 x.base, .string x.frm, .int .i64 x.fnum, .int .i64 x.fence] 55)) (Blk.below hk hbW (Blk.lt hk)) (FMap.below hL hbW))
  have hX0 := blk_new w [.string x.path, .int .i64 x.act, .int .i64 x.ty.base, .bool x.ty.k, .bool x.ty.l, .bool x.ty.x, .int .u64 x.sum, .int .i64 x.size, .int .i64 x.base, .string x.frm, .int .i64 x.fnum, .int .i64 x.fence] 55
  have hk0 := Blk.below hk hbW (Blk.lt hk)
  have hL0 := FMap.below hL hbW
  have HO0 := Lib.hid (oneE_of hA)
  rw [fromE_o h4] at HO0
  obtain ⟨bt, hbt⟩ : ∃ b, b = decide (x.ty = (lastR f x.path).ty) := ⟨_, rfl⟩
  obtain ⟨bc, hbc⟩ : ∃ b, b = (decide (x.sum = 0) && decide (x.size = 0)) := ⟨_, rfl⟩
  have HTE : Hid (typeE f x = (x.ty.ok && decide (0 ≤ x.size) && (liveA x.act || (bt && bc)))) := Lib.hid (by rw [typeE_eq, ← hbt, ← hbc])
  have hty := run_neq_ty x.ty (lastR f x.path).ty
  have hcn := run_neq_con x.sum x.size 0 0
  rw [← hbt] at hty
  rw [← hbc] at hcn
  clear hbt hbc
  have main : ∀ b1 b2 b3 b5 b, Acts x.act b1 b2 b3 false b5 → isLast f x.path = b → ((b1 = true ∧ b = false) ∨ (b1 = false ∧ (b2 = true ∨ b2 = false ∧ b3 = true ∨ b2 = false ∧ b3 = false ∧ b5 = true) ∧ b = true)) →
      Calls Tryz.prog 105 #[.pointer (some ⟨g, 0, none⟩), .agg #[.string x.path, .int .i64 x.act, .int .i64 x.ty.base, .bool x.ty.k, .bool x.ty.l, .bool x.ty.x, .int .u64 x.sum, .int .i64 x.size, .int .i64 x.base, .string x.frm, .int .i64 x.fnum, .int .i64 x.fence]] w fun e w' => e = .returned (.int .i64 (oneE f x)) ∧ Below w.heap.size w w' := by
    intro b1 b2 b3 b5 b hq hb hcase
    obtain ⟨q1, q2, q3, q4, q5⟩ := hq
    have HC := Lib.hid (HLV.out _ b rfl hb)
    clear hb HLV hA h4
    generalize lastR f x.path = r at HC HO0 hty
    rcases hcase with ⟨rfl, rfl⟩ | ⟨rfl, rfl | ⟨rfl, rfl⟩ | ⟨rfl, rfl, rfl⟩, rfl⟩
    all_goals
      go_enter Tryz.func105, Tryz.ntmps105
      go_wp2_with fail
      refine HC.out.mono ?_
      rintro e w1 ⟨rfl, hb1⟩
      have hX1 := (hX0.below hb1 hX0.lt).alloc (.cells #[.string r.path, .int .i64 r.num, .int .i64 r.chg, .int .i64 r.act, .int .i64 r.ty.base, .bool r.ty.k, .bool r.ty.l, .bool r.ty.x, .int .u64 r.sum, .int .i64 r.size, .string r.frm, .int .i64 r.fnum] 40)
      have hR := blk_new w1 [.string r.path, .int .i64 r.num, .int .i64 r.chg, .int .i64 r.act, .int .i64 r.ty.base, .bool r.ty.k, .bool r.ty.l, .bool r.ty.x, .int .u64 r.sum, .int .i64 r.size, .string r.frm, .int .i64 r.fnum] 40
      have hbw1 : Below w.heap.size w (w1.alloc (.cells #[.string r.path, .int .i64 r.num, .int .i64 r.chg, .int .i64 r.act, .int .i64 r.ty.base, .bool r.ty.k, .bool r.ty.l, .bool r.ty.x, .int .u64 r.sum, .int .i64 r.size, .string r.frm, .int .i64 r.fnum] 40)) := (below_next hbW hb1).alloc (below_next hbW hb1).size _
      have hK1 := Blk.alloc (Blk.below hk0 hb1 (Blk.lt hk0)) (.cells #[.string r.path, .int .i64 r.num, .int .i64 r.chg, .int .i64 r.act, .int .i64 r.ty.base, .bool r.ty.k, .bool r.ty.l, .bool r.ty.x, .int .u64 r.sum, .int .i64 r.size, .string r.frm, .int .i64 r.fnum] 40)
      have hL1 := FMap.alloc (FMap.below hL0 hb1) (.cells #[.string r.path, .int .i64 r.num, .int .i64 r.chg, .int .i64 r.act, .int .i64 r.ty.base, .bool r.ty.k, .bool r.ty.l, .bool r.ty.x, .int .u64 r.sum, .int .i64 r.size, .string r.frm, .int .i64 r.fnum] 40)
      have hs0 : w.heap.size < w1.heap.size := (hX0.below hb1 hX0.lt).lt
      obtain ⟨c0, c1, c2, c3, c4, c5, c6, c7, c8, c9, c10, c11⟩ := box12 (hX0.below hb1 hX0.lt)
      clear hb1
      by_cases hbb : x.base = r.num
      · have qb : (x.base != r.num) = false := by rw [bne_dec]; simp [hbb]
        rw [if_neg (by simp [hbb])] at HO0
        clear hbb
        by_cases hfr : x.frm = emptyS
        · have s1 := str_empty hfr
          by_cases hfn : x.fnum = 0
          · have qf : (x.fnum != 0) = false := by rw [bne_dec]; simp [hfn]
            have HO1 : Hid (oneE f x = if typeE f x = false then 116 else 0) := Lib.hid (by rw [HO0.out, hfr, hfn]; simp)
            clear hfr hfn HO0
            cases htk : x.ty.ok
            · have HO : Hid (oneE f x = 116) := Lib.hid (by rw [HO1.out, HTE.out, htk]; rfl)
              go_wp2_with fail
              refine (check_is _ _ _ _ 90 (by show errOf 90 x.ty.ok = 90; rw [htk]; rfl) _).mono ?_
              rintro e w5 ⟨rfl, hb5⟩
              clear htk
              go_wp2_with fail
              go_ret
              exact ⟨ret_int HO.out.symm, below_next hbw1 hb5⟩
            · have HK := Lib.hid (fun W => check_is x.ty.base x.ty.k x.ty.l x.ty.x 0 (by show errOf 90 x.ty.ok = 0; rw [htk]; rfl) W)
              have HO2 : Hid (oneE f x = if (decide (0 ≤ x.size) && (liveA x.act || (bt && bc))) = false then 116 else 0) := Lib.hid (by rw [HO1.out, HTE.out, htk]; rfl)
              clear htk
              go_wp2_with fail
              refine (HK.out _).mono ?_
              rintro e w5 ⟨rfl, hb5⟩
              have hbw5 := below_next hbw1 hb5
              have hX5 := hX1.below hb5 hX1.lt
              have hR5 := hR.below hb5 hR.lt
              clear c0 c1 c2 c3 c4 c5 c6 c7 c8 c9 c10 c11
              obtain ⟨c0, c1, c2, c3, c4, c5, c6, c7, c8, c9, c10, c11⟩ := box12 hX5
              by_cases hz : x.size < 0
              · have HO : Hid (oneE f x = 116) := Lib.hid (by rw [HO2.out, show decide (0 ≤ x.size) = false by simp; omega]; rfl)
                go_wp2_with fail
                go_ret
                exact ⟨ret_int HO.out.symm, hbw5⟩
              · have HO3 : Hid (oneE f x = if (liveA x.act || (bt && bc)) = false then 116 else 0) := Lib.hid (by rw [HO2.out, show decide (0 ≤ x.size) = true by simp; omega]; rfl)
                cases hlv : liveA x.act
                · rw [hlv] at HO3
                  have HLI := Lib.hid (fun W => isLive_is x.act false hlv W)
                  clear hlv
                  obtain ⟨d0, d1, d2, d3, d4, d5, d6, d7, d8, d9, d10, d11⟩ := box12 hR5
                  cases bt
                  · go_wp2_with fail
                    refine (HLI.out _).mono ?_
                    rintro e w6 ⟨rfl, rfl⟩
                    go_wp2_with fail
                    go_ret
                    exact ⟨ret_int HO3.out.symm, hbw5⟩
                  · cases bc
                    · go_wp2_with fail
                      refine (HLI.out _).mono ?_
                      rintro e w6 ⟨rfl, rfl⟩
                      go_wp2_with fail
                      go_ret
                      exact ⟨ret_int HO3.out.symm, hbw5⟩
                    · go_wp2_with fail
                      refine (HLI.out _).mono ?_
                      rintro e w6 ⟨rfl, rfl⟩
                      go_wp2_with fail
                      go_ret
                      exact ⟨ret_int HO3.out.symm, hbw5⟩
                · rw [hlv] at HO3
                  have HLI := Lib.hid (fun W => isLive_is x.act true hlv W)
                  clear hlv
                  go_wp2_with fail
                  refine (HLI.out _).mono ?_
                  rintro e w6 ⟨rfl, rfl⟩
                  go_wp2_with fail
                  go_ret
                  exact ⟨ret_int HO3.out.symm, hbw5⟩
          · have qf : (x.fnum != 0) = true := by rw [bne_dec]; simp [hfn]
            have HO : Hid (oneE f x = 115) := Lib.hid (by rw [HO0.out]; simp [hfn])
            clear hfr hfn HO0
            go_wp2_with fail
            go_ret
            exact ⟨ret_int HO.out.symm, hbw1⟩
        · have s1 := str_ne hfr
          have s2 := str_isE hfr
          have HO : Hid (oneE f x = 115) := Lib.hid (by rw [HO0.out]; simp [hfr])
          clear hfr HO0
          go_wp2_with fail
          go_ret
          exact ⟨ret_int HO.out.symm, hbw1⟩
      · have qb : (x.base != r.num) = true := by rw [bne_dec]; simp [hbb]
        have HO : Hid (oneE f x = 114) := Lib.hid (by rw [HO0.out, if_pos hbb])
        clear hbb HO0
        go_wp2_with fail
        go_ret
        exact ⟨ret_int HO.out.symm, hbw1⟩
  have h4' : decide (x.act = 4) = false := by simpa using h4
  have ha := acts_of x.act
  rw [h4'] at ha
  refine main _ _ _ _ _ ha rfl ?_
  unfold actE at hA
  by_cases h1 : x.act = 1
  · rw [if_pos (.inl h1)] at hA
    left
    refine ⟨by simp [h1], ?_⟩
    cases hh : isLast f x.path
    · rfl
    · rw [hh] at hA; simp at hA
  · rw [if_neg (by omega)] at hA
    by_cases h2 : x.act = 2 ∨ x.act = 3 ∨ x.act = 5
    · rw [if_pos h2] at hA
      right
      refine ⟨by simp; omega, by rcases h2 with h | h | h <;> simp [h], ?_⟩
      cases hh : isLast f x.path
      · rw [hh] at hA; simp at hA
      · rfl
    · rw [if_neg h2] at hA; omega
end Go.Proofs.YtnblfaagchflaaaGreatDoor
/- oneEdit at a move. -/
namespace Go.Proofs.YtnblfaagchflaaaGreatDoor
open Go.RowKit
set_option linter.unusedVariables false
set_option linter.unusedSimpArgs false

set_option maxRecDepth 100000 in
set_option maxHeartbeats 8000000 in
theorem oneEdit_move (f : ByteArray → Option Rev) (x : Edt) (g : Nat) (dv dr ev rv : Value) (n : Int) (cl tx : ByteArray) (bl be bn : Nat) (w : World) (hk : Chk w g dv dr n cl tx ev rv bl be bn) (hL : LastMap w bl f) (hA : actE f x = 0) (h4 : x.act = 4) :
    Calls Tryz.prog 105 #[.pointer (some ⟨g, 0, none⟩), .agg #[.string x.path, .int .i64 x.act, .int .i64 x.ty.base, .bool x.ty.k, .bool x.ty.l, .bool x.ty.x, .int .u64 x.sum, .int .i64 x.size, .int .i64 x.base, .string x.frm, .int .i64 x.fnum, .int .i64 x.fence]] w
      fun e w' => e = .returned (.int .i64 (oneE f x)) ∧ Below w.heap.size w w' := by
  have hbW : Below w.heap.size w (w.alloc (.cells #[.string x.path, .int .i64 x.act, .int .i64 x.ty.base, .bool x.ty.k, .bool x.ty.l, .bool x.ty.x, .int .u64 x.sum, .int .i64 x.size, .int .i64 x.base, .string x.frm, .int .i64 x.fnum, .int .i64 x.fence] 55)) := (Below.refl _ _).alloc (Nat.le_refl _) _
  have HLV := Lib.hid (fun r b hr hb => live_is f x.path r b hr hb g dv dr ev rv n cl tx bl be bn (w.alloc (.cells #[.string x.path, .int .i64 x.act, .int .i64 x.ty.base, .bool x.ty.k, .bool x.ty.l, .bool x.ty.x, .int .u64 x.sum, .int .i64 x.size, .int .i64 x.base, .string x.frm, .int .i64 x.fnum, .int .i64 x.fence] 55)) (Blk.below hk hbW (Blk.lt hk)) (FMap.below hL hbW))
  have hX0 := blk_new w [.string x.path, .int .i64 x.act, .int .i64 x.ty.base, .bool x.ty.k, .bool x.ty.l, .bool x.ty.x, .int .u64 x.sum, .int .i64 x.size, .int .i64 x.base, .string x.frm, .int .i64 x.fnum, .int .i64 x.fence] 55
  have hk0 := Blk.below hk hbW (Blk.lt hk)
  have hL0 := FMap.below hL hbW
  have HO0 := Lib.hid (oneE_of hA)
  rw [fromE_4 h4] at HO0
  obtain ⟨bt, hbt⟩ : ∃ b, b = decide (x.ty = (lastR f x.path).ty) := ⟨_, rfl⟩
  obtain ⟨bc, hbc⟩ : ∃ b, b = (decide (x.sum = 0) && decide (x.size = 0)) := ⟨_, rfl⟩
  have HTE : Hid (typeE f x = (x.ty.ok && decide (0 ≤ x.size) && (liveA x.act || (bt && bc)))) := Lib.hid (by rw [typeE_eq, ← hbt, ← hbc])
  have hty := run_neq_ty x.ty (lastR f x.path).ty
  have hcn := run_neq_con x.sum x.size 0 0
  rw [← hbt] at hty
  rw [← hbc] at hcn
  clear hbt hbc
  have hb : isLast f x.path = false := by
    unfold actE at hA
    rw [if_pos (.inr h4)] at hA
    cases hh : isLast f x.path
    · rfl
    · rw [hh] at hA; simp at hA
  have q1 : (x.act == 1) = false := by rw [h4]; rfl
  have q4 : (x.act == 4) = true := by rw [h4]; rfl
  have HC := Lib.hid (HLV.out _ false rfl hb)
  clear hb HLV hA h4
  generalize lastR f x.path = r at HC HO0 hty
  go_enter Tryz.func105, Tryz.ntmps105
  go_wp2_with fail
  refine HC.out.mono ?_
  rintro e w1 ⟨rfl, hb1⟩
  have hX1 := (hX0.below hb1 hX0.lt).alloc (.cells #[.string r.path, .int .i64 r.num, .int .i64 r.chg, .int .i64 r.act, .int .i64 r.ty.base, .bool r.ty.k, .bool r.ty.l, .bool r.ty.x, .int .u64 r.sum, .int .i64 r.size, .string r.frm, .int .i64 r.fnum] 40)
  have hR := blk_new w1 [.string r.path, .int .i64 r.num, .int .i64 r.chg, .int .i64 r.act, .int .i64 r.ty.base, .bool r.ty.k, .bool r.ty.l, .bool r.ty.x, .int .u64 r.sum, .int .i64 r.size, .string r.frm, .int .i64 r.fnum] 40
  have hbw1 : Below w.heap.size w (w1.alloc (.cells #[.string r.path, .int .i64 r.num, .int .i64 r.chg, .int .i64 r.act, .int .i64 r.ty.base, .bool r.ty.k, .bool r.ty.l, .bool r.ty.x, .int .u64 r.sum, .int .i64 r.size, .string r.frm, .int .i64 r.fnum] 40)) := (below_next hbW hb1).alloc (below_next hbW hb1).size _
  have hK1 := Blk.alloc (Blk.below hk0 hb1 (Blk.lt hk0)) (.cells #[.string r.path, .int .i64 r.num, .int .i64 r.chg, .int .i64 r.act, .int .i64 r.ty.base, .bool r.ty.k, .bool r.ty.l, .bool r.ty.x, .int .u64 r.sum, .int .i64 r.size, .string r.frm, .int .i64 r.fnum] 40)
  have hL1 := FMap.alloc (FMap.below hL0 hb1) (.cells #[.string r.path, .int .i64 r.num, .int .i64 r.chg, .int .i64 r.act, .int .i64 r.ty.base, .bool r.ty.k, .bool r.ty.l, .bool r.ty.x, .int .u64 r.sum, .int .i64 r.size, .string r.frm, .int .i64 r.fnum] 40)
  have hs0 : w.heap.size < w1.heap.size := (hX0.below hb1 hX0.lt).lt
  obtain ⟨c0, c1, c2, c3, c4, c5, c6, c7, c8, c9, c10, c11⟩ := box12 (hX0.below hb1 hX0.lt)
  clear hb1
  by_cases hbb : x.base = r.num
  · have qb : (x.base != r.num) = false := by rw [bne_dec]; simp [hbb]
    rw [if_neg (by simp [hbb])] at HO0
    clear hbb
    obtain ⟨bl2, hbl2⟩ : ∃ b, isLast f x.frm = b := ⟨_, rfl⟩
    obtain ⟨r2, hr2⟩ : ∃ r, lastR f x.frm = r := ⟨_, rfl⟩
    have HC2 := Lib.hid (live_is f x.frm r2 bl2 hr2 hbl2 g dv dr ev rv n cl tx bl be bn _ hK1 hL1)
    rw [hbl2, hr2] at HO0
    clear hbl2 hr2
    go_wp2_with fail
    refine HC2.out.mono ?_
    rintro e w2 ⟨rfl, hb2⟩
    have hX2 := hX1.below hb2 hX1.lt
    have hR2 := hR.below hb2 hR.lt
    have hX3 := hX2.alloc (.cells #[.string r2.path, .int .i64 r2.num, .int .i64 r2.chg, .int .i64 r2.act, .int .i64 r2.ty.base, .bool r2.ty.k, .bool r2.ty.l, .bool r2.ty.x, .int .u64 r2.sum, .int .i64 r2.size, .string r2.frm, .int .i64 r2.fnum] 40)
    have hR3 := hR2.alloc (.cells #[.string r2.path, .int .i64 r2.num, .int .i64 r2.chg, .int .i64 r2.act, .int .i64 r2.ty.base, .bool r2.ty.k, .bool r2.ty.l, .bool r2.ty.x, .int .u64 r2.sum, .int .i64 r2.size, .string r2.frm, .int .i64 r2.fnum] 40)
    have hbw2 := below_next hbw1 hb2
    have hbw3 := hbw2.alloc hbw2.size (.cells #[.string r2.path, .int .i64 r2.num, .int .i64 r2.chg, .int .i64 r2.act, .int .i64 r2.ty.base, .bool r2.ty.k, .bool r2.ty.l, .bool r2.ty.x, .int .u64 r2.sum, .int .i64 r2.size, .string r2.frm, .int .i64 r2.fnum] 40)
    have hs2 := hX2.lt
    clear c0 c1 c2 c3 c4 c5 c6 c7 c8 c9 c10 c11
    obtain ⟨c0, c1, c2, c3, c4, c5, c6, c7, c8, c9, c10, c11⟩ := box12 hX2
    cases bl2
    · have HO : Hid (oneE f x = 115) := Lib.hid (by rw [HO0.out]; rfl)
      go_wp2_with fail
      go_ret
      exact ⟨ret_int HO.out.symm, hbw3⟩
    · have sq := str_eqB x.frm x.path
      by_cases hfp : x.frm = x.path
      · rw [show decide (x.frm = x.path) = true by simpa using hfp] at sq
        have HO : Hid (oneE f x = 115) := Lib.hid (by rw [HO0.out]; simp [hfp])
        clear hfp
        go_wp2_with fail
        go_ret
        exact ⟨ret_int HO.out.symm, hbw3⟩
      · rw [show decide (x.frm = x.path) = false by simpa using hfp] at sq
        have HO1' : Hid (oneE f x = if decide (x.fnum = r2.num) = false then 115 else if typeE f x = false then 116 else 0) := Lib.hid (by rw [HO0.out]; simp [hfp])
        clear hfp
        by_cases hfn : x.fnum = r2.num
        · have qf : (x.fnum != r2.num) = false := by rw [bne_dec]; simp [hfn]
          have HO1 : Hid (oneE f x = if typeE f x = false then 116 else 0) := Lib.hid (by rw [HO1'.out]; simp [hfn])
          clear hfn HO1' HO0
          cases htk : x.ty.ok
          · have HO : Hid (oneE f x = 116) := Lib.hid (by rw [HO1.out, HTE.out, htk]; rfl)
            go_wp2_with fail
            refine (check_is _ _ _ _ 90 (by show errOf 90 x.ty.ok = 90; rw [htk]; rfl) _).mono ?_
            rintro e w5 ⟨rfl, hb5⟩
            clear htk
            go_wp2_with fail
            go_ret
            exact ⟨ret_int HO.out.symm, below_next hbw3 hb5⟩
          · have HK := Lib.hid (fun W => check_is x.ty.base x.ty.k x.ty.l x.ty.x 0 (by show errOf 90 x.ty.ok = 0; rw [htk]; rfl) W)
            have HO2 : Hid (oneE f x = if (decide (0 ≤ x.size) && (liveA x.act || (bt && bc))) = false then 116 else 0) := Lib.hid (by rw [HO1.out, HTE.out, htk]; rfl)
            clear htk
            go_wp2_with fail
            refine (HK.out _).mono ?_
            rintro e w5 ⟨rfl, hb5⟩
            have hbw5 := below_next hbw3 hb5
            have hX5 := hX3.below hb5 hX3.lt
            have hR5 := hR3.below hb5 hR3.lt
            clear c0 c1 c2 c3 c4 c5 c6 c7 c8 c9 c10 c11
            obtain ⟨c0, c1, c2, c3, c4, c5, c6, c7, c8, c9, c10, c11⟩ := box12 hX5
            by_cases hz : x.size < 0
            · have HO : Hid (oneE f x = 116) := Lib.hid (by rw [HO2.out, show decide (0 ≤ x.size) = false by simp; omega]; rfl)
              go_wp2_with fail
              go_ret
              exact ⟨ret_int HO.out.symm, hbw5⟩
            · have HO3 : Hid (oneE f x = if (liveA x.act || (bt && bc)) = false then 116 else 0) := Lib.hid (by rw [HO2.out, show decide (0 ≤ x.size) = true by simp; omega]; rfl)
              cases hlv : liveA x.act
              · rw [hlv] at HO3
                have HLI := Lib.hid (fun W => isLive_is x.act false hlv W)
                clear hlv
                obtain ⟨d0, d1, d2, d3, d4, d5, d6, d7, d8, d9, d10, d11⟩ := box12 hR5
                cases bt
                · go_wp2_with fail
                  refine (HLI.out _).mono ?_
                  rintro e w6 ⟨rfl, rfl⟩
                  go_wp2_with fail
                  go_ret
                  exact ⟨ret_int HO3.out.symm, hbw5⟩
                · cases bc
                  · go_wp2_with fail
                    refine (HLI.out _).mono ?_
                    rintro e w6 ⟨rfl, rfl⟩
                    go_wp2_with fail
                    go_ret
                    exact ⟨ret_int HO3.out.symm, hbw5⟩
                  · go_wp2_with fail
                    refine (HLI.out _).mono ?_
                    rintro e w6 ⟨rfl, rfl⟩
                    go_wp2_with fail
                    go_ret
                    exact ⟨ret_int HO3.out.symm, hbw5⟩
              · rw [hlv] at HO3
                have HLI := Lib.hid (fun W => isLive_is x.act true hlv W)
                clear hlv
                go_wp2_with fail
                refine (HLI.out _).mono ?_
                rintro e w6 ⟨rfl, rfl⟩
                go_wp2_with fail
                go_ret
                exact ⟨ret_int HO3.out.symm, hbw5⟩
        · have qf : (x.fnum != r2.num) = true := by rw [bne_dec]; simp [hfn]
          have HO : Hid (oneE f x = 115) := Lib.hid (by rw [HO1'.out]; simp [hfn])
          clear hfn HO1'
          go_wp2_with fail
          go_ret
          exact ⟨ret_int HO.out.symm, hbw3⟩
  · have qb : (x.base != r.num) = true := by rw [bne_dec]; simp [hbb]
    have HO : Hid (oneE f x = 114) := Lib.hid (by rw [HO0.out, if_pos hbb])
    clear hbb HO0
    go_wp2_with fail
    go_ret
    exact ⟨ret_int HO.out.symm, hbw1⟩

end Go.Proofs.YtnblfaagchflaaaGreatDoor
