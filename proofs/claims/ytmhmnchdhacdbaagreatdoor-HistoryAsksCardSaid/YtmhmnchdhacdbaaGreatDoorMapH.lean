/- The three maps of an examination; lineOf, live. -/
import Derived.Test.YtmhmnchdhacdbaaGreatDoorMem
import Derived.StillTailTactics
import Derived.IntWalk
namespace Go.Proofs.YtmhmnchdhacdbaaGreatDoor
open Go.RowKit
set_option linter.unusedVariables false
set_option linter.unusedSimpArgs false

theorem toList_inj {a b : ByteArray} : a.toList = b.toList ↔ a = b := by
  constructor
  · intro h
    rw [ByteArray.toList_eq, ByteArray.toList_eq] at h
    cases a with | mk x => cases b with | mk y =>
    congr 1; exact Array.toList_inj.1 h
  · intro h; rw [h]
theorem equal_fil (a b : Fil) (w : World) : (Op.equal 92 (filV a) (filV b)).run Tryz.prog w = .ok (a == b) w := by
  obtain ⟨a0, a1⟩ := a
  obtain ⟨b0, b1⟩ := b
  show (Op.equalIn 10000 92 _ _).run Tryz.prog w = _
  unfold filV
  rw [run_equalIn_agg w 9999 92 _ _ (by kernel_rfl) (by kernel_rfl)]
  simp [go_sem, Op.eqFields, toList_inj]
  by_cases h1 : a0 = b0 <;> by_cases h2 : a1 = b1 <;> simp [h1, h2]
theorem check_fil (b : Bool) (a : Fil) (w : World) : (Instr.checkKey b 10000 92 (filV a)).run Tryz.prog w = .ok () w := by
  unfold filV
  rw [Instr.checkKey]
  simp [run_underlying Tryz.underlying92, go_sem]
  rw [check_string Tryz.underlying9 b _ w 9998, Result.andThen_ok]
  exact check_int Tryz.underlying3 b _ w 9998
theorem bits_fil (a : Fil) : Instr.sameBits 10000 (filV a) (filV a) = true := by
  unfold filV
  rw [Instr.sameBits]
  simp [bits_string, bits_int]
theorem keyOk_fil : KeyOk Tryz.prog 92 filV :=
  ⟨find_of_ask Tryz.underlying92 (fun _ _ => rfl) equal_fil, check_fil, fun a b h => by
    have : b = a := (eq_of_beq h).symm
    subst this
    exact bits_fil b⟩
theorem keyOk_str : KeyOk Tryz.prog 9 Value.string := keyOk_string Tryz.underlying9

def LastMap (w : World) (B : Nat) (f : ByteArray → Option Rev) : Prop := FMap Value.string Rev.val w B f
def EditMap (w : World) (B : Nat) (f : ByteArray → Option Edt) : Prop := FMap Value.string Edt.val w B f
def LineMap (w : World) (B : Nat) (f : Fil → Option Fil) : Prop := FMap filV filV w B f
theorem zero_rev (w : World) : (zeroValue 36).run Tryz.prog w = .ok zeroRev.val w := by kernel_rfl
theorem zero_edt (w : World) : (zeroValue 58).run Tryz.prog w = .ok zeroEdt.val w := by kernel_rfl
theorem zero_fil (w : World) : (zeroValue 92).run Tryz.prog w = .ok (filV zeroFil) w := by kernel_rfl
section
variable {w : World} {B : Nat}
theorem LastMap.look {f : ByteArray → Option Rev} (h : LastMap w B f) (p : ByteArray) : (Instr.lookup 70 (.map (some B)) (.string p) false).run Tryz.prog w = .ok (.agg #[.string (lastR f p).path, .int .i64 (lastR f p).num, .int .i64 (lastR f p).chg, .int .i64 (lastR f p).act, .int .i64 (lastR f p).ty.base, .bool (lastR f p).ty.k, .bool (lastR f p).ty.l, .bool (lastR f p).ty.x, .int .u64 (lastR f p).sum, .int .i64 (lastR f p).size, .string (lastR f p).frm, .int .i64 (lastR f p).fnum]) w := by
  rw [FMap.lookup h keyOk_str Tryz.underlying70 (zero_rev w) p false]
  unfold lookV lastR
  cases f p <;> rfl
theorem LastMap.look2 {f : ByteArray → Option Rev} (h : LastMap w B f) (p : ByteArray) : (Instr.lookup 70 (.map (some B)) (.string p) true).run Tryz.prog w = .ok (.tuple #[.agg #[.string (lastR f p).path, .int .i64 (lastR f p).num, .int .i64 (lastR f p).chg, .int .i64 (lastR f p).act, .int .i64 (lastR f p).ty.base, .bool (lastR f p).ty.k, .bool (lastR f p).ty.l, .bool (lastR f p).ty.x, .int .u64 (lastR f p).sum, .int .i64 (lastR f p).size, .string (lastR f p).frm, .int .i64 (lastR f p).fnum], .bool (f p).isSome]) w := by
  rw [FMap.lookup h keyOk_str Tryz.underlying70 (zero_rev w) p true]
  unfold lookV lastR
  cases f p <;> rfl
def editR (f : ByteArray → Option Edt) (p : ByteArray) : Edt := (f p).getD zeroEdt
theorem EditMap.look {f : ByteArray → Option Edt} (h : EditMap w B f) (p : ByteArray) : (Instr.lookup 121 (.map (some B)) (.string p) false).run Tryz.prog w = .ok (.agg #[.string (editR f p).path, .int .i64 (editR f p).act, .int .i64 (editR f p).ty.base, .bool (editR f p).ty.k, .bool (editR f p).ty.l, .bool (editR f p).ty.x, .int .u64 (editR f p).sum, .int .i64 (editR f p).size, .int .i64 (editR f p).base, .string (editR f p).frm, .int .i64 (editR f p).fnum, .int .i64 (editR f p).fence]) w := by
  rw [FMap.lookup h keyOk_str Tryz.underlying121 (zero_edt w) p false]
  unfold lookV editR
  cases f p <;> rfl
theorem EditMap.look2 {f : ByteArray → Option Edt} (h : EditMap w B f) (p : ByteArray) : (Instr.lookup 121 (.map (some B)) (.string p) true).run Tryz.prog w = .ok (.tuple #[.agg #[.string (editR f p).path, .int .i64 (editR f p).act, .int .i64 (editR f p).ty.base, .bool (editR f p).ty.k, .bool (editR f p).ty.l, .bool (editR f p).ty.x, .int .u64 (editR f p).sum, .int .i64 (editR f p).size, .int .i64 (editR f p).base, .string (editR f p).frm, .int .i64 (editR f p).fnum, .int .i64 (editR f p).fence], .bool (f p).isSome]) w := by
  rw [FMap.lookup h keyOk_str Tryz.underlying121 (zero_edt w) p true]
  unfold lookV editR
  cases f p <;> rfl
def lineR (f : Fil → Option Fil) (p : Fil) : Fil := (f p).getD zeroFil
theorem LineMap.look {f : Fil → Option Fil} (h : LineMap w B f) (p : ByteArray) (n : Int) : (Instr.lookup 122 (.map (some B)) (.agg #[.string p, .int .i64 n]) false).run Tryz.prog w = .ok (.agg #[.string (lineR f (p, n)).1, .int .i64 (lineR f (p, n)).2]) w := by
  have := FMap.lookup h keyOk_fil Tryz.underlying122 (zero_fil w) (p, n) false
  unfold lookV at this
  unfold lineR
  cases hf : f (p, n) <;> (rw [hf] at this; exact this)
theorem LineMap.look2 {f : Fil → Option Fil} (h : LineMap w B f) (p : ByteArray) (n : Int) : (Instr.lookup 122 (.map (some B)) (.agg #[.string p, .int .i64 n]) true).run Tryz.prog w = .ok (.tuple #[.agg #[.string (lineR f (p, n)).1, .int .i64 (lineR f (p, n)).2], .bool (f (p, n)).isSome]) w := by
  have := FMap.lookup h keyOk_fil Tryz.underlying122 (zero_fil w) (p, n) true
  unfold lookV at this
  unfold lineR
  cases hf : f (p, n) <;> (rw [hf] at this; exact this)
end

/-! lineOf. -/
theorem box12 {w : World} {g : Nat} {e : TypeId} {a0 a1 a2 a3 a4 a5 a6 a7 a8 a9 a10 a11 : Value} (h : Blk w g e [a0, a1, a2, a3, a4, a5, a6, a7, a8, a9, a10, a11]) :
    w.cell? ⟨g, 0, none⟩ = some a0 ∧ w.cell? ⟨g, 1, none⟩ = some a1 ∧ w.cell? ⟨g, 2, none⟩ = some a2 ∧ w.cell? ⟨g, 3, none⟩ = some a3 ∧ w.cell? ⟨g, 4, none⟩ = some a4 ∧ w.cell? ⟨g, 5, none⟩ = some a5 ∧
    w.cell? ⟨g, 6, none⟩ = some a6 ∧ w.cell? ⟨g, 7, none⟩ = some a7 ∧ w.cell? ⟨g, 8, none⟩ = some a8 ∧ w.cell? ⟨g, 9, none⟩ = some a9 ∧ w.cell? ⟨g, 10, none⟩ = some a10 ∧ w.cell? ⟨g, 11, none⟩ = some a11 :=
  ⟨h.cell 0, h.cell 1, h.cell 2, h.cell 3, h.cell 4, h.cell 5, h.cell 6, h.cell 7, h.cell 8, h.cell 9, h.cell 10, h.cell 11⟩
theorem box2 {w : World} {g : Nat} {e : TypeId} {a b : Value} (h : Blk w g e [a, b]) : w.cell? ⟨g, 0, none⟩ = some a ∧ w.cell? ⟨g, 1, none⟩ = some b ∧ w.frozen? ⟨g, 0, none⟩ = false ∧ w.frozen? ⟨g, 1, none⟩ = false :=
  ⟨h.cell 0, h.cell 1, h.frozen 0, h.frozen 1⟩
set_option maxRecDepth 100000 in
set_option maxHeartbeats 4000000 in
theorem lineOf_main (f : Fil → Option Fil) (r : Rev) (g : Nat) (dv dr ev rv : Value) (n : Int) (cl tx : ByteArray) (bl be bn : Nat) (w : World) (hk : Chk w g dv dr n cl tx ev rv bl be bn) (hL : LineMap w bn f) (hn : 0 < r.num) (hn2 : r.num ≤ 1000000) :
    Calls Tryz.prog 78 #[.pointer (some ⟨g, 0, none⟩), .agg #[.string r.path, .int .i64 r.num, .int .i64 r.chg, .int .i64 r.act, .int .i64 r.ty.base, .bool r.ty.k, .bool r.ty.l, .bool r.ty.x, .int .u64 r.sum, .int .i64 r.size, .string r.frm, .int .i64 r.fnum]] w
      fun e w' => e = .returned (.agg #[.string (lineV f r).1, .int .i64 (lineV f r).2]) ∧ Below w.heap.size w w' := by
  obtain ⟨W, hW⟩ : ∃ W, W = (w.alloc (.cells #[.string r.path, .int .i64 r.num, .int .i64 r.chg, .int .i64 r.act, .int .i64 r.ty.base, .bool r.ty.k, .bool r.ty.l, .bool r.ty.x, .int .u64 r.sum, .int .i64 r.size, .string r.frm, .int .i64 r.fnum] 36)).alloc (.cells #[.string ⟨#[]⟩, .int .i64 0] 92) := ⟨_, rfl⟩
  have hbW : Below w.heap.size w W := by rw [hW]; exact ((Below.refl _ _).alloc (Nat.le_refl _) _).alloc (by simp) _
  have hR : Blk W w.heap.size 36 [.string r.path, .int .i64 r.num, .int .i64 r.chg, .int .i64 r.act, .int .i64 r.ty.base, .bool r.ty.k, .bool r.ty.l, .bool r.ty.x, .int .u64 r.sum, .int .i64 r.size, .string r.frm, .int .i64 r.fnum] := by rw [hW]; exact (blk_new w _ _).alloc _
  have hF : Blk W (w.heap.size + 1) 92 [.string ⟨#[]⟩, .int .i64 0] := by
    rw [hW]
    have := blk_new (w.alloc (.cells #[.string r.path, .int .i64 r.num, .int .i64 r.chg, .int .i64 r.act, .int .i64 r.ty.base, .bool r.ty.k, .bool r.ty.l, .bool r.ty.x, .int .u64 r.sum, .int .i64 r.size, .string r.frm, .int .i64 r.fnum] 36)) [.string ⟨#[]⟩, .int .i64 0] 92
    simpa using this
  have hK : Chk W g dv dr n cl tx ev rv bl be bn := Blk.below hk hbW (Blk.lt hk)
  have hLW : LineMap W bn f := FMap.below hL hbW
  have HW := Lib.hid hW
  clear hW
  by_cases h1 : r.act = 1
  · have H : Hid (lineV f r = (r.path, r.num)) := Lib.hid (by unfold lineV; rw [if_pos h1])
    have q1 : (r.act == 1) = true := by rw [h1]; rfl
    clear h1 hbW
    go_enter Tryz.func78, Tryz.ntmps78
    go_wp2_with fail
    refine bodyPost_ret (v := .agg #[.string r.path, .int .i64 r.num]) (by simp [results, Tryz.results78, go_sem]) rfl ⟨?_, ((Below.refl _ _).alloc (Nat.le_refl _) _).alloc (by simp) _⟩
    rw [H.out]
  · have q1 : (r.act == 1) = false := by simpa using h1
    obtain ⟨c0, c1, c2, c3, c4, c5, c6, c7, c8, c9, c10, c11⟩ := box12 hR
    obtain ⟨f0, f1, f2, f3⟩ := box2 hF
    obtain ⟨k0, k1, k2, k5, k6, k7, k8, k9⟩ := box10 hK
    by_cases h4 : r.act = 4
    · have H : Hid (lineV f r = lineR f (r.frm, r.fnum)) := Lib.hid (by unfold lineV lineR; rw [if_neg h1, if_pos h4])
      have q4 : (r.act == 4) = true := by rw [h4]; rfl
      have hlk := LineMap.look (w := W.drew) hLW r.frm r.fnum
      clear h1 h4
      generalize lineR f (r.frm, r.fnum) = o at H hlk
      go_enter Tryz.func78, Tryz.ntmps78
      go_wp2_with fail
      rw [← HW.out]
      go_still_tail 10, (by kernel_rfl)
      change wpList _ _ _ _ _ W.drew
      have hB2 : Below w.heap.size w W.drew := hbW.drew
      have hF2 : Blk W.drew (w.heap.size + 1) 92 [.string ⟨#[]⟩, .int .i64 0] := hF
      clear hlk
      generalize W.drew = W2 at hB2 hF2 ⊢
      obtain ⟨f0, f1, f2, f3⟩ := box2 hF2
      go_wp2_with fail
      have hF3 := (hF2.set_ 0 (.string o.1)).set_ 1 (.int .i64 o.2)
      have hB3 := (hB2.setCell (p := ⟨w.heap.size + 1, 0, none⟩) (by simp) (.string o.1)).setCell (p := ⟨w.heap.size + 1, 1, none⟩) (by simp) (.int .i64 o.2)
      generalize ((W2.setCell ⟨w.heap.size + 1, 0, none⟩ (.string o.1)).setCell ⟨w.heap.size + 1, 1, none⟩ (.int .i64 o.2)) = W3 at hF3 hB3 ⊢
      obtain ⟨e0, e1, -, -⟩ := box2 hF3
      refine bodyPost_ret (v := .agg #[.string o.1, .int .i64 o.2]) (by simp [results, Tryz.results78, go_sem, e0, e1]) rfl ⟨?_, hB3⟩
      rw [H.out]
    · have H : Hid (lineV f r = lineR f (r.path, r.num - 1)) := Lib.hid (by unfold lineV lineR; rw [if_neg h1, if_neg h4])
      have q4 : (r.act == 4) = false := by simpa using h4
      have hlk := LineMap.look (w := W.drew) hLW r.path (r.num - 1)
      clear h1 h4
      generalize lineR f (r.path, r.num - 1) = o at H hlk
      go_enter Tryz.func78, Tryz.ntmps78
      go_wp2_with fail
      rw [← HW.out]
      have hwr : IntKind.i64.wrap (r.num - 1) = r.num - 1 := IntWalk.i64_in _ (by omega)
      go_still_tail 11, (by kernel_rfl)
      change wpList _ _ _ _ _ W.drew
      clear hwr
      have hB2 : Below w.heap.size w W.drew := hbW.drew
      have hF2 : Blk W.drew (w.heap.size + 1) 92 [.string ⟨#[]⟩, .int .i64 0] := hF
      clear hlk
      generalize W.drew = W2 at hB2 hF2 ⊢
      obtain ⟨f0, f1, f2, f3⟩ := box2 hF2
      go_wp2_with fail
      have hF3 := (hF2.set_ 0 (.string o.1)).set_ 1 (.int .i64 o.2)
      have hB3 := (hB2.setCell (p := ⟨w.heap.size + 1, 0, none⟩) (by simp) (.string o.1)).setCell (p := ⟨w.heap.size + 1, 1, none⟩) (by simp) (.int .i64 o.2)
      generalize ((W2.setCell ⟨w.heap.size + 1, 0, none⟩ (.string o.1)).setCell ⟨w.heap.size + 1, 1, none⟩ (.int .i64 o.2)) = W3 at hF3 hB3 ⊢
      obtain ⟨e0, e1, -, -⟩ := box2 hF3
      refine bodyPost_ret (v := .agg #[.string o.1, .int .i64 o.2]) (by simp [results, Tryz.results78, go_sem, e0, e1]) rfl ⟨?_, hB3⟩
      rw [H.out]
end Go.Proofs.YtmhmnchdhacdbaaGreatDoor
