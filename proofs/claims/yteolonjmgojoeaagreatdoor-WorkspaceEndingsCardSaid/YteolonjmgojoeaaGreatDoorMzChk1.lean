/- live, unchanged, revision, room. -/
import Derived.Test.YteolonjmgojoeaaGreatDoorMgw2
namespace Go.Proofs.YteolonjmgojoeaaGreatDoor
open Go.RowKit
set_option linter.unusedVariables false
set_option linter.unusedSimpArgs false

theorem isLast_eq (f : ByteArray → Option Rev) (p : ByteArray) : isLast f p = ((f p).isSome && liveA (lastR f p).act) := by
  unfold isLast lastR; cases f p <;> rfl
theorem frz12 {w : World} {g : Nat} {e : TypeId} {a0 a1 a2 a3 a4 a5 a6 a7 a8 a9 a10 a11 : Value} (h : Blk w g e [a0, a1, a2, a3, a4, a5, a6, a7, a8, a9, a10, a11]) :
    w.frozen? ⟨g, 0, none⟩ = false ∧ w.frozen? ⟨g, 1, none⟩ = false ∧ w.frozen? ⟨g, 2, none⟩ = false ∧ w.frozen? ⟨g, 3, none⟩ = false ∧ w.frozen? ⟨g, 4, none⟩ = false ∧ w.frozen? ⟨g, 5, none⟩ = false ∧
    w.frozen? ⟨g, 6, none⟩ = false ∧ w.frozen? ⟨g, 7, none⟩ = false ∧ w.frozen? ⟨g, 8, none⟩ = false ∧ w.frozen? ⟨g, 9, none⟩ = false ∧ w.frozen? ⟨g, 10, none⟩ = false ∧ w.frozen? ⟨g, 11, none⟩ = false :=
  ⟨h.frozen 0, h.frozen 1, h.frozen 2, h.frozen 3, h.frozen 4, h.frozen 5, h.frozen 6, h.frozen 7, h.frozen 8, h.frozen 9, h.frozen 10, h.frozen 11⟩
theorem set12 {w : World} {g : Nat} {e : TypeId} {a0 a1 a2 a3 a4 a5 a6 a7 a8 a9 a10 a11 : Value} (h : Blk w g e [a0, a1, a2, a3, a4, a5, a6, a7, a8, a9, a10, a11]) (r : Rev) :
    Blk ((((((((((((w.setCell ⟨g, 0, none⟩ (.string r.path)).setCell ⟨g, 1, none⟩ (.int .i64 r.num)).setCell ⟨g, 2, none⟩ (.int .i64 r.chg)).setCell ⟨g, 3, none⟩ (.int .i64 r.act)).setCell ⟨g, 4, none⟩ (.int .i64 r.ty.base)).setCell ⟨g, 5, none⟩ (.bool r.ty.k)).setCell ⟨g, 6, none⟩ (.bool r.ty.l)).setCell ⟨g, 7, none⟩ (.bool r.ty.x)).setCell ⟨g, 8, none⟩ (.int .u64 r.sum)).setCell ⟨g, 9, none⟩ (.int .i64 r.size)).setCell ⟨g, 10, none⟩ (.string r.frm)).setCell ⟨g, 11, none⟩ (.int .i64 r.fnum)) g e [.string r.path, .int .i64 r.num, .int .i64 r.chg, .int .i64 r.act, .int .i64 r.ty.base, .bool r.ty.k, .bool r.ty.l, .bool r.ty.x, .int .u64 r.sum, .int .i64 r.size, .string r.frm, .int .i64 r.fnum] :=
  ((((((((((((h.set_ 0 _).set_ 1 _).set_ 2 _).set_ 3 _).set_ 4 _).set_ 5 _).set_ 6 _).set_ 7 _).set_ 8 _).set_ 9 _).set_ 10 _).set_ 11 _)
theorem below12 {B : Nat} {w0 w : World} {g : Nat} (h : Below B w0 w) (hg : B ≤ g) (r : Rev) : Below B w0 ((((((((((((w.setCell ⟨g, 0, none⟩ (.string r.path)).setCell ⟨g, 1, none⟩ (.int .i64 r.num)).setCell ⟨g, 2, none⟩ (.int .i64 r.chg)).setCell ⟨g, 3, none⟩ (.int .i64 r.act)).setCell ⟨g, 4, none⟩ (.int .i64 r.ty.base)).setCell ⟨g, 5, none⟩ (.bool r.ty.k)).setCell ⟨g, 6, none⟩ (.bool r.ty.l)).setCell ⟨g, 7, none⟩ (.bool r.ty.x)).setCell ⟨g, 8, none⟩ (.int .u64 r.sum)).setCell ⟨g, 9, none⟩ (.int .i64 r.size)).setCell ⟨g, 10, none⟩ (.string r.frm)).setCell ⟨g, 11, none⟩ (.int .i64 r.fnum)) :=
  ((((((((((((h.setCell hg _).setCell hg _).setCell hg _).setCell hg _).setCell hg _).setCell hg _).setCell hg _).setCell hg _).setCell hg _).setCell hg _).setCell hg _).setCell hg _)

set_option maxRecDepth 100000 in
set_option maxHeartbeats 4000000 in
theorem live_any (f : ByteArray → Option Rev) (p : ByteArray) (g : Nat) (dv dr ev rv : Value) (n : Int) (cl tx : ByteArray) (bl be bn : Nat) (w : World) (hk : Chk w g dv dr n cl tx ev rv bl be bn) (hL : LastMap w bl f) :
    Calls Tryz.prog 81 #[.pointer (some ⟨g, 0, none⟩), .string p] w
      fun e w' => e = .returned (.tuple #[.agg #[.string (lastR f p).path, .int .i64 (lastR f p).num, .int .i64 (lastR f p).chg, .int .i64 (lastR f p).act, .int .i64 (lastR f p).ty.base, .bool (lastR f p).ty.k, .bool (lastR f p).ty.l, .bool (lastR f p).ty.x, .int .u64 (lastR f p).sum, .int .i64 (lastR f p).size, .string (lastR f p).frm, .int .i64 (lastR f p).fnum], .bool (isLast f p)]) ∧ Below w.heap.size w w' := by
  have hbW : Below w.heap.size w (w.alloc (.cells #[.string ⟨#[]⟩, .int .i64 0, .int .i64 0, .int .i64 0, .int .i64 0, .bool false, .bool false, .bool false, .int .u64 0, .int .i64 0, .string ⟨#[]⟩, .int .i64 0] 74)) := (Below.refl _ _).alloc (Nat.le_refl _) _
  have hK : Chk (w.alloc (.cells #[.string ⟨#[]⟩, .int .i64 0, .int .i64 0, .int .i64 0, .int .i64 0, .bool false, .bool false, .bool false, .int .u64 0, .int .i64 0, .string ⟨#[]⟩, .int .i64 0] 74)) g dv dr n cl tx ev rv bl be bn := Blk.below hk hbW (Blk.lt hk)
  have hlk := LastMap.look2 (w := w.alloc (.cells #[.string ⟨#[]⟩, .int .i64 0, .int .i64 0, .int .i64 0, .int .i64 0, .bool false, .bool false, .bool false, .int .u64 0, .int .i64 0, .string ⟨#[]⟩, .int .i64 0] 74)) (FMap.below hL hbW) p
  obtain ⟨-, -, -, -, -, k7, -, -⟩ := box10 hK
  clear hK
  have HL := Lib.hid (isLast_eq f p)
  have hgl := Blk.lt hk
  generalize lastR f p = r at hlk HL ⊢
  generalize (f p).isSome = b at hlk HL
  obtain ⟨W, hW⟩ : ∃ W, W = (w.alloc (.cells #[.string ⟨#[]⟩, .int .i64 0, .int .i64 0, .int .i64 0, .int .i64 0, .bool false, .bool false, .bool false, .int .u64 0, .int .i64 0, .string ⟨#[]⟩, .int .i64 0] 74)).alloc (.cells #[.string r.path, .int .i64 r.num, .int .i64 r.chg, .int .i64 r.act, .int .i64 r.ty.base, .bool r.ty.k, .bool r.ty.l, .bool r.ty.x, .int .u64 r.sum, .int .i64 r.size, .string r.frm, .int .i64 r.fnum] 74) := ⟨_, rfl⟩
  have hbW2 : Below w.heap.size w W := by rw [hW]; exact hbW.alloc hbW.size _
  have hZ : Blk W w.heap.size 74 [.string ⟨#[]⟩, .int .i64 0, .int .i64 0, .int .i64 0, .int .i64 0, .bool false, .bool false, .bool false, .int .u64 0, .int .i64 0, .string ⟨#[]⟩, .int .i64 0] := by rw [hW]; exact (blk_new w _ _).alloc _
  have hR : Blk W (w.heap.size + 1) 74 [.string r.path, .int .i64 r.num, .int .i64 r.chg, .int .i64 r.act, .int .i64 r.ty.base, .bool r.ty.k, .bool r.ty.l, .bool r.ty.x, .int .u64 r.sum, .int .i64 r.size, .string r.frm, .int .i64 r.fnum] := by
    rw [hW]
    have := blk_new (w.alloc (.cells #[.string ⟨#[]⟩, .int .i64 0, .int .i64 0, .int .i64 0, .int .i64 0, .bool false, .bool false, .bool false, .int .u64 0, .int .i64 0, .string ⟨#[]⟩, .int .i64 0] 74)) [.string r.path, .int .i64 r.num, .int .i64 r.chg, .int .i64 r.act, .int .i64 r.ty.base, .bool r.ty.k, .bool r.ty.l, .bool r.ty.x, .int .u64 r.sum, .int .i64 r.size, .string r.frm, .int .i64 r.fnum] 74
    simpa using this
  have HW := Lib.hid hW
  clear hW
  obtain ⟨c0, c1, c2, c3, c4, c5, c6, c7, c8, c9, c10, c11⟩ := box12 hR
  obtain ⟨z0, z1, z2, z3, z4, z5, z6, z7, z8, z9, z10, z11⟩ := box12 hZ
  obtain ⟨y0, y1, y2, y3, y4, y5, y6, y7, y8, y9, y10, y11⟩ := frz12 hZ
  cases b
  · go_enter Tryz.func81, Tryz.ntmps81
    go_wp2_with fail
    rw [← HW.out]
    clear hlk k7 hbW
    go_region
    have hZ2 := set12 hZ r
    have hB2 := below12 hbW2 (Nat.le_refl w.heap.size) r
    generalize ((((((((((((W.setCell ⟨w.heap.size, 0, none⟩ (.string r.path)).setCell ⟨w.heap.size, 1, none⟩ (.int .i64 r.num)).setCell ⟨w.heap.size, 2, none⟩ (.int .i64 r.chg)).setCell ⟨w.heap.size, 3, none⟩ (.int .i64 r.act)).setCell ⟨w.heap.size, 4, none⟩ (.int .i64 r.ty.base)).setCell ⟨w.heap.size, 5, none⟩ (.bool r.ty.k)).setCell ⟨w.heap.size, 6, none⟩ (.bool r.ty.l)).setCell ⟨w.heap.size, 7, none⟩ (.bool r.ty.x)).setCell ⟨w.heap.size, 8, none⟩ (.int .u64 r.sum)).setCell ⟨w.heap.size, 9, none⟩ (.int .i64 r.size)).setCell ⟨w.heap.size, 10, none⟩ (.string r.frm)).setCell ⟨w.heap.size, 11, none⟩ (.int .i64 r.fnum)) = W3 at hZ2 hB2 ⊢
    go_wp2_with fail
    obtain ⟨e0, e1, e2, e3, e4, e5, e6, e7, e8, e9, e10, e11⟩ := box12 hZ2
    refine bodyPost_ret (v := .tuple #[.agg #[.string r.path, .int .i64 r.num, .int .i64 r.chg, .int .i64 r.act, .int .i64 r.ty.base, .bool r.ty.k, .bool r.ty.l, .bool r.ty.x, .int .u64 r.sum, .int .i64 r.size, .string r.frm, .int .i64 r.fnum], .bool false]) (by simp [results, Tryz.results81, go_sem, e0, e1, e2, e3, e4, e5, e6, e7, e8, e9, e10, e11]) rfl ⟨?_, hB2.drew⟩
    rw [HL.out]; rfl
  · go_enter Tryz.func81, Tryz.ntmps81
    go_wp2_with fail
    rw [← HW.out]
    clear hlk k7 hbW
    go_region_with (go_at_call 83; refine (isLive_any _ _).mono ?_; rintro e w' ⟨rfl, rfl⟩)
    all_goals
      have hZ2 := set12 hZ r
      have hB2 := below12 hbW2 (Nat.le_refl w.heap.size) r
      generalize ((((((((((((W.setCell ⟨w.heap.size, 0, none⟩ (.string r.path)).setCell ⟨w.heap.size, 1, none⟩ (.int .i64 r.num)).setCell ⟨w.heap.size, 2, none⟩ (.int .i64 r.chg)).setCell ⟨w.heap.size, 3, none⟩ (.int .i64 r.act)).setCell ⟨w.heap.size, 4, none⟩ (.int .i64 r.ty.base)).setCell ⟨w.heap.size, 5, none⟩ (.bool r.ty.k)).setCell ⟨w.heap.size, 6, none⟩ (.bool r.ty.l)).setCell ⟨w.heap.size, 7, none⟩ (.bool r.ty.x)).setCell ⟨w.heap.size, 8, none⟩ (.int .u64 r.sum)).setCell ⟨w.heap.size, 9, none⟩ (.int .i64 r.size)).setCell ⟨w.heap.size, 10, none⟩ (.string r.frm)).setCell ⟨w.heap.size, 11, none⟩ (.int .i64 r.fnum)) = W3 at hZ2 hB2 ⊢
      go_wp2_with fail
      obtain ⟨e0, e1, e2, e3, e4, e5, e6, e7, e8, e9, e10, e11⟩ := box12 hZ2
      refine bodyPost_ret (v := .tuple #[.agg #[.string r.path, .int .i64 r.num, .int .i64 r.chg, .int .i64 r.act, .int .i64 r.ty.base, .bool r.ty.k, .bool r.ty.l, .bool r.ty.x, .int .u64 r.sum, .int .i64 r.size, .string r.frm, .int .i64 r.fnum], .bool (liveA r.act)]) (by simp [results, Tryz.results81, go_sem, e0, e1, e2, e3, e4, e5, e6, e7, e8, e9, e10, e11]) rfl ⟨?_, hB2.drew⟩
      rw [HL.out]; rfl
end Go.Proofs.YteolonjmgojoeaaGreatDoor
