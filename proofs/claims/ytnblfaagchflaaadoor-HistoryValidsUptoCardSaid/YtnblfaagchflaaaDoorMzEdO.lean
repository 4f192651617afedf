/- history.editOf; region 24 of history.Valid. -/
import Derived.Test.YtnblfaagchflaaaDoorMgw12
namespace Go.Proofs.YtnblfaagchflaaaDoor
open Go.RowKit
set_option linter.unusedVariables false
set_option linter.unusedSimpArgs false

/-- The edit that made a revision. -/
def edtOf (r : Rev) : Edt := ⟨r.path, r.act, r.ty, r.sum, r.size, r.num - 1, r.frm, r.fnum, 0⟩
theorem set12E {w : World} {g : Nat} {e : TypeId} {a0 a1 a2 a3 a4 a5 a6 a7 a8 a9 a10 a11 : Value} (h : Blk w g e [a0, a1, a2, a3, a4, a5, a6, a7, a8, a9, a10, a11]) (x : Edt) : Blk ((((((((((((w.setCell ⟨g, 0, none⟩ (.string x.path)).setCell ⟨g, 1, none⟩ (.int .i64 x.act)).setCell ⟨g, 2, none⟩ (.int .i64 x.ty.base)).setCell ⟨g, 3, none⟩ (.bool x.ty.k)).setCell ⟨g, 4, none⟩ (.bool x.ty.l)).setCell ⟨g, 5, none⟩ (.bool x.ty.x)).setCell ⟨g, 6, none⟩ (.int .u64 x.sum)).setCell ⟨g, 7, none⟩ (.int .i64 x.size)).setCell ⟨g, 8, none⟩ (.int .i64 x.base)).setCell ⟨g, 9, none⟩ (.string x.frm)).setCell ⟨g, 10, none⟩ (.int .i64 x.fnum)).setCell ⟨g, 11, none⟩ (.int .i64 x.fence)) g e [.string x.path, .int .i64 x.act, .int .i64 x.ty.base, .bool x.ty.k, .bool x.ty.l, .bool x.ty.x, .int .u64 x.sum, .int .i64 x.size, .int .i64 x.base, .string x.frm, .int .i64 x.fnum, .int .i64 x.fence] := ((((((((((((h.set_ 0 _).set_ 1 _).set_ 2 _).set_ 3 _).set_ 4 _).set_ 5 _).set_ 6 _).set_ 7 _).set_ 8 _).set_ 9 _).set_ 10 _).set_ 11 _)
theorem below12E {w0 w : World} {B g : Nat} (h : Below B w0 w) (hg : B ≤ g) (x : Edt) : Below B w0 ((((((((((((w.setCell ⟨g, 0, none⟩ (.string x.path)).setCell ⟨g, 1, none⟩ (.int .i64 x.act)).setCell ⟨g, 2, none⟩ (.int .i64 x.ty.base)).setCell ⟨g, 3, none⟩ (.bool x.ty.k)).setCell ⟨g, 4, none⟩ (.bool x.ty.l)).setCell ⟨g, 5, none⟩ (.bool x.ty.x)).setCell ⟨g, 6, none⟩ (.int .u64 x.sum)).setCell ⟨g, 7, none⟩ (.int .i64 x.size)).setCell ⟨g, 8, none⟩ (.int .i64 x.base)).setCell ⟨g, 9, none⟩ (.string x.frm)).setCell ⟨g, 10, none⟩ (.int .i64 x.fnum)).setCell ⟨g, 11, none⟩ (.int .i64 x.fence)) := ((((((((((((h.setCell (p := ⟨g, 0, none⟩) hg _).setCell (p := ⟨g, 1, none⟩) hg _).setCell (p := ⟨g, 2, none⟩) hg _).setCell (p := ⟨g, 3, none⟩) hg _).setCell (p := ⟨g, 4, none⟩) hg _).setCell (p := ⟨g, 5, none⟩) hg _).setCell (p := ⟨g, 6, none⟩) hg _).setCell (p := ⟨g, 7, none⟩) hg _).setCell (p := ⟨g, 8, none⟩) hg _).setCell (p := ⟨g, 9, none⟩) hg _).setCell (p := ⟨g, 10, none⟩) hg _).setCell (p := ⟨g, 11, none⟩) hg _)
set_option maxRecDepth 100000 in
set_option maxHeartbeats 4000000 in
theorem editOf_any (revs : List Rev) (k : Nat) (dv dr : Value) (w : World) (hR : Revs w dv revs) (hk : k < revs.length) (x : Rev) (hx : revs[k] = x) (hn : 0 < x.num ∧ x.num ≤ 1000000) :
    Calls Tryd.prog 9 #[.agg #[dv, dr], .int .i64 k] w fun e w' => e = .returned (.agg #[.string (edtOf x).path, .int .i64 (edtOf x).act, .int .i64 (edtOf x).ty.base, .bool (edtOf x).ty.k, .bool (edtOf x).ty.l, .bool (edtOf x).ty.x, .int .u64 (edtOf x).sum, .int .i64 (edtOf x).size, .int .i64 (edtOf x).base, .string (edtOf x).frm, .int .i64 (edtOf x).fnum, .int .i64 (edtOf x).fence]) ∧ Below w.heap.size w w' := by
  obtain ⟨Ar, cr, rfl, hcr, hmr, -⟩ := id hR
  unfold maxLen at hmr
  obtain ⟨W, hW⟩ : ∃ W, W = (w.alloc (.cells #[.slice Ar revs.length cr, dr] 25)).alloc (.cells #[.string ⟨#[]⟩, .int .i64 0, .int .i64 0, .bool false, .bool false, .bool false, .int .u64 0, .int .i64 0, .int .i64 0, .string ⟨#[]⟩, .int .i64 0, .int .i64 0] 39) := ⟨_, rfl⟩
  have hbW : Below w.heap.size w W := by rw [hW]; exact ((Below.refl _ _).alloc (Nat.le_refl _) _).alloc (by simp) _
  have hsz : W.heap.size = w.heap.size + 1 + 1 := by rw [hW]; simp
  have hD : Blk W w.heap.size 25 [.slice Ar revs.length cr, dr] := by rw [hW]; exact (blk_new w _ _).alloc _
  have hF : Blk W (w.heap.size + 1) 39 [.string ⟨#[]⟩, .int .i64 0, .int .i64 0, .bool false, .bool false, .bool false, .int .u64 0, .int .i64 0, .int .i64 0, .string ⟨#[]⟩, .int .i64 0, .int .i64 0] := by rw [hW]; exact blk_at (by simp)
  obtain ⟨ad, rfl, hab, hld⟩ := Revs.at_ (hR.below hbW) hk
  have hkz : (k : Int) < (revs.length : Int) := by omega
  rw [hx] at hld
  clear hx
  obtain ⟨x0, x1, x2, x3, x4, x5, x6, x7, x8, x9, x10, x11⟩ := hld
  have HW := Lib.hid hW
  clear hW hR
  obtain ⟨d0, -, -, -⟩ := box2 hD
  have hwr : IntKind.i64.wrap (x.num - 1) = x.num - 1 := IntWalk.i64_in _ (by omega)
  go_enter Tryd.func9, Tryd.ntmps9
  go_upto_region 1 with fail
  rw [← HW.out]
  have hX1 := blk_new W [.string x.path, .int .i64 x.num, .int .i64 x.chg, .int .i64 x.act, .int .i64 x.ty.base, .bool x.ty.k, .bool x.ty.l, .bool x.ty.x, .int .u64 x.sum, .int .i64 x.size, .string x.frm, .int .i64 x.fnum] 33
  have hA1 := hbW.alloc hbW.size (.cells #[.string x.path, .int .i64 x.num, .int .i64 x.chg, .int .i64 x.act, .int .i64 x.ty.base, .bool x.ty.k, .bool x.ty.l, .bool x.ty.x, .int .u64 x.sum, .int .i64 x.size, .string x.frm, .int .i64 x.fnum] 33)
  have hF1 := hF.alloc (.cells #[.string x.path, .int .i64 x.num, .int .i64 x.chg, .int .i64 x.act, .int .i64 x.ty.base, .bool x.ty.k, .bool x.ty.l, .bool x.ty.x, .int .u64 x.sum, .int .i64 x.size, .string x.frm, .int .i64 x.fnum] 33)
  go_upto_region 2 with fail
  clear x0 x1 x2 x3 x4 x5 x6 x7 x8 x9 x10 x11 d0
  generalize W.alloc (.cells #[.string x.path, .int .i64 x.num, .int .i64 x.chg, .int .i64 x.act, .int .i64 x.ty.base, .bool x.ty.k, .bool x.ty.l, .bool x.ty.x, .int .u64 x.sum, .int .i64 x.size, .string x.frm, .int .i64 x.fnum] 33) = W1 at hX1 hA1 hF1 ⊢
  rw [hsz] at hX1
  obtain ⟨c0, c1, c2, c3, c4, c5, c6, c7, c8, c9, c10, c11⟩ := box12 hX1
  obtain ⟨z0, z1, z2, z3, z4, z5, z6, z7, z8, z9, z10, z11⟩ := box12 hF1
  obtain ⟨y0, y1, y2, y3, y4, y5, y6, y7, y8, y9, y10, y11⟩ := frz12 hF1
  have HF1 := Lib.hid hF1
  have HA1 := Lib.hid hA1
  clear hF1 hA1 hX1 hD hF hbW
  go_wp2_with fail
  have hZ3 := set12E HF1.out (edtOf x)
  have hB3 := below12E HA1.out (show w.heap.size ≤ w.heap.size + 1 by omega) (edtOf x)
  clear c0 c1 c2 c3 c4 c5 c6 c7 c8 c9 c10 c11 z0 z1 z2 z3 z4 z5 z6 z7 z8 z9 z10 z11 y0 y1 y2 y3 y4 y5 y6 y7 y8 y9 y10 y11
  have e : ((((((((((((W1.setCell ⟨w.heap.size + 1, 0, none⟩ (.string (edtOf x).path)).setCell ⟨w.heap.size + 1, 1, none⟩ (.int .i64 (edtOf x).act)).setCell ⟨w.heap.size + 1, 2, none⟩ (.int .i64 (edtOf x).ty.base)).setCell ⟨w.heap.size + 1, 3, none⟩ (.bool (edtOf x).ty.k)).setCell ⟨w.heap.size + 1, 4, none⟩ (.bool (edtOf x).ty.l)).setCell ⟨w.heap.size + 1, 5, none⟩ (.bool (edtOf x).ty.x)).setCell ⟨w.heap.size + 1, 6, none⟩ (.int .u64 (edtOf x).sum)).setCell ⟨w.heap.size + 1, 7, none⟩ (.int .i64 (edtOf x).size)).setCell ⟨w.heap.size + 1, 8, none⟩ (.int .i64 (edtOf x).base)).setCell ⟨w.heap.size + 1, 9, none⟩ (.string (edtOf x).frm)).setCell ⟨w.heap.size + 1, 10, none⟩ (.int .i64 (edtOf x).fnum)).setCell ⟨w.heap.size + 1, 11, none⟩ (.int .i64 (edtOf x).fence)) = ((((((((((((W1.setCell ⟨w.heap.size + 1, 0, none⟩ (.string ((⟨x.path, x.act, x.ty, x.sum, x.size, x.num - 1, x.frm, x.fnum, 0⟩ : Edt)).path)).setCell ⟨w.heap.size + 1, 1, none⟩ (.int .i64 ((⟨x.path, x.act, x.ty, x.sum, x.size, x.num - 1, x.frm, x.fnum, 0⟩ : Edt)).act)).setCell ⟨w.heap.size + 1, 2, none⟩ (.int .i64 ((⟨x.path, x.act, x.ty, x.sum, x.size, x.num - 1, x.frm, x.fnum, 0⟩ : Edt)).ty.base)).setCell ⟨w.heap.size + 1, 3, none⟩ (.bool ((⟨x.path, x.act, x.ty, x.sum, x.size, x.num - 1, x.frm, x.fnum, 0⟩ : Edt)).ty.k)).setCell ⟨w.heap.size + 1, 4, none⟩ (.bool ((⟨x.path, x.act, x.ty, x.sum, x.size, x.num - 1, x.frm, x.fnum, 0⟩ : Edt)).ty.l)).setCell ⟨w.heap.size + 1, 5, none⟩ (.bool ((⟨x.path, x.act, x.ty, x.sum, x.size, x.num - 1, x.frm, x.fnum, 0⟩ : Edt)).ty.x)).setCell ⟨w.heap.size + 1, 6, none⟩ (.int .u64 ((⟨x.path, x.act, x.ty, x.sum, x.size, x.num - 1, x.frm, x.fnum, 0⟩ : Edt)).sum)).setCell ⟨w.heap.size + 1, 7, none⟩ (.int .i64 ((⟨x.path, x.act, x.ty, x.sum, x.size, x.num - 1, x.frm, x.fnum, 0⟩ : Edt)).size)).setCell ⟨w.heap.size + 1, 8, none⟩ (.int .i64 ((⟨x.path, x.act, x.ty, x.sum, x.size, x.num - 1, x.frm, x.fnum, 0⟩ : Edt)).base)).setCell ⟨w.heap.size + 1, 9, none⟩ (.string ((⟨x.path, x.act, x.ty, x.sum, x.size, x.num - 1, x.frm, x.fnum, 0⟩ : Edt)).frm)).setCell ⟨w.heap.size + 1, 10, none⟩ (.int .i64 ((⟨x.path, x.act, x.ty, x.sum, x.size, x.num - 1, x.frm, x.fnum, 0⟩ : Edt)).fnum)).setCell ⟨w.heap.size + 1, 11, none⟩ (.int .i64 ((⟨x.path, x.act, x.ty, x.sum, x.size, x.num - 1, x.frm, x.fnum, 0⟩ : Edt)).fence)) := rfl
  dsimp only at e
  rw [← e]
  generalize ((((((((((((W1.setCell ⟨w.heap.size + 1, 0, none⟩ (.string (edtOf x).path)).setCell ⟨w.heap.size + 1, 1, none⟩ (.int .i64 (edtOf x).act)).setCell ⟨w.heap.size + 1, 2, none⟩ (.int .i64 (edtOf x).ty.base)).setCell ⟨w.heap.size + 1, 3, none⟩ (.bool (edtOf x).ty.k)).setCell ⟨w.heap.size + 1, 4, none⟩ (.bool (edtOf x).ty.l)).setCell ⟨w.heap.size + 1, 5, none⟩ (.bool (edtOf x).ty.x)).setCell ⟨w.heap.size + 1, 6, none⟩ (.int .u64 (edtOf x).sum)).setCell ⟨w.heap.size + 1, 7, none⟩ (.int .i64 (edtOf x).size)).setCell ⟨w.heap.size + 1, 8, none⟩ (.int .i64 (edtOf x).base)).setCell ⟨w.heap.size + 1, 9, none⟩ (.string (edtOf x).frm)).setCell ⟨w.heap.size + 1, 10, none⟩ (.int .i64 (edtOf x).fnum)).setCell ⟨w.heap.size + 1, 11, none⟩ (.int .i64 (edtOf x).fence)) = W3 at hZ3 hB3 ⊢
  obtain ⟨e0, e1, e2, e3, e4, e5, e6, e7, e8, e9, e10, e11⟩ := box12 hZ3
  refine bodyPost_ret (v := .agg #[.string (edtOf x).path, .int .i64 (edtOf x).act, .int .i64 (edtOf x).ty.base, .bool (edtOf x).ty.k, .bool (edtOf x).ty.l, .bool (edtOf x).ty.x, .int .u64 (edtOf x).sum, .int .i64 (edtOf x).size, .int .i64 (edtOf x).base, .string (edtOf x).frm, .int .i64 (edtOf x).fnum, .int .i64 (edtOf x).fence]) (by simp [results, Tryd.results9, go_sem, e0, e1, e2, e3, e4, e5, e6, e7, e8, e9, e10, e11]) rfl ⟨rfl, hB3⟩
end Go.Proofs.YtnblfaagchflaaaDoor
