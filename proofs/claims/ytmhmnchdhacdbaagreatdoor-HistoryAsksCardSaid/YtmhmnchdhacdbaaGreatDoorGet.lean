/- Get. -/
import Derived.Test.YtmhmnchdhacdbaaGreatDoorGreat
namespace Go.Proofs.YtmhmnchdhacdbaaGreatDoor
open Go.RowKit
set_option linter.unusedVariables false
set_option linter.unusedSimpArgs false

set_option maxRecDepth 100000 in
set_option maxHeartbeats 4000000 in
theorem get_any (revs : List Rev) (q : ByteArray) (m : Int) (dv dr : Value) (w : World) (hR : Revs w dv revs) (hl : revs.length ≤ 1000000) :
    Calls Tryz.prog 11 #[.agg #[dv, dr], .string q, .int .i64 m] w
      fun e w' => e = .returned (.tuple #[.agg #[.string (someR (greatest revs q (fun v : Rev => decide (v.num = m)))).path, .int .i64 (someR (greatest revs q (fun v : Rev => decide (v.num = m)))).num, .int .i64 (someR (greatest revs q (fun v : Rev => decide (v.num = m)))).chg, .int .i64 (someR (greatest revs q (fun v : Rev => decide (v.num = m)))).act, .int .i64 (someR (greatest revs q (fun v : Rev => decide (v.num = m)))).ty.base, .bool (someR (greatest revs q (fun v : Rev => decide (v.num = m)))).ty.k, .bool (someR (greatest revs q (fun v : Rev => decide (v.num = m)))).ty.l, .bool (someR (greatest revs q (fun v : Rev => decide (v.num = m)))).ty.x, .int .u64 (someR (greatest revs q (fun v : Rev => decide (v.num = m)))).sum, .int .i64 (someR (greatest revs q (fun v : Rev => decide (v.num = m)))).size, .string (someR (greatest revs q (fun v : Rev => decide (v.num = m)))).frm, .int .i64 (someR (greatest revs q (fun v : Rev => decide (v.num = m)))).fnum], .bool (greatest revs q (fun v : Rev => decide (v.num = m))).isSome]) ∧ Below w.heap.size w w' := by
  have HR := Lib.hid hR
  obtain ⟨Ar, cr, rfl, -⟩ := hR
  obtain ⟨dv, hdv⟩ : ∃ v, Value.slice Ar revs.length cr = v := ⟨_, rfl⟩
  have hb0 : Below w.heap.size w (((w.alloc (.cells #[(.slice Ar revs.length cr), dr] 28)).alloc (.cells #[.int .i64 m] 3)).alloc (.cells #[.string ⟨#[]⟩, .int .i64 0, .int .i64 0, .int .i64 0, .int .i64 0, .bool false, .bool false, .bool false, .int .u64 0, .int .i64 0, .string ⟨#[]⟩, .int .i64 0] 36)) := ((((Below.refl _ _).alloc (Nat.le_refl _) _).alloc (by simp) _).alloc (by simp; omega) _)
  have hZ : Blk (((w.alloc (.cells #[(.slice Ar revs.length cr), dr] 28)).alloc (.cells #[.int .i64 m] 3)).alloc (.cells #[.string ⟨#[]⟩, .int .i64 0, .int .i64 0, .int .i64 0, .int .i64 0, .bool false, .bool false, .bool false, .int .u64 0, .int .i64 0, .string ⟨#[]⟩, .int .i64 0] 36)) (w.heap.size + 1 + 1) 36 [.string ⟨#[]⟩, .int .i64 0, .int .i64 0, .int .i64 0, .int .i64 0, .bool false, .bool false, .bool false, .int .u64 0, .int .i64 0, .string ⟨#[]⟩, .int .i64 0] := by
    have h1 := blk_new ((w.alloc (.cells #[(.slice Ar revs.length cr), dr] 28)).alloc (.cells #[.int .i64 m] 3)) [.string ⟨#[]⟩, .int .i64 0, .int .i64 0, .int .i64 0, .int .i64 0, .bool false, .bool false, .bool false, .int .u64 0, .int .i64 0, .string ⟨#[]⟩, .int .i64 0] 36
    simp only [World.size_alloc] at h1
    exact h1
  have hcell : (((w.alloc (.cells #[(.slice Ar revs.length cr), dr] 28)).alloc (.cells #[.int .i64 m] 3)).alloc (.cells #[.string ⟨#[]⟩, .int .i64 0, .int .i64 0, .int .i64 0, .int .i64 0, .bool false, .bool false, .bool false, .int .u64 0, .int .i64 0, .string ⟨#[]⟩, .int .i64 0] 36)).cell? ⟨w.heap.size + 1, 0, none⟩ = some (.int .i64 m) := by
    have h1 := (blk_new (w.alloc (.cells #[(.slice Ar revs.length cr), dr] 28)) [.int .i64 m] 3).alloc (.cells #[.string ⟨#[]⟩, .int .i64 0, .int .i64 0, .int .i64 0, .int .i64 0, .bool false, .bool false, .bool false, .int .u64 0, .int .i64 0, .string ⟨#[]⟩, .int .i64 0] 36)
    simp only [World.size_alloc] at h1
    exact h1.cell 0
  have HC := Lib.hid (greatest_get revs q m (w.heap.size + 1) (.slice Ar revs.length cr) dr _ (HR.out.below hb0) hcell hl)
  clear hdv dv hcell
  generalize greatest revs q (fun v : Rev => decide (v.num = m)) = o at HC ⊢
  generalize someR o = r at HC ⊢
  go_enter Tryz.func11, Tryz.ntmps11
  go_wp2_with fail
  refine HC.out.mono ?_
  rintro e w1 ⟨rfl, hb1⟩
  have hZ1 := hZ.below hb1 hZ.lt
  have hbw1 := below_next hb0 hb1
  obtain ⟨z0, z1, z2, z3, z4, z5, z6, z7, z8, z9, z10, z11⟩ := box12 hZ1
  obtain ⟨y0, y1, y2, y3, y4, y5, y6, y7, y8, y9, y10, y11⟩ := frz12 hZ1
  clear hb1
  go_wp2_with fail
  have hZ3 := set12 hZ1 r
  have hB3 := below12 hbw1 (show w.heap.size ≤ w.heap.size + 1 + 1 by omega) r
  generalize ((((((((((((w1.setCell ⟨w.heap.size + 1 + 1, 0, none⟩ (.string r.path)).setCell ⟨w.heap.size + 1 + 1, 1, none⟩ (.int .i64 r.num)).setCell ⟨w.heap.size + 1 + 1, 2, none⟩ (.int .i64 r.chg)).setCell ⟨w.heap.size + 1 + 1, 3, none⟩ (.int .i64 r.act)).setCell ⟨w.heap.size + 1 + 1, 4, none⟩ (.int .i64 r.ty.base)).setCell ⟨w.heap.size + 1 + 1, 5, none⟩ (.bool r.ty.k)).setCell ⟨w.heap.size + 1 + 1, 6, none⟩ (.bool r.ty.l)).setCell ⟨w.heap.size + 1 + 1, 7, none⟩ (.bool r.ty.x)).setCell ⟨w.heap.size + 1 + 1, 8, none⟩ (.int .u64 r.sum)).setCell ⟨w.heap.size + 1 + 1, 9, none⟩ (.int .i64 r.size)).setCell ⟨w.heap.size + 1 + 1, 10, none⟩ (.string r.frm)).setCell ⟨w.heap.size + 1 + 1, 11, none⟩ (.int .i64 r.fnum)) = W3 at hZ3 hB3 ⊢
  obtain ⟨e0, e1, e2, e3, e4, e5, e6, e7, e8, e9, e10, e11⟩ := box12 hZ3
  exact bodyPost_ret (v := .tuple #[.agg #[.string r.path, .int .i64 r.num, .int .i64 r.chg, .int .i64 r.act, .int .i64 r.ty.base, .bool r.ty.k, .bool r.ty.l, .bool r.ty.x, .int .u64 r.sum, .int .i64 r.size, .string r.frm, .int .i64 r.fnum], .bool o.isSome]) (by simp [results, Tryz.results11, go_sem, e0, e1, e2, e3, e4, e5, e6, e7, e8, e9, e10, e11]) rfl ⟨rfl, hB3⟩
end Go.Proofs.YtmhmnchdhacdbaaGreatDoor
