/- unchanged, revision, room. -/
import Derived.Test.YteolonjmgojoeaaGreatDoorMzChk1
namespace Go.Proofs.YteolonjmgojoeaaGreatDoor
open Go.RowKit
set_option linter.unusedVariables false
set_option linter.unusedSimpArgs false

theorem run_eql_ty (a b : Ty) (W : World) : (binOp .eql 52 (.agg #[.int .i64 a.base, .bool a.k, .bool a.l, .bool a.x]) (.agg #[.int .i64 b.base, .bool b.k, .bool b.l, .bool b.x])).run Tryz.prog W = .ok (.bool (decide (a = b))) W := by
  obtain ⟨a0, a1, a2, a3⟩ := a
  obtain ⟨b0, b1, b2, b3⟩ := b
  rw [run_eql_struct, run_equalIn_agg W 9999 52 _ _ (by kernel_rfl) (by kernel_rfl)]
  simp [go_sem, Op.eqFields]
  by_cases h1 : a0 = b0 <;> by_cases h2 : a1 = b1 <;> by_cases h3 : a2 = b2 <;> by_cases h4 : a3 = b3 <;> simp [h1, h2, h3, h4]
theorem run_neq_ty (a b : Ty) (W : World) : (binOp .neq 52 (.agg #[.int .i64 a.base, .bool a.k, .bool a.l, .bool a.x]) (.agg #[.int .i64 b.base, .bool b.k, .bool b.l, .bool b.x])).run Tryz.prog W = .ok (.bool (!decide (a = b))) W := by
  obtain ⟨a0, a1, a2, a3⟩ := a
  obtain ⟨b0, b1, b2, b3⟩ := b
  rw [run_neq_struct, run_equalIn_agg W 9999 52 _ _ (by kernel_rfl) (by kernel_rfl)]
  simp [go_sem, Op.eqFields]
  by_cases h1 : a0 = b0 <;> by_cases h2 : a1 = b1 <;> by_cases h3 : a2 = b2 <;> by_cases h4 : a3 = b3 <;> simp [h1, h2, h3, h4]
theorem run_eql_con (a b c d : Int) (W : World) : (binOp .eql 42 (.agg #[.int .u64 a, .int .i64 b]) (.agg #[.int .u64 c, .int .i64 d])).run Tryz.prog W = .ok (.bool (decide (a = c) && decide (b = d))) W := by
  rw [run_eql_struct, run_equalIn_agg W 9999 42 _ _ (by kernel_rfl) (by kernel_rfl)]
  simp [go_sem, Op.eqFields]
  by_cases h1 : a = c <;> by_cases h2 : b = d <;> simp [h1, h2]
theorem run_neq_con (a b c d : Int) (W : World) : (binOp .neq 42 (.agg #[.int .u64 a, .int .i64 b]) (.agg #[.int .u64 c, .int .i64 d])).run Tryz.prog W = .ok (.bool (!(decide (a = c) && decide (b = d)))) W := by
  rw [run_neq_struct, run_equalIn_agg W 9999 42 _ _ (by kernel_rfl) (by kernel_rfl)]
  simp [go_sem, Op.eqFields]
  by_cases h1 : a = c <;> by_cases h2 : b = d <;> simp [h1, h2]

set_option maxRecDepth 100000 in
set_option maxHeartbeats 4000000 in
theorem unchanged_any (f : ByteArray → Option Rev) (x : Edt) (g : Nat) (dv dr ev rv : Value) (n : Int) (cl tx : ByteArray) (bl be bn : Nat) (w : World) (hk : Chk w g dv dr n cl tx ev rv bl be bn) (hL : LastMap w bl f) :
    Calls Tryz.prog 59 #[.pointer (some ⟨g, 0, none⟩), .agg #[.string x.path, .int .i64 x.act, .int .i64 x.ty.base, .bool x.ty.k, .bool x.ty.l, .bool x.ty.x, .int .u64 x.sum, .int .i64 x.size, .int .i64 x.base, .string x.frm, .int .i64 x.fnum, .int .i64 x.fence]] w
      fun e w' => e = .returned (.bool (unchanged f x)) ∧ Below w.heap.size w w' := by
  obtain ⟨W, hW⟩ : ∃ W, W = w.alloc (.cells #[.string x.path, .int .i64 x.act, .int .i64 x.ty.base, .bool x.ty.k, .bool x.ty.l, .bool x.ty.x, .int .u64 x.sum, .int .i64 x.size, .int .i64 x.base, .string x.frm, .int .i64 x.fnum, .int .i64 x.fence] 54) := ⟨_, rfl⟩
  have hbW : Below w.heap.size w W := by rw [hW]; exact (Below.refl _ _).alloc (Nat.le_refl _) _
  have hX : Blk W w.heap.size 54 [.string x.path, .int .i64 x.act, .int .i64 x.ty.base, .bool x.ty.k, .bool x.ty.l, .bool x.ty.x, .int .u64 x.sum, .int .i64 x.size, .int .i64 x.base, .string x.frm, .int .i64 x.fnum, .int .i64 x.fence] := by rw [hW]; exact blk_new w _ _
  have hK : Chk W g dv dr n cl tx ev rv bl be bn := Blk.below hk hbW (Blk.lt hk)
  have hlk : ∀ w', Below W.heap.size W w' → _ := fun w' hb => LastMap.look (w := w') (FMap.below (FMap.below hL hbW) hb) x.path
  obtain ⟨-, -, -, -, -, k7, -, -⟩ := box10 hK
  have hsz := hX.lt
  have HW := Lib.hid hW
  have HU : Hid (unchanged f x = (decide (x.act = 2) && decide (x.ty = (lastR f x.path).ty) && (decide (x.sum = (lastR f x.path).sum) && decide (x.size = (lastR f x.path).size)))) := Lib.hid (by unfold unchanged; rw [Bool.and_assoc (_ && _)])
  clear hW hK
  generalize lastR f x.path = r at hlk HU
  have hty := run_eql_ty x.ty r.ty
  have hcn := run_eql_con x.sum x.size r.sum r.size
  generalize (decide (x.sum = r.sum) && decide (x.size = r.size)) = bc at hcn HU
  generalize decide (x.ty = r.ty) = bt at hty HU
  obtain ⟨c0, c1, c2, c3, c4, c5, c6, c7, c8, c9, c10, c11⟩ := box12 hX
  have HC : Hid (∀ w', Below W.heap.size W w' → w'.cell? ⟨g, 7, none⟩ = some (.map (some bl)) ∧ w'.cell? ⟨w.heap.size, 0, none⟩ = some (.string x.path)) := Lib.hid fun w' hb => ⟨cell_below k7 hb (cell_lt k7), cell_below c0 hb (cell_lt c0)⟩
  have fin : ∀ b, (x.act == 2) = b → Calls Tryz.prog 59 #[.pointer (some ⟨g, 0, none⟩), .agg #[.string x.path, .int .i64 x.act, .int .i64 x.ty.base, .bool x.ty.k, .bool x.ty.l, .bool x.ty.x, .int .u64 x.sum, .int .i64 x.size, .int .i64 x.base, .string x.frm, .int .i64 x.fnum, .int .i64 x.fence]] w
      fun e w' => e = .returned (.bool (b && bt && bc)) ∧ Below w.heap.size w w' := by
    intro b hb
    cases b <;> cases bt
    all_goals
      go_enter Tryz.func59, Tryz.ntmps59
      go_wp2_with fail
      rw [← HW.out]
      go_region_held3 (fun w' => Below W.heap.size W w' ∧ w'.cell? ⟨g, 7, none⟩ = some (.map (some bl)) ∧ w'.cell? ⟨w.heap.size, 0, none⟩ = some (.string x.path))
        ((refine and_of ?_ (HC.out _); first | exact (Below.refl _ _).drew | assumption | exact ((Below.refl _ _).alloc (Nat.le_refl _) _).drew)) (fail)
      all_goals
        have hX2 : Blk (W.alloc (.cells #[.string r.path, .int .i64 r.num, .int .i64 r.chg, .int .i64 r.act, .int .i64 r.ty.base, .bool r.ty.k, .bool r.ty.l, .bool r.ty.x, .int .u64 r.sum, .int .i64 r.size, .string r.frm, .int .i64 r.fnum] 74)).drew w.heap.size 54 [.string x.path, .int .i64 x.act, .int .i64 x.ty.base, .bool x.ty.k, .bool x.ty.l, .bool x.ty.x, .int .u64 x.sum, .int .i64 x.size, .int .i64 x.base, .string x.frm, .int .i64 x.fnum, .int .i64 x.fence] := hX.alloc _
        have hR2 : Blk (W.alloc (.cells #[.string r.path, .int .i64 r.num, .int .i64 r.chg, .int .i64 r.act, .int .i64 r.ty.base, .bool r.ty.k, .bool r.ty.l, .bool r.ty.x, .int .u64 r.sum, .int .i64 r.size, .string r.frm, .int .i64 r.fnum] 74)).drew W.heap.size 74 [.string r.path, .int .i64 r.num, .int .i64 r.chg, .int .i64 r.act, .int .i64 r.ty.base, .bool r.ty.k, .bool r.ty.l, .bool r.ty.x, .int .u64 r.sum, .int .i64 r.size, .string r.frm, .int .i64 r.fnum] := blk_new W _ _
        have hB2 : Below w.heap.size w (W.alloc (.cells #[.string r.path, .int .i64 r.num, .int .i64 r.chg, .int .i64 r.act, .int .i64 r.ty.base, .bool r.ty.k, .bool r.ty.l, .bool r.ty.x, .int .u64 r.sum, .int .i64 r.size, .string r.frm, .int .i64 r.fnum] 74)).drew := (hbW.alloc hbW.size _).drew
        clear hlk c0 c1 c2 c3 c4 c5 c6 c7 c8 c9 c10 c11 k7
        generalize (W.alloc (.cells #[.string r.path, .int .i64 r.num, .int .i64 r.chg, .int .i64 r.act, .int .i64 r.ty.base, .bool r.ty.k, .bool r.ty.l, .bool r.ty.x, .int .u64 r.sum, .int .i64 r.size, .string r.frm, .int .i64 r.fnum] 74)).drew = W2 at hB2 hX2 hR2 ⊢
        obtain ⟨c0, c1, c2, c3, c4, c5, c6, c7, c8, c9, c10, c11⟩ := box12 hX2
        obtain ⟨d0, d1, d2, d3, d4, d5, d6, d7, d8, d9, d10, d11⟩ := box12 hR2
        go_wp2_with fail
        go_ret
        exact ⟨rfl, hB2⟩
  have := fin _ rfl
  rw [HU.out]
  rwa [show (x.act == 2) = decide (x.act = 2) by rw [Bool.eq_iff_iff]; simp] at this

set_option maxRecDepth 100000 in
set_option maxHeartbeats 4000000 in
theorem revision_any (f : ByteArray → Option Rev) (x : Edt) (g : Nat) (dv dr ev rv : Value) (n : Int) (cl tx : ByteArray) (bl be bn : Nat) (w : World) (hk : Chk w g dv dr n cl tx ev rv bl be bn) (hL : LastMap w bl f)
    (h1 : 0 ≤ (lastR f x.path).num) (h2 : (lastR f x.path).num ≤ 1000000) :
    Calls Tryz.prog 17 #[.pointer (some ⟨g, 0, none⟩), .agg #[.string x.path, .int .i64 x.act, .int .i64 x.ty.base, .bool x.ty.k, .bool x.ty.l, .bool x.ty.x, .int .u64 x.sum, .int .i64 x.size, .int .i64 x.base, .string x.frm, .int .i64 x.fnum, .int .i64 x.fence]] w
      fun e w' => e = .returned (.agg #[.string (madeR f n x).path, .int .i64 (madeR f n x).num, .int .i64 (madeR f n x).chg, .int .i64 (madeR f n x).act, .int .i64 (madeR f n x).ty.base, .bool (madeR f n x).ty.k, .bool (madeR f n x).ty.l, .bool (madeR f n x).ty.x, .int .u64 (madeR f n x).sum, .int .i64 (madeR f n x).size, .string (madeR f n x).frm, .int .i64 (madeR f n x).fnum]) ∧ Below w.heap.size w w' := by
  obtain ⟨W, hW⟩ : ∃ W, W = (w.alloc (.cells #[.string x.path, .int .i64 x.act, .int .i64 x.ty.base, .bool x.ty.k, .bool x.ty.l, .bool x.ty.x, .int .u64 x.sum, .int .i64 x.size, .int .i64 x.base, .string x.frm, .int .i64 x.fnum, .int .i64 x.fence] 54)).alloc (.cells #[.string ⟨#[]⟩, .int .i64 0, .int .i64 0, .int .i64 0, .int .i64 0, .bool false, .bool false, .bool false, .int .u64 0, .int .i64 0, .string ⟨#[]⟩, .int .i64 0] 74) := ⟨_, rfl⟩
  have hbW : Below w.heap.size w W := by rw [hW]; exact ((Below.refl _ _).alloc (Nat.le_refl _) _).alloc (by simp) _
  have hX : Blk W w.heap.size 54 [.string x.path, .int .i64 x.act, .int .i64 x.ty.base, .bool x.ty.k, .bool x.ty.l, .bool x.ty.x, .int .u64 x.sum, .int .i64 x.size, .int .i64 x.base, .string x.frm, .int .i64 x.fnum, .int .i64 x.fence] := by rw [hW]; exact (blk_new w _ _).alloc _
  have hZ : Blk W (w.heap.size + 1) 74 [.string ⟨#[]⟩, .int .i64 0, .int .i64 0, .int .i64 0, .int .i64 0, .bool false, .bool false, .bool false, .int .u64 0, .int .i64 0, .string ⟨#[]⟩, .int .i64 0] := by
    rw [hW]
    have := blk_new (w.alloc (.cells #[.string x.path, .int .i64 x.act, .int .i64 x.ty.base, .bool x.ty.k, .bool x.ty.l, .bool x.ty.x, .int .u64 x.sum, .int .i64 x.size, .int .i64 x.base, .string x.frm, .int .i64 x.fnum, .int .i64 x.fence] 54)) [.string ⟨#[]⟩, .int .i64 0, .int .i64 0, .int .i64 0, .int .i64 0, .bool false, .bool false, .bool false, .int .u64 0, .int .i64 0, .string ⟨#[]⟩, .int .i64 0] 74
    simpa using this
  have hK : Chk W g dv dr n cl tx ev rv bl be bn := Blk.below hk hbW (Blk.lt hk)
  have hlk := LastMap.look (w := W.drew) (FMap.below hL hbW.drew) x.path
  obtain ⟨-, -, k2, -, -, k7, -, -⟩ := box10 hK
  have HW := Lib.hid hW
  have HM : Hid (madeR f n x = ⟨x.path, (lastR f x.path).num + 1, n, x.act, x.ty, x.sum, x.size, x.frm, x.fnum⟩) := Lib.hid rfl
  clear hW hK
  generalize lastR f x.path = r at hlk HM h1 h2
  generalize madeR f n x = m at HM ⊢
  obtain ⟨c0, c1, c2, c3, c4, c5, c6, c7, c8, c9, c10, c11⟩ := box12 hX
  go_enter Tryz.func17, Tryz.ntmps17
  go_wp2_with fail
  rw [← HW.out]
  have hwr : IntKind.i64.wrap (r.num + 1) = r.num + 1 := IntWalk.i64_in _ (by omega)
  have hfl : ∀ w, (Instr.field 74 (.agg #[.string r.path, .int .i64 r.num, .int .i64 r.chg, .int .i64 r.act, .int .i64 r.ty.base, .bool r.ty.k, .bool r.ty.l, .bool r.ty.x, .int .u64 r.sum, .int .i64 r.size, .string r.frm, .int .i64 r.fnum]) 1).run Tryz.prog w = .ok (.int .i64 r.num) w := fun w => by kernel_rfl
  go_still_tail 27, (by kernel_rfl)
  change wpList _ _ _ _ _ W.drew
  clear hwr hfl hlk c0 c1 c2 c3 c4 c5 c6 c7 c8 c9 c10 c11 k2 k7
  have hB2 : Below w.heap.size w W.drew := hbW.drew
  have hZ2 : Blk W.drew (w.heap.size + 1) 74 [.string ⟨#[]⟩, .int .i64 0, .int .i64 0, .int .i64 0, .int .i64 0, .bool false, .bool false, .bool false, .int .u64 0, .int .i64 0, .string ⟨#[]⟩, .int .i64 0] := hZ
  generalize W.drew = W2 at hB2 hZ2 ⊢
  obtain ⟨z0, z1, z2, z3, z4, z5, z6, z7, z8, z9, z10, z11⟩ := box12 hZ2
  obtain ⟨y0, y1, y2, y3, y4, y5, y6, y7, y8, y9, y10, y11⟩ := frz12 hZ2
  go_wp2_with fail
  have hZ3 := set12 hZ2 ⟨x.path, r.num + 1, n, x.act, x.ty, x.sum, x.size, x.frm, x.fnum⟩
  have hB3 := below12 hB2 (show w.heap.size ≤ w.heap.size + 1 by omega) ⟨x.path, r.num + 1, n, x.act, x.ty, x.sum, x.size, x.frm, x.fnum⟩
  rw [← HM.out] at hZ3 hB3
  have e : ((((((((((((W2.setCell ⟨w.heap.size + 1, 0, none⟩ (.string m.path)).setCell ⟨w.heap.size + 1, 1, none⟩ (.int .i64 m.num)).setCell ⟨w.heap.size + 1, 2, none⟩ (.int .i64 m.chg)).setCell ⟨w.heap.size + 1, 3, none⟩ (.int .i64 m.act)).setCell ⟨w.heap.size + 1, 4, none⟩ (.int .i64 m.ty.base)).setCell ⟨w.heap.size + 1, 5, none⟩ (.bool m.ty.k)).setCell ⟨w.heap.size + 1, 6, none⟩ (.bool m.ty.l)).setCell ⟨w.heap.size + 1, 7, none⟩ (.bool m.ty.x)).setCell ⟨w.heap.size + 1, 8, none⟩ (.int .u64 m.sum)).setCell ⟨w.heap.size + 1, 9, none⟩ (.int .i64 m.size)).setCell ⟨w.heap.size + 1, 10, none⟩ (.string m.frm)).setCell ⟨w.heap.size + 1, 11, none⟩ (.int .i64 m.fnum)) = ((((((((((((W2.setCell ⟨w.heap.size + 1, 0, none⟩ (.string ((⟨x.path, r.num + 1, n, x.act, x.ty, x.sum, x.size, x.frm, x.fnum⟩ : Rev)).path)).setCell ⟨w.heap.size + 1, 1, none⟩ (.int .i64 ((⟨x.path, r.num + 1, n, x.act, x.ty, x.sum, x.size, x.frm, x.fnum⟩ : Rev)).num)).setCell ⟨w.heap.size + 1, 2, none⟩ (.int .i64 ((⟨x.path, r.num + 1, n, x.act, x.ty, x.sum, x.size, x.frm, x.fnum⟩ : Rev)).chg)).setCell ⟨w.heap.size + 1, 3, none⟩ (.int .i64 ((⟨x.path, r.num + 1, n, x.act, x.ty, x.sum, x.size, x.frm, x.fnum⟩ : Rev)).act)).setCell ⟨w.heap.size + 1, 4, none⟩ (.int .i64 ((⟨x.path, r.num + 1, n, x.act, x.ty, x.sum, x.size, x.frm, x.fnum⟩ : Rev)).ty.base)).setCell ⟨w.heap.size + 1, 5, none⟩ (.bool ((⟨x.path, r.num + 1, n, x.act, x.ty, x.sum, x.size, x.frm, x.fnum⟩ : Rev)).ty.k)).setCell ⟨w.heap.size + 1, 6, none⟩ (.bool ((⟨x.path, r.num + 1, n, x.act, x.ty, x.sum, x.size, x.frm, x.fnum⟩ : Rev)).ty.l)).setCell ⟨w.heap.size + 1, 7, none⟩ (.bool ((⟨x.path, r.num + 1, n, x.act, x.ty, x.sum, x.size, x.frm, x.fnum⟩ : Rev)).ty.x)).setCell ⟨w.heap.size + 1, 8, none⟩ (.int .u64 ((⟨x.path, r.num + 1, n, x.act, x.ty, x.sum, x.size, x.frm, x.fnum⟩ : Rev)).sum)).setCell ⟨w.heap.size + 1, 9, none⟩ (.int .i64 ((⟨x.path, r.num + 1, n, x.act, x.ty, x.sum, x.size, x.frm, x.fnum⟩ : Rev)).size)).setCell ⟨w.heap.size + 1, 10, none⟩ (.string ((⟨x.path, r.num + 1, n, x.act, x.ty, x.sum, x.size, x.frm, x.fnum⟩ : Rev)).frm)).setCell ⟨w.heap.size + 1, 11, none⟩ (.int .i64 ((⟨x.path, r.num + 1, n, x.act, x.ty, x.sum, x.size, x.frm, x.fnum⟩ : Rev)).fnum)) := by rw [HM.out]
  dsimp only at e
  rw [← e]
  generalize ((((((((((((W2.setCell ⟨w.heap.size + 1, 0, none⟩ (.string m.path)).setCell ⟨w.heap.size + 1, 1, none⟩ (.int .i64 m.num)).setCell ⟨w.heap.size + 1, 2, none⟩ (.int .i64 m.chg)).setCell ⟨w.heap.size + 1, 3, none⟩ (.int .i64 m.act)).setCell ⟨w.heap.size + 1, 4, none⟩ (.int .i64 m.ty.base)).setCell ⟨w.heap.size + 1, 5, none⟩ (.bool m.ty.k)).setCell ⟨w.heap.size + 1, 6, none⟩ (.bool m.ty.l)).setCell ⟨w.heap.size + 1, 7, none⟩ (.bool m.ty.x)).setCell ⟨w.heap.size + 1, 8, none⟩ (.int .u64 m.sum)).setCell ⟨w.heap.size + 1, 9, none⟩ (.int .i64 m.size)).setCell ⟨w.heap.size + 1, 10, none⟩ (.string m.frm)).setCell ⟨w.heap.size + 1, 11, none⟩ (.int .i64 m.fnum)) = W3 at hZ3 hB3 ⊢
  obtain ⟨e0, e1, e2, e3, e4, e5, e6, e7, e8, e9, e10, e11⟩ := box12 hZ3
  refine bodyPost_ret (v := .agg #[.string m.path, .int .i64 m.num, .int .i64 m.chg, .int .i64 m.act, .int .i64 m.ty.base, .bool m.ty.k, .bool m.ty.l, .bool m.ty.x, .int .u64 m.sum, .int .i64 m.size, .string m.frm, .int .i64 m.fnum]) (by simp [results, Tryz.results17, go_sem, e0, e1, e2, e3, e4, e5, e6, e7, e8, e9, e10, e11]) rfl ⟨rfl, hB3⟩

set_option maxRecDepth 100000 in
set_option maxHeartbeats 4000000 in
theorem room_any (d : Dep) (c : Chg) (g : Nat) (dv dr ev rv : Value) (bl be bn : Nat) (w : World) (hk : Chk w g dv dr c.num c.client c.text ev rv bl be bn) (hR : Revs w dv d.revs) (hQ : Rcds w dr d.recs) (hE : Edts w ev c.edits) (hC : Rcds w rv c.recs)
    (b1 : d.revs.length ≤ 1000000) (b2 : d.recs.length ≤ 1000000) (b3 : c.edits.length ≤ 1000000) (b4 : c.recs.length ≤ 1000000) :
    Calls Tryz.prog 36 #[.pointer (some ⟨g, 0, none⟩)] w fun e w' => e = .returned (.int .i64 (roomE d c)) ∧ Below w.heap.size w w' := by
  obtain ⟨Ar, cr, rfl, hcr, hmr, -⟩ := id hR
  obtain ⟨Aq, cq, rfl, hcq, hmq, -⟩ := id hQ
  obtain ⟨Ae, ce, rfl, hce, hme, -⟩ := id hE
  obtain ⟨Ac, cc, rfl, hcc, hmc, -⟩ := id hC
  obtain ⟨k0, k1, -, k5, k6, -, -, -⟩ := box10 hk
  clear hR hE hC hk hQ
  by_cases h1 : 512 < d.revs.length + c.edits.length
  · have H : Hid (roomE d c = 110) := Lib.hid (by unfold roomE; rw [if_pos (.inl h1)])
    have q1 : decide (512 < (d.revs.length : Int) + (c.edits.length : Int)) = true := by simp; omega
    have q1' : (512 : Int) < (d.revs.length : Int) + (c.edits.length : Int) := by omega
    go_enter Tryz.func36, Tryz.ntmps36
    go_wp2_with fail
    have w1 : IntKind.i64.wrap ((d.revs.length : Int) + (c.edits.length : Int)) = (d.revs.length : Int) + (c.edits.length : Int) := IntWalk.i64_in _ (by omega)
    go_quiet (fail)
    clear w1
    go_wp2_with fail
    go_ret
    exact ⟨ret_int H.out.symm, below_drewN (Below.refl _ _) _⟩
  · have q1 : decide (512 < (d.revs.length : Int) + (c.edits.length : Int)) = false := by simp; omega
    have q1' : ¬ (512 : Int) < (d.revs.length : Int) + (c.edits.length : Int) := by omega
    by_cases h2 : 512 < d.recs.length + c.recs.length
    · have H : Hid (roomE d c = 110) := Lib.hid (by unfold roomE; rw [if_pos (.inr h2)])
      have q2 : decide (512 < (d.recs.length : Int) + (c.recs.length : Int)) = true := by simp; omega
      have q2' : (512 : Int) < (d.recs.length : Int) + (c.recs.length : Int) := by omega
      go_enter Tryz.func36, Tryz.ntmps36
      go_wp2_with fail
      have w1 : IntKind.i64.wrap ((d.revs.length : Int) + (c.edits.length : Int)) = (d.revs.length : Int) + (c.edits.length : Int) := IntWalk.i64_in _ (by omega)
      have w2 : IntKind.i64.wrap ((d.recs.length : Int) + (c.recs.length : Int)) = (d.recs.length : Int) + (c.recs.length : Int) := IntWalk.i64_in _ (by omega)
      go_quiet (fail)
      clear w1 w2
      go_wp2_with fail
      go_ret
      exact ⟨ret_int H.out.symm, below_drewN (Below.refl _ _) _⟩
    · have H : Hid (roomE d c = 0) := Lib.hid (by unfold roomE; rw [if_neg (by omega)])
      have q2 : decide (512 < (d.recs.length : Int) + (c.recs.length : Int)) = false := by simp; omega
      have q2' : ¬ (512 : Int) < (d.recs.length : Int) + (c.recs.length : Int) := by omega
      go_enter Tryz.func36, Tryz.ntmps36
      go_wp2_with fail
      have w1 : IntKind.i64.wrap ((d.revs.length : Int) + (c.edits.length : Int)) = (d.revs.length : Int) + (c.edits.length : Int) := IntWalk.i64_in _ (by omega)
      have w2 : IntKind.i64.wrap ((d.recs.length : Int) + (c.recs.length : Int)) = (d.recs.length : Int) + (c.recs.length : Int) := IntWalk.i64_in _ (by omega)
      go_quiet (fail)
      clear w1 w2
      go_wp2_with fail
      go_ret
      exact ⟨ret_int H.out.symm, below_drewN (Below.refl _ _) _⟩
end Go.Proofs.YteolonjmgojoeaaGreatDoor
