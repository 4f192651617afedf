/- Region 13 of history.Append: one more revision. -/
import Derived.Test.YteolonjmgojoeaaGreatDoorMgw4
namespace Go.Proofs.YteolonjmgojoeaaGreatDoor
open Go.RowKit
set_option linter.unusedVariables false
set_option linter.unusedSimpArgs false

set_option maxRecDepth 100000 in
set_option maxHeartbeats 8000000 in
theorem region13 (ops : Array Oper) (hops : Tryz.f8.body.bind (regAt 13) = some ops) (Q : Exit → Act → World → Prop) (g g10 ge n m : Nat) (x : Edt) (r : Rev) (v1 v2 : Value) (xs ys : List Value) (V V1 : World)
    (hR : ApR V V1 g10 v1 v2 n m xs ys) (hB : Blk V1 ge 54 [.string x.path, .int .i64 x.act, .int .i64 x.ty.base, .bool x.ty.k, .bool x.ty.l, .bool x.ty.x, .int .u64 x.sum, .int .i64 x.size, .int .i64 x.base, .string x.frm, .int .i64 x.fnum, .int .i64 x.fence]) (hge : V.heap.size ≤ ge) (hne : v1.ownBlock ≠ some ge) (hn : n ≤ 100000)
    (hrev : ∀ X, Below V1.heap.size V1 X → Calls Tryz.prog 17 #[.pointer (some ⟨g, 0, none⟩), .agg #[.string x.path, .int .i64 x.act, .int .i64 x.ty.base, .bool x.ty.k, .bool x.ty.l, .bool x.ty.x, .int .u64 x.sum, .int .i64 x.size, .int .i64 x.base, .string x.frm, .int .i64 x.fnum, .int .i64 x.fence]] X fun e w' => e = .returned (.agg #[.string r.path, .int .i64 r.num, .int .i64 r.chg, .int .i64 r.act, .int .i64 r.ty.base, .bool r.ty.k, .bool r.ty.l, .bool r.ty.x, .int .u64 r.sum, .int .i64 r.size, .string r.frm, .int .i64 r.fnum]) ∧ Below X.heap.size X w')
    (u0 u1 u2 u3 u4 u5 u7 u8 u9 u11 u13 u14 u15 u16 u17 u18 u19 u20 u21 u22 u23 u24 u25 u26 u27 u28 u29 u30 u31 u32 u33 u34 u35 u36 u37 u38 u39 u40 u41 u42 u43 u44 u45 u46 u47 u48 u49 u50 u51 u52 u53 u54 u55 u56 u57 u58 u59 : Value)
    (hQ : ∀ (t47 t48 t49 t50 t51 t52 t53 t54 : Value) (v3 : Value) (w' : World), Hid (ApR V w' g10 v3 v2 (n + 1) m (xs ++ [.string r.path, .int .i64 r.num, .int .i64 r.chg, .int .i64 r.act, .int .i64 r.ty.base, .bool r.ty.k, .bool r.ty.l, .bool r.ty.x, .int .u64 r.sum, .int .i64 r.size, .string r.frm, .int .i64 r.fnum]) ys) → Q .normal ⟨#[u0, u1, u2, u3, u4, u5, .pointer (some ⟨g, 0, none⟩), u7, u8, u9, .pointer (some ⟨g10, 0, none⟩), u11, .pointer (some ⟨ge, 0, none⟩), u13, u14, u15, u16, u17, u18, u19, u20, u21, u22, u23, u24, u25, u26, u27, u28, u29, u30, u31, u32, u33, u34, u35, u36, u37, u38, u39, u40, u41, u42, u43, u44, u45, u46, t47, t48, t49, t50, t51, t52, t53, t54, u55, u56, u57, u58, u59], []⟩ w') :
    (Code.region 13 ops true).wp Tryz.prog Q ⟨#[u0, u1, u2, u3, u4, u5, .pointer (some ⟨g, 0, none⟩), u7, u8, u9, .pointer (some ⟨g10, 0, none⟩), u11, .pointer (some ⟨ge, 0, none⟩), u13, u14, u15, u16, u17, u18, u19, u20, u21, u22, u23, u24, u25, u26, u27, u28, u29, u30, u31, u32, u33, u34, u35, u36, u37, u38, u39, u40, u41, u42, u43, u44, u45, u46, u47, u48, u49, u50, u51, u52, u53, u54, u55, u56, u57, u58, u59], []⟩ V1 := by
  simp only [Tryz.f8, Option.bind_some, regAt] at hops
  simp at hops
  subst hops
  obtain ⟨A1, c1, hv1⟩ := own_slice hR.one
  subst hv1
  have HQ := Lib.hid hQ
  have HR := Lib.hid hR
  have HB := Lib.hid hB
  have HRV2 := Lib.hid hrev
  clear hQ hR hB hrev
  have f0 : V1.cell? ⟨g10, 0, none⟩ = some (.slice A1 n c1) := HR.out.box.cell 0
  obtain ⟨c0, c1', c2, c3, c4, c5, c6, c7, c8, c9, c10, c11⟩ := box12 HB.out
  refine wp_region_noPanic ?_
  go_region_law (first
    | (refine step_app rfl rfl revElem (own_below (own_below HR.out.one hS5) ((Below.refl _ _).alloc (Nat.le_refl _) _)) (by simp [Act.eval, Act.put]) (row_new w5 [.string r.path, .int .i64 r.num, .int .i64 r.chg, .int .i64 r.act, .int .i64 r.ty.base, .bool r.ty.k, .bool r.ty.l, .bool r.ty.x, .int .u64 r.sum, .int .i64 r.size, .string r.frm, .int .i64 r.fnum] _ 12 1 rfl (by decide) _ rfl) (by simp [Act.eval, Act.put]) (by simp [Value.oneCell']) (by omega) (by unfold maxLen; omega) (by have := hS5.size; have := HR.out.bel.size; simp; omega) ?_; intro A6 c6' w6 hO6 hG6 hw6; have hbx := (HR.out.box.below (below_next hS5 ((Below.refl _ _).alloc (Nat.le_refl _) _)) HR.out.box.lt).grown hG6 (fun e => HR.out.ne1 e.symm); obtain ⟨b0, b1, g0, g1⟩ := box2 hbx)
    | (go_simp; go_at_call 17; refine (HRV2.out _ (Below.refl _ _).drew).mono ?_; rintro e w5 ⟨rfl, hX5⟩; have hS5 : Below V1.heap.size V1 w5 := (Below.refl _ _).drew.trans hX5; have f5 : w5.cell? ⟨g10, 0, none⟩ = some (.slice A1 n c1) := (HR.out.box.below hS5 HR.out.box.lt).cell 0; have f6 : (w5.alloc (.cells #[.string r.path, .int .i64 r.num, .int .i64 r.chg, .int .i64 r.act, .int .i64 r.ty.base, .bool r.ty.k, .bool r.ty.l, .bool r.ty.x, .int .u64 r.sum, .int .i64 r.size, .string r.frm, .int .i64 r.fnum] 74)).cell? ⟨g10, 0, none⟩ = some (.slice A1 n c1) := (HR.out.box.below (hS5.alloc hS5.size _) HR.out.box.lt).cell 0))
  all_goals exact NoPanic.normal (HQ.out _ _ _ _ _ _ _ _ _ _ (HR.out.push (below_next hS5 ((Below.refl _ _).alloc (Nat.le_refl _) _)) hO6 hG6 hw6))
end Go.Proofs.YteolonjmgojoeaaGreatDoor
