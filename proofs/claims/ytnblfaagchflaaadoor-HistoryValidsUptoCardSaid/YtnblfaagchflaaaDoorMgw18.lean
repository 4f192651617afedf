/- slices.Equal at revisions and at records. -/
import Derived.Test.YtnblfaagchflaaaDoorMzEdO
namespace Go.Proofs.YtnblfaagchflaaaDoor
open Go.RowKit
set_option linter.unusedVariables false
set_option linter.unusedSimpArgs false

set_option maxHeartbeats 2000000 in
theorem run_neq_rev (x y : Rev) (W : World) : (binOp .neq 33 (.agg #[.string x.path, .int .i64 x.num, .int .i64 x.chg, .int .i64 x.act, .int .i64 x.ty.base, .bool x.ty.k, .bool x.ty.l, .bool x.ty.x, .int .u64 x.sum, .int .i64 x.size, .string x.frm, .int .i64 x.fnum]) (.agg #[.string y.path, .int .i64 y.num, .int .i64 y.chg, .int .i64 y.act, .int .i64 y.ty.base, .bool y.ty.k, .bool y.ty.l, .bool y.ty.x, .int .u64 y.sum, .int .i64 y.size, .string y.frm, .int .i64 y.fnum])).run Tryd.prog W = .ok (.bool (!decide (x = y))) W := by
  obtain ⟨x1, x2, x3, x4, ⟨x5, x6, x7, x8⟩, x9, x10, x11, x12⟩ := x
  obtain ⟨y1, y2, y3, y4, ⟨y5, y6, y7, y8⟩, y9, y10, y11, y12⟩ := y
  rw [run_neq_struct, run_equalIn_agg W 9999 33 _ _ (by kernel_rfl) (by kernel_rfl)]
  simp [go_sem, Op.eqFields, toList_inj]
  by_cases h1 : x1 = y1
  case neg => simp [h1]
  rw [if_pos h1]
  by_cases h2 : x2 = y2
  case neg => simp [h2]
  rw [if_pos h2]
  by_cases h3 : x3 = y3
  case neg => simp [h3]
  rw [if_pos h3]
  by_cases h4 : x4 = y4
  case neg => simp [h4]
  rw [if_pos h4]
  by_cases h5 : x5 = y5
  case neg => simp [h5]
  rw [if_pos h5]
  by_cases h6 : x6 = y6
  case neg => simp [h6]
  rw [if_pos h6]
  by_cases h7 : x7 = y7
  case neg => simp [h7]
  rw [if_pos h7]
  by_cases h8 : x8 = y8
  case neg => simp [h8]
  rw [if_pos h8]
  by_cases h9 : x9 = y9
  case neg => simp [h9]
  rw [if_pos h9]
  by_cases h10 : x10 = y10
  case neg => simp [h10]
  rw [if_pos h10]
  by_cases h11 : x11 = y11
  case neg => simp [h11]
  rw [if_pos h11]
  by_cases h12 : x12 = y12
  case neg => simp [h12]
  rw [if_pos h12]
  simp [h1, h2, h3, h4, h5, h6, h7, h8, h9, h10, h11, h12]
theorem run_neq_rcd (x y : Rcd) (W : World) : (binOp .neq 50 (.agg #[.string x.frm, .int .i64 x.first, .int .i64 x.last, .string x.to, .int .i64 x.num, .int .i64 x.how]) (.agg #[.string y.frm, .int .i64 y.first, .int .i64 y.last, .string y.to, .int .i64 y.num, .int .i64 y.how])).run Tryd.prog W = .ok (.bool (!decide (x = y))) W := by
  obtain ⟨x1, x2, x3, x4, x5, x6⟩ := x
  obtain ⟨y1, y2, y3, y4, y5, y6⟩ := y
  rw [run_neq_struct, run_equalIn_agg W 9999 50 _ _ (by kernel_rfl) (by kernel_rfl)]
  simp [go_sem, Op.eqFields, toList_inj]
  repeat' split
  all_goals simp_all
theorem take_eq_all {α : Type} {l m : List α} (h : l.length = m.length) {k : Nat} (hk : l.length ≤ k) (he : l.take k = m.take k) : l = m := by
  rwa [List.take_of_length_le hk, List.take_of_length_le (by omega)] at he
theorem take_eq_step {α : Type} {l m : List α} {k : Nat} (h1 : k < l.length) (h2 : k < m.length) (he : l.take k = m.take k) (hx : l[k] = m[k]) : l.take (k + 1) = m.take (k + 1) := by
  rw [List.take_succ_eq_append_getElem h1, List.take_succ_eq_append_getElem h2, he, hx]

set_option maxRecDepth 100000 in
set_option maxHeartbeats 4000000 in
theorem equal_rev (l m : List Rev) (v1 v2 : Value) (w : World) (h1 : Revs w v1 l) (h2 : Revs w v2 m) :
    Calls Tryd.prog 10 #[v1, v2] w fun e w' => e = .returned (.bool (decide (l = m))) ∧ Below w.heap.size w w' := by
  obtain ⟨A1, c1, rfl, hc1, hm1, -⟩ := id h1
  obtain ⟨A2, c2, rfl, hc2, hm2, -⟩ := id h2
  unfold maxLen at hm1 hm2
  have H1 := Lib.hid h1
  have H2 := Lib.hid h2
  clear h1 h2
  by_cases hl : l.length = m.length
  · have q : ((l.length : Int) != (m.length : Int)) = false := by rw [bne_eq_false_iff_eq]; omega
    have HL := Lib.hid hl
    go_enter Tryd.func10, Tryd.ntmps10
    clear hl
    go_wp2_with fail
    go_loopw [13] (fun s wr => ∃ k : Nat, s = .int .i64 k ∧ k ≤ l.length ∧ Hid (l.take k = m.take k ∧ Below w.heap.size w wr)) (fun s _ => l.length - (intOf s).toNat)
    case atStart => exact ⟨0, rfl, Nat.zero_le _, by simp, Below.refl _ _⟩
    case round =>
      obtain ⟨k, rfl, hk, HI⟩ := hrel
      by_cases hlt : k < l.length
      · have hlt2 : k < m.length := by have := HL.out; omega
        have hz1 : (k : Int) < (l.length : Int) := by omega
        have hz2 : (k : Int) < (m.length : Int) := by omega
        obtain ⟨a1, rfl, hb1, hx⟩ := Revs.at_ (H1.out.below HI.out.2) hlt
        obtain ⟨a2, rfl, hb2, hy⟩ := Revs.at_ (H2.out.below HI.out.2) hlt2
        have HST := Lib.hid (fun h => take_eq_step hlt hlt2 HI.out.1 h)
        have HNE : Hid (l[k] ≠ m[k] → l ≠ m) := Lib.hid fun h e => h (by subst e; rfl)
        generalize l[k] = x at hx HST HNE
        generalize m[k] = y at hy HST HNE
        obtain ⟨x0, x1, x2, x3, x4, x5, x6, x7, x8, x9, x10, x11⟩ := hx
        obtain ⟨y0, y1, y2, y3, y4, y5, y6, y7, y8, y9, y10, y11⟩ := hy
        have hne := run_neq_rev x y
        by_cases e : x = y
        · have hd : (!decide (x = y)) = false := by simp [e]
          rw [hd] at hne
          have HE := Lib.hid e
          clear hd e
          go_wp2_with fail
          go_quiet (fail)
          clear x0 x1 x2 x3 x4 x5 x6 x7 x8 x9 x10 x11 y0 y1 y2 y3 y4 y5 y6 y7 y8 y9 y10 y11 hne
          go_wp2_with fail
          go_roundw
          case rel => exact ⟨k + 1, by go_num, by omega, HST.out HE.out, below_dN HI.out.2 _⟩
          case measure => simp [intOf]; omega
        · have hd : (!decide (x = y)) = true := by simp [e]
          rw [hd] at hne
          have HE : Hid (decide (l = m) = false) := Lib.hid (by simp; exact HNE.out e)
          clear hd e
          go_wp2_with fail
          go_quiet (fail)
          clear x0 x1 x2 x3 x4 x5 x6 x7 x8 x9 x10 x11 y0 y1 y2 y3 y4 y5 y6 y7 y8 y9 y10 y11 hne
          go_wp2_with fail
          go_ret
          exact ⟨ret_bool HE.out.symm, below_dN HI.out.2 _⟩
      · have HE : Hid (decide (l = m) = true) := Lib.hid (by simp; exact take_eq_all HL.out (by omega) HI.out.1)
        go_wp2_with fail
        go_ret
        exact ⟨ret_bool HE.out.symm, HI.out.2⟩
  · have q : ((l.length : Int) != (m.length : Int)) = true := by rw [bne_iff_ne]; omega
    have HE : Hid (decide (l = m) = false) := Lib.hid (by simp; intro e; exact hl (by rw [e]))
    clear hl
    go_enter Tryd.func10, Tryd.ntmps10
    go_wp2_with fail
    go_ret
    exact ⟨ret_bool HE.out.symm, Below.refl _ _⟩

set_option maxRecDepth 100000 in
set_option maxHeartbeats 4000000 in
theorem equal_rcd (l m : List Rcd) (v1 v2 : Value) (w : World) (h1 : Rcds w v1 l) (h2 : Rcds w v2 m) :
    Calls Tryd.prog 11 #[v1, v2] w fun e w' => e = .returned (.bool (decide (l = m))) ∧ Below w.heap.size w w' := by
  obtain ⟨A1, c1, rfl, hc1, hm1, -⟩ := id h1
  obtain ⟨A2, c2, rfl, hc2, hm2, -⟩ := id h2
  unfold maxLen at hm1 hm2
  have H1 := Lib.hid h1
  have H2 := Lib.hid h2
  clear h1 h2
  by_cases hl : l.length = m.length
  · have q : ((l.length : Int) != (m.length : Int)) = false := by rw [bne_eq_false_iff_eq]; omega
    have HL := Lib.hid hl
    go_enter Tryd.func11, Tryd.ntmps11
    clear hl
    go_wp2_with fail
    go_loopw [13] (fun s wr => ∃ k : Nat, s = .int .i64 k ∧ k ≤ l.length ∧ Hid (l.take k = m.take k ∧ Below w.heap.size w wr)) (fun s _ => l.length - (intOf s).toNat)
    case atStart => exact ⟨0, rfl, Nat.zero_le _, by simp, Below.refl _ _⟩
    case round =>
      obtain ⟨k, rfl, hk, HI⟩ := hrel
      by_cases hlt : k < l.length
      · have hlt2 : k < m.length := by have := HL.out; omega
        have hz1 : (k : Int) < (l.length : Int) := by omega
        have hz2 : (k : Int) < (m.length : Int) := by omega
        obtain ⟨a1, rfl, hb1, hx⟩ := Rcds.at_ (H1.out.below HI.out.2) hlt
        obtain ⟨a2, rfl, hb2, hy⟩ := Rcds.at_ (H2.out.below HI.out.2) hlt2
        have HST := Lib.hid (fun h => take_eq_step hlt hlt2 HI.out.1 h)
        have HNE : Hid (l[k] ≠ m[k] → l ≠ m) := Lib.hid fun h e => h (by subst e; rfl)
        generalize l[k] = x at hx HST HNE
        generalize m[k] = y at hy HST HNE
        obtain ⟨x0, x1, x2, x3, x4, x5⟩ := hx
        obtain ⟨y0, y1, y2, y3, y4, y5⟩ := hy
        have hne := run_neq_rcd x y
        by_cases e : x = y
        · have hd : (!decide (x = y)) = false := by simp [e]
          rw [hd] at hne
          have HE := Lib.hid e
          clear hd e
          go_wp2_with fail
          go_quiet (fail)
          clear x0 x1 x2 x3 x4 x5 y0 y1 y2 y3 y4 y5 hne
          go_wp2_with fail
          go_roundw
          case rel => exact ⟨k + 1, by go_num, by omega, HST.out HE.out, below_dN HI.out.2 _⟩
          case measure => simp [intOf]; omega
        · have hd : (!decide (x = y)) = true := by simp [e]
          rw [hd] at hne
          have HE : Hid (decide (l = m) = false) := Lib.hid (by simp; exact HNE.out e)
          clear hd e
          go_wp2_with fail
          go_quiet (fail)
          clear x0 x1 x2 x3 x4 x5 y0 y1 y2 y3 y4 y5 hne
          go_wp2_with fail
          go_ret
          exact ⟨ret_bool HE.out.symm, below_dN HI.out.2 _⟩
      · have HE : Hid (decide (l = m) = true) := Lib.hid (by simp; exact take_eq_all HL.out (by omega) HI.out.1)
        go_wp2_with fail
        go_ret
        exact ⟨ret_bool HE.out.symm, HI.out.2⟩
  · have q : ((l.length : Int) != (m.length : Int)) = true := by rw [bne_iff_ne]; omega
    have HE : Hid (decide (l = m) = false) := Lib.hid (by simp; intro e; exact hl (by rw [e]))
    clear hl
    go_enter Tryd.func11, Tryd.ntmps11
    go_wp2_with fail
    go_ret
    exact ⟨ret_bool HE.out.symm, Below.refl _ _⟩
end Go.Proofs.YtnblfaagchflaaaDoor
/- Region 24 of history.Valid: one more edit of the change that is made anew. -/
namespace Go.Proofs.YtnblfaagchflaaaDoor
open Go.RowKit
set_option linter.unusedVariables false
set_option linter.unusedSimpArgs false

theorem edtElem : ElemOk Tryd.prog 40 39 12 96 := elemOk_of Tryd.underlying40 (z := zeroEdt.val) (by kernel_rfl) rfl (by decide)
/-- The change that Valid makes anew, in block gC, its edits a row of its own. -/
structure VE (V wx : World) (gC : Nat) (num : Int) (v1 : Value) (n : Nat) (xs : List Value) : Prop where
  bel : Below V.heap.size V wx
  le : V.heap.size ≤ gC
  box : Blk wx gC 42 [.int .i64 num, .string ⟨#[]⟩, .string ⟨#[]⟩, v1, .slice none 0 0]
  one : wx.ownsRow V.heap.size 39 12 v1 n xs
  ne1 : v1.ownBlock ≠ some gC
theorem VE.under {V wr X : World} {gC : Nat} {num : Int} {v1 : Value} {n : Nat} {xs : List Value} (h : VE V wr gC num v1 n xs) (hX : Below wr.heap.size wr X) : VE V X gC num v1 n xs :=
  ⟨below_next h.bel hX, h.le, h.box.below hX h.box.lt, own_below h.one hX, h.ne1⟩
theorem VE.push {V wr X w5 : World} {gC : Nat} {num : Int} {v1 v3 : Value} {n n' : Nat} {xs xs' : List Value} (h : VE V wr gC num v1 n xs) (hX : Below wr.heap.size wr X) (ho : w5.ownsRow V.heap.size 39 12 v3 n' xs') (hg : X.grownBy w5 v1.ownBlock) (hw : v3.ownBlock = v1.ownBlock ∨ v3.ownBlock = some X.heap.size) :
    VE V (w5.setCell ⟨gC, 3, none⟩ v3) gC num v3 n' xs' := by
  have l1 := h.one.lt
  have lb := h.box.lt
  have hs := hX.size
  have n3 : v3.ownBlock ≠ some gC := fun e => by
    rcases hw with hw | hw
    · exact h.ne1 (hw ▸ e)
    · rw [hw] at e; injection e with e; omega
  have b5 : Below V.heap.size V w5 := (below_next h.bel hX).grown hg (by have := h.bel.size; omega) (fun k e => (l1 k e).1)
  exact ⟨b5.setCell (p := ⟨gC, 3, none⟩) h.le _, h.le, ((h.box.below hX lb).grown hg (fun e => h.ne1 e.symm)).set_ 3 v3, own_setCell ho (p := ⟨gC, 3, none⟩) n3 _, n3⟩
theorem box5f {w : World} {g : Nat} {e : TypeId} {a b c d x : Value} (h : Blk w g e [a, b, c, d, x]) : w.cell? ⟨g, 3, none⟩ = some d ∧ w.frozen? ⟨g, 3, none⟩ = false := ⟨h.cell 3, h.frozen 3⟩

set_option maxRecDepth 100000 in
set_option maxHeartbeats 8000000 in
theorem region24 (ops : Array Oper) (hops : Tryd.f5.body.bind (regAt 24) = some ops) (Q : Exit → Act → World → Prop) (gD gC n k : Nat) (num : Int) (x : Edt) (v1 dv dr : Value) (xs : List Value) (V V1 : World)
    (hR : VE V V1 gC num v1 n xs) (hB : Blk V1 gD 25 [dv, dr]) (hsl : (∃ A m c, dv = .slice A m c) ∧ ∃ A m c, dr = .slice A m c) (hn : n ≤ 100000)
    (hrev : ∀ X, Below V1.heap.size V1 X → Calls Tryd.prog 9 #[.agg #[dv, dr], .int .i64 k] X fun e w' => e = .returned (.agg #[.string x.path, .int .i64 x.act, .int .i64 x.ty.base, .bool x.ty.k, .bool x.ty.l, .bool x.ty.x, .int .u64 x.sum, .int .i64 x.size, .int .i64 x.base, .string x.frm, .int .i64 x.fnum, .int .i64 x.fence]) ∧ Below X.heap.size X w')
    (u0 u2 u3 u4 u5 u6 u7 u8 u9 u10 u11 u14 u15 u16 u17 u18 u19 u20 u21 u22 u23 u24 u25 u26 u27 u28 u29 u30 u31 u32 u33 u34 u35 u36 u37 u38 u39 u40 u41 u42 u43 u44 u45 u46 u47 u48 u49 u50 u51 u52 u53 u54 u55 u56 u57 u58 u59 u60 u61 u62 u63 u64 u65 u66 u67 u68 u69 u70 u71 u72 u73 u74 u75 u76 u77 u78 u79 u80 u81 u82 u83 u84 u85 u86 u87 u88 u89 u90 u91 u92 u93 u94 u95 u96 u97 u98 u99 u100 u101 u102 u103 u104 u105 u106 u107 u108 u109 u110 u111 u112 u113 u114 u115 u116 u117 u118 u119 u120 u121 u122 u123 u124 u125 u126 u127 u128 u129 u130 u131 u132 u133 u134 u135 : Value)
    (hQ : ∀ (t102 t103 t104 t105 t106 t107 t108 t109 : Value) (v3 : Value) (w' : World), Hid (VE V w' gC num v3 (n + 1) (xs ++ [.string x.path, .int .i64 x.act, .int .i64 x.ty.base, .bool x.ty.k, .bool x.ty.l, .bool x.ty.x, .int .u64 x.sum, .int .i64 x.size, .int .i64 x.base, .string x.frm, .int .i64 x.fnum, .int .i64 x.fence])) → Q .normal ⟨#[u0, .pointer (some ⟨gD, 0, none⟩), u2, u3, u4, u5, u6, u7, u8, u9, u10, u11, .int .i64 k, .pointer (some ⟨gC, 0, none⟩), u14, u15, u16, u17, u18, u19, u20, u21, u22, u23, u24, u25, u26, u27, u28, u29, u30, u31, u32, u33, u34, u35, u36, u37, u38, u39, u40, u41, u42, u43, u44, u45, u46, u47, u48, u49, u50, u51, u52, u53, u54, u55, u56, u57, u58, u59, u60, u61, u62, u63, u64, u65, u66, u67, u68, u69, u70, u71, u72, u73, u74, u75, u76, u77, u78, u79, u80, u81, u82, u83, u84, u85, u86, u87, u88, u89, u90, u91, u92, u93, u94, u95, u96, u97, u98, u99, u100, u101, t102, t103, t104, t105, t106, t107, t108, t109, u110, u111, u112, u113, u114, u115, u116, u117, u118, u119, u120, u121, u122, u123, u124, u125, u126, u127, u128, u129, u130, u131, u132, u133, u134, u135], []⟩ w') :
    (Code.region 24 ops true).wp Tryd.prog Q ⟨#[u0, .pointer (some ⟨gD, 0, none⟩), u2, u3, u4, u5, u6, u7, u8, u9, u10, u11, .int .i64 k, .pointer (some ⟨gC, 0, none⟩), u14, u15, u16, u17, u18, u19, u20, u21, u22, u23, u24, u25, u26, u27, u28, u29, u30, u31, u32, u33, u34, u35, u36, u37, u38, u39, u40, u41, u42, u43, u44, u45, u46, u47, u48, u49, u50, u51, u52, u53, u54, u55, u56, u57, u58, u59, u60, u61, u62, u63, u64, u65, u66, u67, u68, u69, u70, u71, u72, u73, u74, u75, u76, u77, u78, u79, u80, u81, u82, u83, u84, u85, u86, u87, u88, u89, u90, u91, u92, u93, u94, u95, u96, u97, u98, u99, u100, u101, u102, u103, u104, u105, u106, u107, u108, u109, u110, u111, u112, u113, u114, u115, u116, u117, u118, u119, u120, u121, u122, u123, u124, u125, u126, u127, u128, u129, u130, u131, u132, u133, u134, u135], []⟩ V1 := by
  obtain ⟨⟨Av, mv, cv, rfl⟩, Ar, mr, cr, rfl⟩ := hsl
  simp only [Tryd.f5, Option.bind_some, regAt] at hops
  simp at hops
  subst hops
  obtain ⟨A1, c1, hv1⟩ := own_slice hR.one
  subst hv1
  have HQ := Lib.hid hQ
  have HR := Lib.hid hR
  have HB := Lib.hid hB
  have HRV2 := Lib.hid hrev
  clear hQ hR hB hrev
  have hf : ∀ w', Below V1.heap.size V1 w' → w'.cell? ⟨gC, 3, none⟩ = some (.slice A1 n c1) ∧ w'.cell? ⟨gD, 0, none⟩ = some (.slice Av mv cv) ∧ w'.cell? ⟨gD, 1, none⟩ = some (.slice Ar mr cr) := fun w' hb => ⟨(HR.out.box.below hb HR.out.box.lt).cell 3, (HB.out.below hb HB.out.lt).cell 0, (HB.out.below hb HB.out.lt).cell 1⟩
  have HF := Lib.hid hf
  clear hf
  obtain ⟨f0, f1, f2⟩ := HF.out V1 (Below.refl _ _)
  refine wp_region_noPanic ?_
  go_region_law (first
    | (refine step_app rfl rfl edtElem (own_below (own_below HR.out.one hS5) ((Below.refl _ _).alloc (Nat.le_refl _) _)) (by simp [Act.eval, Act.put]) (row_new w5 [.string x.path, .int .i64 x.act, .int .i64 x.ty.base, .bool x.ty.k, .bool x.ty.l, .bool x.ty.x, .int .u64 x.sum, .int .i64 x.size, .int .i64 x.base, .string x.frm, .int .i64 x.fnum, .int .i64 x.fence] _ 12 1 rfl (by decide) _ rfl) (by simp [Act.eval, Act.put]) (by simp [Value.oneCell']) (by omega) (by unfold maxLen; omega) (by have := hS5.size; have := HR.out.bel.size; simp; omega) ?_; intro A6 c6' w6 hO6 hG6 hw6; have hbx := (HR.out.box.below (below_next hS5 ((Below.refl _ _).alloc (Nat.le_refl _) _)) HR.out.box.lt).grown hG6 (fun e => HR.out.ne1 e.symm); obtain ⟨b0, g0⟩ := box5f hbx)
    | (go_simp; go_at_call 9; refine (HRV2.out _ (Below.refl _ _).drew).mono ?_; rintro e w5 ⟨rfl, hX5⟩; have hS5 : Below V1.heap.size V1 w5 := (Below.refl _ _).drew.trans hX5; obtain ⟨f5, f6, f7⟩ := HF.out w5 hS5; obtain ⟨f8, f9, f10⟩ := HF.out (w5.alloc (.cells #[.string x.path, .int .i64 x.act, .int .i64 x.ty.base, .bool x.ty.k, .bool x.ty.l, .bool x.ty.x, .int .u64 x.sum, .int .i64 x.size, .int .i64 x.base, .string x.frm, .int .i64 x.fnum, .int .i64 x.fence] 39)) (hS5.alloc hS5.size _)))
  all_goals exact NoPanic.normal (HQ.out _ _ _ _ _ _ _ _ _ _ (HR.out.push (below_next hS5 ((Below.refl _ _).alloc (Nat.le_refl _) _)) hO6 hG6 hw6))
end Go.Proofs.YtnblfaagchflaaaDoor
