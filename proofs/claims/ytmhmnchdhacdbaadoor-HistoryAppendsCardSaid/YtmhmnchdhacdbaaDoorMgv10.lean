/- slices.Equal at revisions and at records. -/
import Derived.Test.YtmhmnchdhacdbaaDoorMgv1
import Derived.Test.YtmhmnchdhacdbaaDoorGreat
import Derived.Laws.EntriesVeiled
namespace Go.Proofs.YtmhmnchdhacdbaaDoor
open Go.RowKit
set_option linter.unusedVariables false
set_option linter.unusedSimpArgs false

set_option maxHeartbeats 2000000 in
theorem run_neq_rev (x y : Rev) (W : World) : (binOp .neq 45 (.agg #[.string x.path, .int .i64 x.num, .int .i64 x.chg, .int .i64 x.act, .int .i64 x.ty.base, .bool x.ty.k, .bool x.ty.l, .bool x.ty.x, .int .u64 x.sum, .int .i64 x.size, .string x.frm, .int .i64 x.fnum]) (.agg #[.string y.path, .int .i64 y.num, .int .i64 y.chg, .int .i64 y.act, .int .i64 y.ty.base, .bool y.ty.k, .bool y.ty.l, .bool y.ty.x, .int .u64 y.sum, .int .i64 y.size, .string y.frm, .int .i64 y.fnum])).run Tryd.prog W = .ok (.bool (!decide (x = y))) W := by
  obtain ⟨x1, x2, x3, x4, ⟨x5, x6, x7, x8⟩, x9, x10, x11, x12⟩ := x
  obtain ⟨y1, y2, y3, y4, ⟨y5, y6, y7, y8⟩, y9, y10, y11, y12⟩ := y
  rw [run_neq_struct, run_equalIn_agg W 9999 45 _ _ (by kernel_rfl) (by kernel_rfl)]
  simp [go_sem, Op.eqFields, toList_inj]
  by_cases h1 : x1 = y1
  case neg => simp [h1]
  rw [if_pos h1]
  by_cases h2 : x2 = y2
  case neg => simp [h2]
  rw [if_pos h2]
  by_cases h3 : x3 = y3
  case neg => simp [h3]
  rw [if_pos h3]
  by_cases h4 : x4 = y4
  case neg => simp [h4]
  rw [if_pos h4]
  by_cases h5 : x5 = y5
  case neg => simp [h5]
  rw [if_pos h5]
  by_cases h6 : x6 = y6
  case neg => simp [h6]
  rw [if_pos h6]
  by_cases h7 : x7 = y7
  case neg => simp [h7]
  rw [if_pos h7]
  by_cases h8 : x8 = y8
  case neg => simp [h8]
  rw [if_pos h8]
  by_cases h9 : x9 = y9
  case neg => simp [h9]
  rw [if_pos h9]
  by_cases h10 : x10 = y10
  case neg => simp [h10]
  rw [if_pos h10]
  by_cases h11 : x11 = y11
  case neg => simp [h11]
  rw [if_pos h11]
  by_cases h12 : x12 = y12
  case neg => simp [h12]
  rw [if_pos h12]
  simp [h1, h2, h3, h4, h5, h6, h7, h8, h9, h10, h11, h12]
theorem run_neq_rcd (x y : Rcd) (W : World) : (binOp .neq 50 (.agg #[.string x.frm, .int .i64 x.first, .int .i64 x.last, .string x.to, .int .i64 x.num, .int .i64 x.how]) (.agg #[.string y.frm, .int .i64 y.first, .int .i64 y.last, .string y.to, .int .i64 y.num, .int .i64 y.how])).run Tryd.prog W = .ok (.bool (!decide (x = y))) W := by
  obtain ⟨x1, x2, x3, x4, x5, x6⟩ := x
  obtain ⟨y1, y2, y3, y4, y5, y6⟩ := y
  rw [run_neq_struct, run_equalIn_agg W 9999 50 _ _ (by kernel_rfl) (by kernel_rfl)]
  simp [go_sem, Op.eqFields, toList_inj]
  repeat' split
  all_goals simp_all
theorem take_eq_all {α : Type} {l m : List α} (h : l.length = m.length) {k : Nat} (hk : l.length ≤ k) (he : l.take k = m.take k) : l = m := by
  rwa [List.take_of_length_le hk, List.take_of_length_le (by omega)] at he
theorem take_eq_step {α : Type} {l m : List α} {k : Nat} (h1 : k < l.length) (h2 : k < m.length) (he : l.take k = m.take k) (hx : l[k] = m[k]) : l.take (k + 1) = m.take (k + 1) := by
  rw [List.take_succ_eq_append_getElem h1, List.take_succ_eq_append_getElem h2, he, hx]

set_option maxRecDepth 100000 in
set_option maxHeartbeats 4000000 in
theorem equal_rev (l m : List Rev) (v1 v2 : Value) (w : World) (h1 : Revs w v1 l) (h2 : Revs w v2 m) :
    Calls Tryd.prog 27 #[v1, v2] w fun e w' => e = .returned (.bool (decide (l = m))) ∧ Below w.heap.size w w' := by
  obtain ⟨A1, c1, rfl, hc1, hm1, -⟩ := id h1
  obtain ⟨A2, c2, rfl, hc2, hm2, -⟩ := id h2
  unfold maxLen at hm1 hm2
  have H1 := Lib.hid h1
  have H2 := Lib.hid h2
  clear h1 h2
  by_cases hl : l.length = m.length
  · have q : ((l.length : Int) != (m.length : Int)) = false := by rw [bne_eq_false_iff_eq]; omega
    have HL := Lib.hid hl
    go_enter Tryd.func27, Tryd.ntmps27
    clear hl
    go_wp2_with fail
    go_loopw [13] (fun s wr => ∃ k : Nat, s = .int .i64 k ∧ k ≤ l.length ∧ Hid (l.take k = m.take k ∧ Below w.heap.size w wr)) (fun s _ => l.length - (intOf s).toNat)
    case atStart => exact ⟨0, rfl, Nat.zero_le _, by simp, Below.refl _ _⟩
    case round =>
      obtain ⟨k, rfl, hk, HI⟩ := hrel
      by_cases hlt : k < l.length
      · have hlt2 : k < m.length := by have := HL.out; omega
        have hz1 : (k : Int) < (l.length : Int) := by omega
        have hz2 : (k : Int) < (m.length : Int) := by omega
        obtain ⟨a1, rfl, hb1, hx⟩ := Revs.at_ (H1.out.below HI.out.2) hlt
        obtain ⟨a2, rfl, hb2, hy⟩ := Revs.at_ (H2.out.below HI.out.2) hlt2
        have HST := Lib.hid (fun h => take_eq_step hlt hlt2 HI.out.1 h)
        have HNE : Hid (l[k] ≠ m[k] → l ≠ m) := Lib.hid fun h e => h (by subst e; rfl)
        generalize l[k] = x at hx HST HNE
        generalize m[k] = y at hy HST HNE
        obtain ⟨x0, x1, x2, x3, x4, x5, x6, x7, x8, x9, x10, x11⟩ := hx
        obtain ⟨y0, y1, y2, y3, y4, y5, y6, y7, y8, y9, y10, y11⟩ := hy
        have hne := run_neq_rev x y
        by_cases e : x = y
        · have hd : (!decide (x = y)) = false := by simp [e]
          rw [hd] at hne
          have HE := Lib.hid e
          clear hd e
          go_wp2_with fail
          go_quiet (fail)
          clear x0 x1 x2 x3 x4 x5 x6 x7 x8 x9 x10 x11 y0 y1 y2 y3 y4 y5 y6 y7 y8 y9 y10 y11 hne
          go_wp2_with fail
          go_roundw
          case rel => exact ⟨k + 1, by go_num, by omega, HST.out HE.out, below_dN HI.out.2 _⟩
          case measure => simp [intOf]; omega
        · have hd : (!decide (x = y)) = true := by simp [e]
          rw [hd] at hne
          have HE : Hid (decide (l = m) = false) := Lib.hid (by simp; exact HNE.out e)
          clear hd e
          go_wp2_with fail
          go_quiet (fail)
          clear x0 x1 x2 x3 x4 x5 x6 x7 x8 x9 x10 x11 y0 y1 y2 y3 y4 y5 y6 y7 y8 y9 y10 y11 hne
          go_wp2_with fail
          go_ret
          exact ⟨ret_bool HE.out.symm, below_dN HI.out.2 _⟩
      · have HE : Hid (decide (l = m) = true) := Lib.hid (by simp; exact take_eq_all HL.out (by omega) HI.out.1)
        go_wp2_with fail
        go_ret
        exact ⟨ret_bool HE.out.symm, HI.out.2⟩
  · have q : ((l.length : Int) != (m.length : Int)) = true := by rw [bne_iff_ne]; omega
    have HE : Hid (decide (l = m) = false) := Lib.hid (by simp; intro e; exact hl (by rw [e]))
    clear hl
    go_enter Tryd.func27, Tryd.ntmps27
    go_wp2_with fail
    go_ret
    exact ⟨ret_bool HE.out.symm, Below.refl _ _⟩

set_option maxRecDepth 100000 in
set_option maxHeartbeats 4000000 in
theorem equal_rcd (l m : List Rcd) (v1 v2 : Value) (w : World) (h1 : Rcds w v1 l) (h2 : Rcds w v2 m) :
    Calls Tryd.prog 28 #[v1, v2] w fun e w' => e = .returned (.bool (decide (l = m))) ∧ Below w.heap.size w w' := by
  obtain ⟨A1, c1, rfl, hc1, hm1, -⟩ := id h1
  obtain ⟨A2, c2, rfl, hc2, hm2, -⟩ := id h2
  unfold maxLen at hm1 hm2
  have H1 := Lib.hid h1
  have H2 := Lib.hid h2
  clear h1 h2
  by_cases hl : l.length = m.length
  · have q : ((l.length : Int) != (m.length : Int)) = false := by rw [bne_eq_false_iff_eq]; omega
    have HL := Lib.hid hl
    go_enter Tryd.func28, Tryd.ntmps28
    clear hl
    go_wp2_with fail
    go_loopw [13] (fun s wr => ∃ k : Nat, s = .int .i64 k ∧ k ≤ l.length ∧ Hid (l.take k = m.take k ∧ Below w.heap.size w wr)) (fun s _ => l.length - (intOf s).toNat)
    case atStart => exact ⟨0, rfl, Nat.zero_le _, by simp, Below.refl _ _⟩
    case round =>
      obtain ⟨k, rfl, hk, HI⟩ := hrel
      by_cases hlt : k < l.length
      · have hlt2 : k < m.length := by have := HL.out; omega
        have hz1 : (k : Int) < (l.length : Int) := by omega
        have hz2 : (k : Int) < (m.length : Int) := by omega
        obtain ⟨a1, rfl, hb1, hx⟩ := Rcds.at_ (H1.out.below HI.out.2) hlt
        obtain ⟨a2, rfl, hb2, hy⟩ := Rcds.at_ (H2.out.below HI.out.2) hlt2
        have HST := Lib.hid (fun h => take_eq_step hlt hlt2 HI.out.1 h)
        have HNE : Hid (l[k] ≠ m[k] → l ≠ m) := Lib.hid fun h e => h (by subst e; rfl)
        generalize l[k] = x at hx HST HNE
        generalize m[k] = y at hy HST HNE
        obtain ⟨x0, x1, x2, x3, x4, x5⟩ := hx
        obtain ⟨y0, y1, y2, y3, y4, y5⟩ := hy
        have hne := run_neq_rcd x y
        by_cases e : x = y
        · have hd : (!decide (x = y)) = false := by simp [e]
          rw [hd] at hne
          have HE := Lib.hid e
          clear hd e
          go_wp2_with fail
          go_quiet (fail)
          clear x0 x1 x2 x3 x4 x5 y0 y1 y2 y3 y4 y5 hne
          go_wp2_with fail
          go_roundw
          case rel => exact ⟨k + 1, by go_num, by omega, HST.out HE.out, below_dN HI.out.2 _⟩
          case measure => simp [intOf]; omega
        · have hd : (!decide (x = y)) = true := by simp [e]
          rw [hd] at hne
          have HE : Hid (decide (l = m) = false) := Lib.hid (by simp; exact HNE.out e)
          clear hd e
          go_wp2_with fail
          go_quiet (fail)
          clear x0 x1 x2 x3 x4 x5 y0 y1 y2 y3 y4 y5 hne
          go_wp2_with fail
          go_ret
          exact ⟨ret_bool HE.out.symm, below_dN HI.out.2 _⟩
      · have HE : Hid (decide (l = m) = true) := Lib.hid (by simp; exact take_eq_all HL.out (by omega) HI.out.1)
        go_wp2_with fail
        go_ret
        exact ⟨ret_bool HE.out.symm, HI.out.2⟩
  · have q : ((l.length : Int) != (m.length : Int)) = true := by rw [bne_iff_ne]; omega
    have HE : Hid (decide (l = m) = false) := Lib.hid (by simp; intro e; exact hl (by rw [e]))
    clear hl
    go_enter Tryd.func28, Tryd.ntmps28
    go_wp2_with fail
    go_ret
    exact ⟨ret_bool HE.out.symm, Below.refl _ _⟩
end Go.Proofs.YtmhmnchdhacdbaaDoor
/- Region 24 of history.Valid: one more edit of the change that is made anew. -/
namespace Go.Proofs.YtmhmnchdhacdbaaDoor
open Go.RowKit
set_option linter.unusedVariables false
set_option linter.unusedSimpArgs false

theorem edtElem : ElemOk Tryd.prog 23 48 12 96 := elemOk_of Tryd.underlying23 (z := zeroEdt.val) (by kernel_rfl) rfl (by decide)
/-- The change that Valid makes anew, in block gC, its edits a row of its own. -/
structure VE (V wx : World) (gC : Nat) (num : Int) (v1 : Value) (n : Nat) (xs : List Value) : Prop where
  bel : Below V.heap.size V wx
  le : V.heap.size ≤ gC
  box : Blk wx gC 26 [.int .i64 num, .string ⟨#[]⟩, .string ⟨#[]⟩, v1, .slice none 0 0]
  one : wx.ownsRow V.heap.size 48 12 v1 n xs
  ne1 : v1.ownBlock ≠ some gC
theorem VE.under {V wr X : World} {gC : Nat} {num : Int} {v1 : Value} {n : Nat} {xs : List Value} (h : VE V wr gC num v1 n xs) (hX : Below wr.heap.size wr X) : VE V X gC num v1 n xs :=
  ⟨below_next h.bel hX, h.le, h.box.below hX h.box.lt, own_below h.one hX, h.ne1⟩
theorem VE.push {V wr X w5 : World} {gC : Nat} {num : Int} {v1 v3 : Value} {n n' : Nat} {xs xs' : List Value} (h : VE V wr gC num v1 n xs) (hX : Below wr.heap.size wr X) (ho : w5.ownsRow V.heap.size 48 12 v3 n' xs') (hg : X.grownBy w5 v1.ownBlock) (hw : v3.ownBlock = v1.ownBlock ∨ v3.ownBlock = some X.heap.size) :
    VE V (w5.setCell ⟨gC, 3, none⟩ v3) gC num v3 n' xs' := by
  have l1 := h.one.lt
  have lb := h.box.lt
  have hs := hX.size
  have n3 : v3.ownBlock ≠ some gC := fun e => by
    rcases hw with hw | hw
    · exact h.ne1 (hw ▸ e)
    · rw [hw] at e; injection e with e; omega
  have b5 : Below V.heap.size V w5 := (below_next h.bel hX).grown hg (by have := h.bel.size; omega) (fun k e => (l1 k e).1)
  exact ⟨b5.setCell (p := ⟨gC, 3, none⟩) h.le _, h.le, ((h.box.below hX lb).grown hg (fun e => h.ne1 e.symm)).set_ 3 v3, own_setCell ho (p := ⟨gC, 3, none⟩) n3 _, n3⟩
theorem box5f {w : World} {g : Nat} {e : TypeId} {a b c d x : Value} (h : Blk w g e [a, b, c, d, x]) : w.cell? ⟨g, 3, none⟩ = some d ∧ w.frozen? ⟨g, 3, none⟩ = false := ⟨h.cell 3, h.frozen 3⟩

set_option maxRecDepth 100000 in
set_option maxHeartbeats 8000000 in
theorem region24 (ops : Array Oper) (hops : Tryd.f13.body.bind (regAt 24) = some ops) (Q : Exit → Act → World → Prop) (gD gC n k : Nat) (num : Int) (x : Edt) (v1 dv dr : Value) (xs : List Value) (V V1 : World)
    (hR : VE V V1 gC num v1 n xs) (hB : Blk V1 gD 31 [dv, dr]) (hsl : (∃ A m c, dv = .slice A m c) ∧ ∃ A m c, dr = .slice A m c) (hn : n ≤ 100000)
    (hrev : ∀ X, Below V1.heap.size V1 X → Calls Tryd.prog 26 #[.agg #[dv, dr], .int .i64 k] X fun e w' => e = .returned (.agg #[.string x.path, .int .i64 x.act, .int .i64 x.ty.base, .bool x.ty.k, .bool x.ty.l, .bool x.ty.x, .int .u64 x.sum, .int .i64 x.size, .int .i64 x.base, .string x.frm, .int .i64 x.fnum, .int .i64 x.fence]) ∧ Below X.heap.size X w')
    (u0 u2 u3 u4 u5 u6 u7 u8 u9 u10 u11 u14 u15 u16 u17 u18 u19 u20 u21 u22 u23 u24 u25 u26 u27 u28 u29 u30 u31 u32 u33 u34 u35 u36 u37 u38 u39 u40 u41 u42 u43 u44 u45 u46 u47 u48 u49 u50 u51 u52 u53 u54 u55 u56 u57 u58 u59 u60 u61 u62 u63 u64 u65 u66 u67 u68 u69 u70 u71 u72 u73 u74 u75 u76 u77 u78 u79 u80 u81 u82 u83 u84 u85 u86 u87 u88 u89 u90 u91 u92 u93 u94 u95 u96 u97 u98 u99 u100 u101 u102 u103 u104 u105 u106 u107 u108 u109 u110 u111 u112 u113 u114 u115 u116 u117 u118 u119 u120 u121 u122 u123 u124 u125 u126 u127 u128 u129 u130 u131 u132 u133 u134 u135 : Value)
    (hQ : ∀ (t102 t103 t104 t105 t106 t107 t108 t109 : Value) (v3 : Value) (w' : World), Hid (VE V w' gC num v3 (n + 1) (xs ++ [.string x.path, .int .i64 x.act, .int .i64 x.ty.base, .bool x.ty.k, .bool x.ty.l, .bool x.ty.x, .int .u64 x.sum, .int .i64 x.size, .int .i64 x.base, .string x.frm, .int .i64 x.fnum, .int .i64 x.fence])) → Q .normal ⟨#[u0, .pointer (some ⟨gD, 0, none⟩), u2, u3, u4, u5, u6, u7, u8, u9, u10, u11, .int .i64 k, .pointer (some ⟨gC, 0, none⟩), u14, u15, u16, u17, u18, u19, u20, u21, u22, u23, u24, u25, u26, u27, u28, u29, u30, u31, u32, u33, u34, u35, u36, u37, u38, u39, u40, u41, u42, u43, u44, u45, u46, u47, u48, u49, u50, u51, u52, u53, u54, u55, u56, u57, u58, u59, u60, u61, u62, u63, u64, u65, u66, u67, u68, u69, u70, u71, u72, u73, u74, u75, u76, u77, u78, u79, u80, u81, u82, u83, u84, u85, u86, u87, u88, u89, u90, u91, u92, u93, u94, u95, u96, u97, u98, u99, u100, u101, t102, t103, t104, t105, t106, t107, t108, t109, u110, u111, u112, u113, u114, u115, u116, u117, u118, u119, u120, u121, u122, u123, u124, u125, u126, u127, u128, u129, u130, u131, u132, u133, u134, u135], []⟩ w') :
    (Code.region 24 ops true).wp Tryd.prog Q ⟨#[u0, .pointer (some ⟨gD, 0, none⟩), u2, u3, u4, u5, u6, u7, u8, u9, u10, u11, .int .i64 k, .pointer (some ⟨gC, 0, none⟩), u14, u15, u16, u17, u18, u19, u20, u21, u22, u23, u24, u25, u26, u27, u28, u29, u30, u31, u32, u33, u34, u35, u36, u37, u38, u39, u40, u41, u42, u43, u44, u45, u46, u47, u48, u49, u50, u51, u52, u53, u54, u55, u56, u57, u58, u59, u60, u61, u62, u63, u64, u65, u66, u67, u68, u69, u70, u71, u72, u73, u74, u75, u76, u77, u78, u79, u80, u81, u82, u83, u84, u85, u86, u87, u88, u89, u90, u91, u92, u93, u94, u95, u96, u97, u98, u99, u100, u101, u102, u103, u104, u105, u106, u107, u108, u109, u110, u111, u112, u113, u114, u115, u116, u117, u118, u119, u120, u121, u122, u123, u124, u125, u126, u127, u128, u129, u130, u131, u132, u133, u134, u135], []⟩ V1 := by
  obtain ⟨⟨Av, mv, cv, rfl⟩, Ar, mr, cr, rfl⟩ := hsl
  simp only [Tryd.f13, Option.bind_some, regAt] at hops
  simp at hops
  subst hops
  obtain ⟨A1, c1, hv1⟩ := own_slice hR.one
  subst hv1
  have HQ := Lib.hid hQ
  have HR := Lib.hid hR
  have HB := Lib.hid hB
  have HRV2 := Lib.hid hrev
  clear hQ hR hB hrev
  have hf : ∀ w', Below V1.heap.size V1 w' → w'.cell? ⟨gC, 3, none⟩ = some (.slice A1 n c1) ∧ w'.cell? ⟨gD, 0, none⟩ = some (.slice Av mv cv) ∧ w'.cell? ⟨gD, 1, none⟩ = some (.slice Ar mr cr) := fun w' hb => ⟨(HR.out.box.below hb HR.out.box.lt).cell 3, (HB.out.below hb HB.out.lt).cell 0, (HB.out.below hb HB.out.lt).cell 1⟩
  have HF := Lib.hid hf
  clear hf
  obtain ⟨f0, f1, f2⟩ := HF.out V1 (Below.refl _ _)
  refine wp_region_noPanic ?_
  go_region_law (first
    | (refine step_app rfl rfl edtElem (own_below (own_below HR.out.one hS5) ((Below.refl _ _).alloc (Nat.le_refl _) _)) (by simp [Act.eval, Act.put]) (row_new w5 [.string x.path, .int .i64 x.act, .int .i64 x.ty.base, .bool x.ty.k, .bool x.ty.l, .bool x.ty.x, .int .u64 x.sum, .int .i64 x.size, .int .i64 x.base, .string x.frm, .int .i64 x.fnum, .int .i64 x.fence] _ 12 1 rfl (by decide) _ rfl) (by simp [Act.eval, Act.put]) (by simp [Value.oneCell']) (by omega) (by unfold maxLen; omega) (by have := hS5.size; have := HR.out.bel.size; simp; omega) ?_; intro A6 c6' w6 hO6 hG6 hw6; have hbx := (HR.out.box.below (below_next hS5 ((Below.refl _ _).alloc (Nat.le_refl _) _)) HR.out.box.lt).grown hG6 (fun e => HR.out.ne1 e.symm); obtain ⟨b0, g0⟩ := box5f hbx)
    | (go_simp; go_at_call 26; refine (HRV2.out _ (Below.refl _ _).drew).mono ?_; rintro e w5 ⟨rfl, hX5⟩; have hS5 : Below V1.heap.size V1 w5 := (Below.refl _ _).drew.trans hX5; obtain ⟨f5, f6, f7⟩ := HF.out w5 hS5; obtain ⟨f8, f9, f10⟩ := HF.out (w5.alloc (.cells #[.string x.path, .int .i64 x.act, .int .i64 x.ty.base, .bool x.ty.k, .bool x.ty.l, .bool x.ty.x, .int .u64 x.sum, .int .i64 x.size, .int .i64 x.base, .string x.frm, .int .i64 x.fnum, .int .i64 x.fence] 48)) (hS5.alloc hS5.size _)))
  all_goals exact NoPanic.normal (HQ.out _ _ _ _ _ _ _ _ _ _ (HR.out.push (below_next hS5 ((Below.refl _ _).alloc (Nat.le_refl _) _)) hO6 hG6 hw6))
end Go.Proofs.YtmhmnchdhacdbaaDoor
/- history.Valid at a depot of one revision and no record. -/
namespace Go.Proofs.YtmhmnchdhacdbaaDoor
open Go.RowKit
set_option linter.unusedVariables false
set_option linter.unusedSimpArgs false

def CMap (w : World) (B : Nat) : Prop := ∃ f, FMap filV (fun n : Int => Value.int .i64 n) w B f
def RMap (w : World) (B : Nat) : Prop := FMap (fun n : Int => Value.int .i64 n) (fun v : Value => v) w B (fun _ => none)
theorem CMap.below {w w' : World} {B : Nat} (h : CMap w B) (hb : Below w.heap.size w w') : CMap w' B := by obtain ⟨f, h⟩ := h; exact ⟨f, FMap.below h hb⟩
theorem RMap.below {w w' : World} {B : Nat} (h : RMap w B) (hb : Below w.heap.size w w') : RMap w' B := FMap.below h hb
theorem RMap.look {w : World} {B : Nat} (h : RMap w B) (n : Int) : (Instr.lookup 69 (.map (some B)) (.int .i64 n) false).run Tryd.prog w = .ok (.slice none 0 0) w :=
  FMap.lookup h (keyOk_int Tryd.underlying3) Tryd.underlying69 (Tryd.zeroValue24 w) n false

/-- The state of Valid's second loop at one revision: k revisions are made anew. -/
structure VS (w wr : World) (g11 gr : Nat) (dv dr mv mr : Value) (r : Rev) (k : Nat) : Prop where
  bel : Below w.heap.size w wr
  le : w.heap.size ≤ g11
  boxD : Blk wr w.heap.size 31 [dv, dr]
  boxM : Blk wr g11 31 [mv, mr]
  rmap : RMap wr gr
  dep : (k = 0 ∧ mv = .slice none 0 0 ∧ mr = .slice none 0 0) ∨ (k ≠ 0 ∧ Revs wr mv [r] ∧ Rcds wr mr [])
theorem VS.zero {w wr : World} {g11 gr : Nat} {dv dr mv mr : Value} {r : Rev} {k : Nat} (h : VS w wr g11 gr dv dr mv mr r k) (hk : k = 0) : k = 0 ∧ mv = .slice none 0 0 ∧ mr = .slice none 0 0 := by
  rcases h.dep with h | h
  · exact h
  · exact absurd hk h.1

set_option maxRecDepth 100000 in
set_option maxHeartbeats 8000000 in
theorem valid_one (r : Rev) (dv dr : Value) (w : World) (hR : Revs w dv [r]) (hQ : Rcds w dr []) (hn : 0 < r.num ∧ r.num ≤ 1000000) (c0 : Chg) (hc0 : c0 = ⟨r.chg, ⟨#[]⟩, ⟨#[]⟩, [edtOf r], []⟩) (hA : appE ⟨[], []⟩ c0 = 0) (hN : newRevs ⟨[], []⟩ c0 = [r]) (hW : ChgW c0) :
    Calls Tryd.prog 13 #[.agg #[dv, dr]] w fun e w' => e = .returned (.bool true) ∧ Below w.heap.size w w' := by
  obtain ⟨revs, hrevs⟩ : ∃ l, l = [r] := ⟨_, rfl⟩
  have hlen : revs.length = 1 := by rw [hrevs]; rfl
  rw [← hrevs] at hR
  obtain ⟨Ar, cr, rfl, hcr, hmr, -⟩ := id hR
  obtain ⟨Aq, cq, rfl, hcq, hmq, -⟩ := id hQ
  unfold maxLen at hmr hmq
  have HRV := Lib.hid hrevs
  have HR := Lib.hid hR
  have HQ := Lib.hid hQ
  have HLEN := Lib.hid hlen
  have HC0 := Lib.hid hc0
  have HAP := Lib.hid hA
  have HNW := Lib.hid hN
  have HCW := Lib.hid hW
  clear hrevs hR hQ hc0 hA hN hW
  have q1 : decide ((512 : Int) < (revs.length : Int)) = false := by simp; omega
  have hB0 := blk_new w [.slice Ar revs.length cr, .slice Aq 0 cq] 31
  have hb0 : Below w.heap.size w (w.alloc (.cells #[.slice Ar revs.length cr, .slice Aq 0 cq] 31)) := (Below.refl _ _).alloc (Nat.le_refl _) _
  clear hlen
  go_enter Tryd.func13, Tryd.ntmps13
  go_upto_region 1 with fail
  generalize w.alloc (.cells #[.slice Ar revs.length cr, .slice Aq 0 cq] 31) = W1 at hB0 hb0 ⊢
  obtain ⟨d0, d1, -, -⟩ := box2 hB0
  have hmm := @run_makeMap Tryd.prog
  have hM1 := FMap.new filV (fun n : Int => Value.int .i64 n) W1
  have hW2 : Below W1.heap.size W1 (W1.alloc (.map #[] 0)) := (Below.refl _ _).alloc (Nat.le_refl _) _
  go_upto_region 4 with fail
  have hsz1 := hB0.lt
  generalize hg1 : W1.heap.size = gm at hM1 hsz1 ⊢
  have hle1 : w.heap.size ≤ gm := by omega
  have HS1 : Hid (CMap (W1.alloc (.map #[] 0)) gm ∧ Blk (W1.alloc (.map #[] 0)) w.heap.size 31 [.slice Ar revs.length cr, .slice Aq 0 cq] ∧ Below w.heap.size w (W1.alloc (.map #[] 0))) := Lib.hid ⟨⟨_, hM1⟩, hB0.alloc _, hb0.alloc hb0.size _⟩
  clear hM1 d0 d1 hB0 hb0 hW2 hg1
  generalize W1.alloc (.map #[] 0) = W2 at HS1 ⊢
  have d0 : W2.cell? ⟨w.heap.size, 0, none⟩ = some (.slice Ar revs.length cr) := HS1.out.2.1.cell 0
  go_wp2_with fail
  clear d0
  go_loopw [30] (fun s wr => ∃ k : Nat, s = .int .i64 k ∧ k ≤ revs.length ∧ Hid (CMap wr gm ∧ Blk wr w.heap.size 31 [.slice Ar revs.length cr, .slice Aq 0 cq] ∧ Below w.heap.size w wr)) (fun s _ => revs.length - (intOf s).toNat)
  case atStart => exact ⟨0, rfl, Nat.zero_le _, HS1.out⟩
  case round =>
    obtain ⟨k, rfl, hk, HI⟩ := hrel
    by_cases hlt : k < revs.length
    · obtain ⟨ad, rfl, hab, hld⟩ := Revs.at_ (HR.out.below HI.out.2.2) hlt
      generalize revs[k] = x at hld
      obtain ⟨x0, x1, x2, x3, x4, x5, x6, x7, x8, x9, x10, x11⟩ := hld
      have hX := blk_new wr [.string x.path, .int .i64 x.num, .int .i64 x.chg, .int .i64 x.act, .int .i64 x.ty.base, .bool x.ty.k, .bool x.ty.l, .bool x.ty.x, .int .u64 x.sum, .int .i64 x.size, .string x.frm, .int .i64 x.fnum] 45
      have hA1 : Below wr.heap.size wr (wr.alloc (.cells #[.string x.path, .int .i64 x.num, .int .i64 x.chg, .int .i64 x.act, .int .i64 x.ty.base, .bool x.ty.k, .bool x.ty.l, .bool x.ty.x, .int .u64 x.sum, .int .i64 x.size, .string x.frm, .int .i64 x.fnum] 45)) := (Below.refl _ _).alloc (Nat.le_refl _) _
      go_upto_region 7 with fail
      clear x0 x1 x2 x3 x4 x5 x6 x7 x8 x9 x10 x11
      generalize wr.alloc (.cells #[.string x.path, .int .i64 x.num, .int .i64 x.chg, .int .i64 x.act, .int .i64 x.ty.base, .bool x.ty.k, .bool x.ty.l, .bool x.ty.x, .int .u64 x.sum, .int .i64 x.size, .string x.frm, .int .i64 x.fnum] 45) = V1 at hX hA1 ⊢
      obtain ⟨f, hf⟩ := CMap.below HI.out.1 hA1
      obtain ⟨c0', c1', c2', -, -, -, -, -, -, -, -, -⟩ := box12 hX
      obtain ⟨w3, hup, hf3, hg3, hs3⟩ := FMap.update hf keyOk_fil Tryd.underlying66 (x.path, x.num) x.chg
      have hup' : (Instr.mapUpdate 66 (.map (some gm)) (.agg #[.string x.path, .int .i64 x.num]) (.int .i64 x.chg)).run Tryd.prog V1 = .ok () w3 := hup
      have HN : Hid (CMap w3 gm ∧ Blk w3 w.heap.size 31 [.slice (some ad) revs.length cr, .slice Aq 0 cq] ∧ Below w.heap.size w w3) := Lib.hid ⟨⟨_, hf3⟩, (HI.out.2.1.below hA1 HI.out.2.1.lt).turn (FMap.obj hf) hg3, (below_next HI.out.2.2 hA1).grown hg3 (below_next HI.out.2.2 hA1).size (fun j e => by injection e with e; omega)⟩
      clear hup hf hf3 hg3 hs3 hX hA1
      go_wp2_with fail
      go_roundw
      case rel => exact ⟨k + 1, by go_num, by omega, HN.out⟩
      case measure => simp [intOf]; omega
    · have hkk : k = revs.length := by omega
      subst hkk
      generalize wr = W3 at HI ⊢
      have hM2 := FMap.new (fun n : Int => Value.int .i64 n) (fun v : Value => v) W3
      have hR2 : RMap (W3.alloc (.map #[] 0)) W3.heap.size := hM2
      have hA2 : Below W3.heap.size W3 (W3.alloc (.map #[] 0)) := (Below.refl _ _).alloc (Nat.le_refl _) _
      have hmm := @run_makeMap Tryd.prog
      go_upto_region 10 with fail
      generalize W3.alloc (.map #[] 0) = W4 at hM2 hR2 hA2 ⊢
      clear hM2
      have HR2 := Lib.hid hR2
      have HD4 : Hid (Blk W4 w.heap.size 31 [.slice Ar revs.length cr, .slice Aq 0 cq] ∧ Below w.heap.size w W4) := Lib.hid ⟨HI.out.2.1.below hA2 HI.out.2.1.lt, below_next HI.out.2.2 hA2⟩
      have d1 : W4.cell? ⟨w.heap.size, 1, none⟩ = some (.slice Aq 0 cq) := HD4.out.1.cell 1
      clear hR2 hA2 hmm
      go_wp2_with fail
      refine wp_loop_rounds 1 ?_
      rw [rounds_succ]
      go_upto_region 18 with fail
      clear d1
      generalize W3.heap.size = gr at HR2 ⊢
      clear HS1 HI
      have HV4 : Hid (VS w (W4.alloc (.cells #[.slice none 0 0, .slice none 0 0] 31)) W4.heap.size gr (.slice Ar revs.length cr) (.slice Aq 0 cq) (.slice none 0 0) (.slice none 0 0) r 0) := Lib.hid
        ⟨HD4.out.2.alloc HD4.out.2.size _, HD4.out.2.size, HD4.out.1.alloc _, blk_new W4 _ _, HR2.out.below ((Below.refl _ _).alloc (Nat.le_refl _) _), .inl ⟨rfl, rfl, rfl⟩⟩
      have hg11 : w.heap.size < W4.heap.size := HD4.out.1.lt
      go_wp2_with fail
      generalize W4.alloc (.cells #[.slice none 0 0, .slice none 0 0] 31) = W5 at HV4 ⊢
      generalize W4.heap.size = g11 at HV4 hg11 ⊢
      clear HD4 HR2
      go_loopw [12] (fun s wr => ∃ (k : Nat) (mv mr : Value), s = .int .i64 k ∧ k ≤ revs.length ∧ Hid (VS w wr g11 gr (.slice Ar revs.length cr) (.slice Aq 0 cq) mv mr r k)) (fun s _ => revs.length - (intOf s).toNat)
      case atStart => exact ⟨0, _, _, rfl, Nat.zero_le _, HV4.out⟩
      case round =>
        obtain ⟨k, mv, mr, rfl, hk, HI⟩ := hrel
        clear HV4
        by_cases hlt : k < revs.length
        · have hk0 : k = 0 := by have := HLEN.out; omega
          obtain ⟨-, hmv, hmr⟩ := HI.out.zero hk0
          subst hmv hmr
          obtain ⟨ad, rfl, hab, hld⟩ := Revs.at_ (HR.out.below HI.out.bel) hlt
          have hrk : revs[k] = r := by subst hk0; simp [HRV.out]
          rw [hrk] at hld
          obtain ⟨x0, x1, x2, x3, x4, x5, x6, x7, x8, x9, x10, x11⟩ := hld
          have HK0 := Lib.hid hk0
          clear hk0 hrk x0 x1 x3 x4 x5 x6 x7 x8 x9 x10 x11
          have e0 : wr.cell? ⟨w.heap.size, 0, none⟩ = some (.slice (some ad) revs.length cr) := HI.out.boxD.cell 0
          have hX := blk_new wr [.int .i64 r.chg, .string ⟨#[]⟩, .string ⟨#[]⟩, .slice none 0 0, .slice none 0 0] 26
          have hA1 : Below wr.heap.size wr (wr.alloc (.cells #[.int .i64 r.chg, .string ⟨#[]⟩, .string ⟨#[]⟩, .slice none 0 0, .slice none 0 0] 26)) := (Below.refl _ _).alloc (Nat.le_refl _) _
          go_upto_region 22 with fail
          clear x2 e0
          have HVE : Hid (VE wr (wr.alloc (.cells #[.int .i64 r.chg, .string ⟨#[]⟩, .string ⟨#[]⟩, .slice none 0 0, .slice none 0 0] 26)) wr.heap.size r.chg (.slice none 0 0) 0 []) := Lib.hid ⟨hA1, Nat.le_refl _, hX, World.ownsRow_nil _ _ _ _, fun e => by cases e⟩
          generalize wr.alloc (.cells #[.int .i64 r.chg, .string ⟨#[]⟩, .string ⟨#[]⟩, .slice none 0 0, .slice none 0 0] 26) = V1 at hX hA1 HVE ⊢
          clear hX hA1
          generalize wr = U at HI HVE hab ⊢
          go_loopw [12] (fun s wy => ∃ (j : Nat) (v1 : Value) (es : List Edt), s = .int .i64 j ∧ j ≤ revs.length ∧ Hid (es = (revs.take j).map edtOf ∧ VE U wy U.heap.size r.chg v1 es.length (es.flatMap Edt.cells))) (fun s _ => revs.length - (intOf s).toNat)
          case atStart => exact ⟨k, _, [], rfl, hk, by rw [HK0.out]; rfl, HVE.out⟩
          case round =>
            obtain ⟨j, v1, es, rfl, hj, HJ⟩ := hrel
            clear HVE
            have hbU := below_next HI.out.bel HJ.out.2.bel
            have e0 : wr.cell? ⟨w.heap.size, 0, none⟩ = some (.slice (some ad) revs.length cr) := (HI.out.boxD.below HJ.out.2.bel HI.out.boxD.lt).cell 0
            have e1 : wr.cell? ⟨U.heap.size, 0, none⟩ = some (.int .i64 r.chg) := HJ.out.2.box.cell 0
            by_cases hjl : j < revs.length
            · obtain ⟨ad', had, hab', hld⟩ := Revs.at_ (HR.out.below hbU) hjl
              injection had with had
              subst had
              have hrj : revs[j] = r := by have := HLEN.out; have hj0 : j = 0 := by omega
                                           subst hj0; simp [HRV.out]
              rw [hrj] at hld
              have x2 := hld.2.2.1
              have HRJ := Lib.hid hrj
              have HBU := Lib.hid hbU
              have d1 : decide (j < revs.length) = true := by simp; omega
              clear hld hrj hbU
              go_wp2_with fail
              go_quiet (fail)
              clear x2 e0 e1
              have HJ2 := Lib.hid (HJ.out.2.under (below_dN (Below.refl wr.heap.size wr) nq))
              have HD2 : Hid (Blk (wr.drewN nq) w.heap.size 31 [.slice (some ad) revs.length cr, .slice Aq 0 cq]) := Lib.hid (HI.out.boxD.below HJ2.out.bel HI.out.boxD.lt)
              have HEO := Lib.hid (fun X (hX : Below (wr.drewN nq).heap.size (wr.drewN nq) X) => editOf_any revs j (.slice (some ad) revs.length cr) (.slice Aq 0 cq) X (HR.out.below (below_next (below_dN HBU.out nq) hX)) hjl r HRJ.out hn)
              have hes : es.length ≤ 100000 := by have := HLEN.out; rw [HJ.out.1, List.length_map, List.length_take]; omega
              generalize wr.drewN nq = wz at HJ2 HD2 HEO ⊢
              go_upto_region 24 with fail
              refine region24 _ (by kernel_rfl) _ w.heap.size U.heap.size es.length j r.chg (edtOf r) v1 (.slice (some ad) revs.length cr) (.slice Aq 0 cq) _ U wz HJ2.out HD2.out ⟨⟨_, _, _, rfl⟩, _, _, _, rfl⟩ hes HEO.out _ _ _ _ _ _ _ _ _ _ _ _ _ _ _ _ _ _ _ _ _ _ _ _ _ _ _ _ _ _ _ _ _ _ _ _ _ _ _ _ _ _ _ _ _ _ _ _ _ _ _ _ _ _ _ _ _ _ _ _ _ _ _ _ _ _ _ _ _ _ _ _ _ _ _ _ _ _ _ _ _ _ _ _ _ _ _ _ _ _ _ _ _ _ _ _ _ _ _ _ _ _ _ _ _ _ _ _ _ _ _ _ _ _ _ _ _ _ _ _ _ _ _ _ _ _ _ _ _ _ _ _ _ ?_
              intro t102 t103 t104 t105 t106 t107 t108 t109 v3 w6 HQ2
              go_wp2_with fail
              go_roundw
              case rel =>
                refine ⟨j + 1, v3, es ++ [edtOf r], by go_num, by omega, ?_, ?_⟩
                · rw [List.take_succ_eq_append_getElem hjl, List.map_append, HRJ.out, HJ.out.1]; rfl
                · have := HQ2.out
                  rw [List.length_append, List.flatMap_append, List.flatMap_cons, List.flatMap_nil, List.append_nil]
                  exact this
              case measure => simp [intOf]; omega
            · have d1 : decide (j < revs.length) = false := by simp; omega
              have HES : Hid (es = [edtOf r]) := Lib.hid (by rw [HJ.out.1, List.take_of_length_le (by omega), HRV.out]; rfl)
              clear hbU
              go_wp2_with fail
              go_quiet (fail)
              clear e0 e1
              have hes := HES.out
              subst hes
              have HJ2 : Hid (VE U (wr.drewN nq) U.heap.size r.chg v1 1 (edtOf r).cells) := Lib.hid (by have := HJ.out.2.under (below_dN (Below.refl wr.heap.size wr) nq); simpa using this)
              clear HJ HES
              generalize wr.drewN nq = wz at HJ2 ⊢
              obtain ⟨A1, c1, hv1⟩ := own_slice HJ2.out.one
              subst hv1
              have hUz := HJ2.out.bel
              have hg11U : g11 < U.heap.size := HI.out.boxM.lt
              have hlk := RMap.look (HI.out.rmap.below hUz) r.chg
              have e1 : wz.cell? ⟨U.heap.size, 0, none⟩ = some (.int .i64 r.chg) := HJ2.out.box.cell 0
              have e4 : wz.cell? ⟨U.heap.size, 4, none⟩ = some (.slice none 0 0) := HJ2.out.box.cell 4
              have f4 : wz.frozen? ⟨U.heap.size, 4, none⟩ = false := HJ2.out.box.frozen 4
              have HC2 : Hid (Blk (wz.setCell ⟨U.heap.size, 4, none⟩ (.slice none 0 0)) U.heap.size 26 [.int .i64 r.chg, .string ⟨#[]⟩, .string ⟨#[]⟩, .slice A1 1 c1, .slice none 0 0]) := Lib.hid (HJ2.out.box.set_ 4 _)
              have HO2 : Hid (Row (wz.setCell ⟨U.heap.size, 4, none⟩ (.slice none 0 0)) 12 (.slice A1 1 c1) 1 (edtOf r).cells) := Lib.hid (Row.of_own (own_setCell HJ2.out.one (p := ⟨U.heap.size, 4, none⟩) HJ2.out.ne1 _))
              have HU2 : Hid (Below U.heap.size U (wz.setCell ⟨U.heap.size, 4, none⟩ (.slice none 0 0))) := Lib.hid (hUz.setCell (p := ⟨U.heap.size, 4, none⟩) (Nat.le_refl _) _)
              clear hUz
              go_upto_region 26 with fail
              clear hlk e1 e4 f4 HJ2
              generalize wz.setCell ⟨U.heap.size, 4, none⟩ (.slice none 0 0) = w2 at HC2 HO2 HU2 ⊢
              have HM2 := Lib.hid (HI.out.boxM.below HU2.out HI.out.boxM.lt)
              obtain ⟨m0, m1, -, -⟩ := box2 HM2.out
              obtain ⟨y0, y1, y2, y3, y4⟩ := box5 HC2.out
              have hc0' := HC0.out
              subst hc0'
              have HAA := Lib.hid (append_any ⟨[], []⟩ ⟨r.chg, ⟨#[]⟩, ⟨#[]⟩, [edtOf r], []⟩ (.slice none 0 0) (.slice none 0 0) (.slice A1 1 c1) (.slice none 0 0) w2 (Revs.nil_ _) (Rcds.nil_ _) (by unfold Edts; simpa using HO2.out) (Rcds.nil_ _) depW_nil HCW.out)
              go_wp2_with fail
              refine HAA.out.mono ?_
              rintro e V2 ⟨hb2, ⟨hn0, rfl⟩ | ⟨h0, dv', dr', rs, rfl, hR', hQ', hpm', hpw', hf1, hf2⟩⟩
              · exact absurd HAP.out hn0
              · clear m0 m1 y0 y1 y2 y3 y4
                have hrs : rs = [] := by simpa using hpm'
                subst hrs
                rw [HNW.out] at hR'
                obtain ⟨A5, c5, rfl, -⟩ := id hR'
                obtain ⟨A6, c6, rfl, -⟩ := id hQ'
                have hR1 : Revs V2 (.slice A5 1 c5) [r] := hR'
                have hQ1 : Rcds V2 (.slice A6 0 c6) [] := hQ'
                have hUV := below_next HU2.out hb2
                have hle2 := HU2.out.size
                have h3a := (HI.out.boxM.below hUV HI.out.boxM.lt).alloc (.cells #[.slice A5 1 c5, .slice A6 0 c6] 31)
                have hUa : Below U.heap.size U (V2.alloc (.cells #[.slice A5 1 c5, .slice A6 0 c6] 31)) := hUV.alloc hUV.size _
                have hx6 := blk_new V2 [.slice A5 1 c5, .slice A6 0 c6] 31
                have hr6 := hR1.below ((Below.refl _ _).alloc (Nat.le_refl _) (.cells #[.slice A5 1 c5, .slice A6 0 c6] 31))
                have hq6 := hQ1.below ((Below.refl _ _).alloc (Nat.le_refl _) (.cells #[.slice A5 1 c5, .slice A6 0 c6] 31))
                have HFR : Hid (Fresh w2.heap.size (.slice A5 1 c5) ∧ Fresh w2.heap.size (.slice A6 0 c6)) := Lib.hid ⟨hf1, hf2⟩
                clear hR' hQ' hR1 hQ1 hpm' hpw' hf1 hf2 hb2 hUV h0
                go_upto_region 27 with fail
                generalize V2.alloc (.cells #[.slice A5 1 c5, .slice A6 0 c6] 31) = V3 at h3a hUa hx6 hr6 hq6 ⊢
                obtain ⟨z0, z1, f0, f1⟩ := box2 h3a
                obtain ⟨w0, w1, -, -⟩ := box2 hx6
                have HUA := Lib.hid hUa
                have H3A := Lib.hid h3a
                have HR6 := Lib.hid hr6
                have HQ6 := Lib.hid hq6
                clear hUa h3a hr6 hq6 hx6
                go_wp2_with fail
                go_roundw
                case rel =>
                  have n1 : (Value.slice A5 1 c5).ownBlock ≠ some g11 := fun e => by have := HFR.out.1 _ e; omega
                  have n2 : (Value.slice A6 0 c6).ownBlock ≠ some g11 := fun e => by have := HFR.out.2 _ e; omega
                  have hbw := below_next HI.out.bel HUA.out
                  refine ⟨j, .slice A5 1 c5, .slice A6 0 c6, rfl, hj, (hbw.setCell (p := ⟨g11, 0, none⟩) (by simp; omega) _).setCell (p := ⟨g11, 1, none⟩) (by simp; omega) _, HI.out.le, ?_, (H3A.out.set_ 0 _).set_ 1 _, ?_, .inr ⟨by have := HLEN.out; omega, Row.setCell_far (Row.setCell_far HR6.out n1) n1, Row.setCell_far (Row.setCell_far HQ6.out n2) n2⟩⟩
                  · exact ((HI.out.boxD.below HUA.out HI.out.boxD.lt).far (p := ⟨g11, 0, none⟩) (by simp; omega) _).far (p := ⟨g11, 1, none⟩) (by simp; omega) _
                  · have hm := HI.out.rmap.below HUA.out
                    have hob := FMap.obj hm
                    have hne : gr ≠ g11 := fun e => by
                      obtain ⟨es', c', ho⟩ := hob
                      have hb := H3A.out
                      unfold Blk at hb
                      rw [← e, ho] at hb
                      cases hb
                    exact FMap.keep (FMap.keep hm (Below.heap_setCell _ _ _ _ hne)) (Below.heap_setCell _ _ _ _ hne)
                case measure => simp [intOf]; have := HLEN.out; have := HK0.out; omega
        · have hkk : k = revs.length := by omega
          have hk0 : k ≠ 0 := by have := HLEN.out; omega
          have hdep : Revs wr mv [r] ∧ Rcds wr mr [] := by
            rcases HI.out.dep with h | h
            · exact absurd h.1 hk0
            · exact h.2
          obtain ⟨A5, c5, rfl, -⟩ := id hdep.1
          obtain ⟨A6, c6, rfl, -⟩ := id hdep.2
          have hRw := HR.out.below HI.out.bel
          have hd1 : Revs wr (.slice A5 1 c5) [r] := hdep.1
          have hd2 : Rcds wr (.slice A6 0 c6) [] := hdep.2
          have hQw : Rcds wr (.slice Aq 0 cq) [] := HQ.out.below HI.out.bel
          have hE1 := equal_rev [r] revs (.slice A5 1 c5) (.slice Ar revs.length cr) wr hd1 hRw
          rw [show decide ([r] = revs) = true by simp [HRV.out]] at hE1
          have HE1 := Lib.hid hE1
          have HE2 := Lib.hid (fun X (hX : Below wr.heap.size wr X) => equal_rcd [] [] (.slice A6 0 c6) (.slice Aq 0 cq) X (hd2.below hX) (hQw.below hX))
          have e0 : wr.cell? ⟨w.heap.size, 0, none⟩ = some (.slice Ar revs.length cr) := HI.out.boxD.cell 0
          have m0 : wr.cell? ⟨g11, 0, none⟩ = some (.slice A5 1 c5) := HI.out.boxM.cell 0
          have dlt : decide (k < revs.length) = false := by simp; omega
          clear hkk hk0 hdep hRw hd1 hd2 hQw hE1
          go_wp2_with fail
          refine HE1.out.mono ?_
          rintro e w7 ⟨rfl, hb7⟩
          have e1 : w7.cell? ⟨w.heap.size, 1, none⟩ = some (.slice Aq 0 cq) := (HI.out.boxD.below hb7 HI.out.boxD.lt).cell 1
          have m1 : w7.cell? ⟨g11, 1, none⟩ = some (.slice A6 0 c6) := (HI.out.boxM.below hb7 HI.out.boxM.lt).cell 1
          have HE3 := Lib.hid (HE2.out w7 hb7)
          have HB7 := Lib.hid hb7
          clear hb7 e0 m0
          go_wp2_with fail
          refine HE3.out.mono ?_
          rintro e w8 ⟨rfl, hb8⟩
          have HB8 := Lib.hid hb8
          clear hb8 e1 m1
          go_wp2_with fail
          go_ret
          exact ⟨rfl, below_next HI.out.bel (below_next HB7.out HB8.out)⟩
end Go.Proofs.YtmhmnchdhacdbaaDoor
/- greatest at At and Last. -/
namespace Go.Proofs.YtmhmnchdhacdbaaDoor
open Go.RowKit
set_option linter.unusedVariables false
set_option linter.unusedSimpArgs false
set_option maxRecDepth 100000 in
set_option maxHeartbeats 1000000 in
theorem last_fn (r : Rev) (w : World) : Calls Tryd.prog 31 #[.agg #[.string r.path, .int .i64 r.num, .int .i64 r.chg, .int .i64 r.act, .int .i64 r.ty.base, .bool r.ty.k, .bool r.ty.l, .bool r.ty.x, .int .u64 r.sum, .int .i64 r.size, .string r.frm, .int .i64 r.fnum]] w fun e w' => e = .returned (.bool ((fun _ : Rev => true) r)) ∧ Below w.heap.size w w' := by
  go_enter Tryd.func31, Tryd.ntmps31
  go_wp2_with fail
  go_ret
  exact ⟨ret_bool (rfl), (Below.refl _ _).alloc (Nat.le_refl _) _⟩

set_option maxRecDepth 100000 in
set_option maxHeartbeats 8000000 in
theorem greatest_last (revs : List Rev) (q : ByteArray) (dv dr : Value) (w : World) (hR : Revs w dv revs) (hl : revs.length ≤ 1000000) :
    Calls Tryd.prog 30 #[.agg #[dv, dr], .string q, .func (.func 31) #[] #[]] w
      fun e w' => e = .returned (.tuple #[.agg #[.string (someR (greatest revs q (fun _ : Rev => true))).path, .int .i64 (someR (greatest revs q (fun _ : Rev => true))).num, .int .i64 (someR (greatest revs q (fun _ : Rev => true))).chg, .int .i64 (someR (greatest revs q (fun _ : Rev => true))).act, .int .i64 (someR (greatest revs q (fun _ : Rev => true))).ty.base, .bool (someR (greatest revs q (fun _ : Rev => true))).ty.k, .bool (someR (greatest revs q (fun _ : Rev => true))).ty.l, .bool (someR (greatest revs q (fun _ : Rev => true))).ty.x, .int .u64 (someR (greatest revs q (fun _ : Rev => true))).sum, .int .i64 (someR (greatest revs q (fun _ : Rev => true))).size, .string (someR (greatest revs q (fun _ : Rev => true))).frm, .int .i64 (someR (greatest revs q (fun _ : Rev => true))).fnum], .bool (greatest revs q (fun _ : Rev => true)).isSome]) ∧ Below w.heap.size w w' := by
  obtain ⟨Ar, cr, rfl, hcr, hmr, -⟩ := id hR
  have HR := Lib.hid hR
  clear hR
  unfold maxLen at hmr
  rw [greatest_eq]
  have HF := Lib.hid (fun (r : Rev) (W : World) (hb : Below w.heap.size w W) => last_fn r W)
  have hb0 : Below w.heap.size w (((w.alloc (.cells #[.slice Ar revs.length cr, dr] 31)).alloc (.cells #[.string ⟨#[]⟩, .int .i64 0, .int .i64 0, .int .i64 0, .int .i64 0, .bool false, .bool false, .bool false, .int .u64 0, .int .i64 0, .string ⟨#[]⟩, .int .i64 0] 45)).alloc (.cells #[.string ⟨#[]⟩, .int .i64 0, .int .i64 0, .int .i64 0, .int .i64 0, .bool false, .bool false, .bool false, .int .u64 0, .int .i64 0, .string ⟨#[]⟩, .int .i64 0] 45)) := (((Below.refl _ _).alloc (Nat.le_refl _) _).alloc (by simp) _).alloc (by simp; omega) _
  generalize (fun _ : Rev => true) = p at HF ⊢
  go_enter Tryd.func30, Tryd.ntmps30
  go_wp2_with fail
  go_loopw [9, 15] (fun o i wr => ∃ (k : Nat), k ≤ revs.length ∧ i = .int .i64 k ∧ Below w.heap.size w wr ∧ o = .bool ((revs.take k).foldl (gStep q p) none).isSome ∧ Blk wr (w.heap.size + 1) 45 [.string ⟨#[]⟩, .int .i64 0, .int .i64 0, .int .i64 0, .int .i64 0, .bool false, .bool false, .bool false, .int .u64 0, .int .i64 0, .string ⟨#[]⟩, .int .i64 0] ∧ Blk wr (w.heap.size + 1 + 1) 45 [.string (someR ((revs.take k).foldl (gStep q p) none)).path, .int .i64 (someR ((revs.take k).foldl (gStep q p) none)).num, .int .i64 (someR ((revs.take k).foldl (gStep q p) none)).chg, .int .i64 (someR ((revs.take k).foldl (gStep q p) none)).act, .int .i64 (someR ((revs.take k).foldl (gStep q p) none)).ty.base, .bool (someR ((revs.take k).foldl (gStep q p) none)).ty.k, .bool (someR ((revs.take k).foldl (gStep q p) none)).ty.l, .bool (someR ((revs.take k).foldl (gStep q p) none)).ty.x, .int .u64 (someR ((revs.take k).foldl (gStep q p) none)).sum, .int .i64 (someR ((revs.take k).foldl (gStep q p) none)).size, .string (someR ((revs.take k).foldl (gStep q p) none)).frm, .int .i64 (someR ((revs.take k).foldl (gStep q p) none)).fnum]) (fun _ i _ => revs.length - (intOf i).toNat)
  case atStart =>
    refine ⟨0, Nat.zero_le _, rfl, hb0, rfl, ?_, ?_⟩
    · have := blk_new (w.alloc (.cells #[.slice Ar revs.length cr, dr] 31)) [.string ⟨#[]⟩, .int .i64 0, .int .i64 0, .int .i64 0, .int .i64 0, .bool false, .bool false, .bool false, .int .u64 0, .int .i64 0, .string ⟨#[]⟩, .int .i64 0] 45
      have := this.alloc (.cells #[.string ⟨#[]⟩, .int .i64 0, .int .i64 0, .int .i64 0, .int .i64 0, .bool false, .bool false, .bool false, .int .u64 0, .int .i64 0, .string ⟨#[]⟩, .int .i64 0] 45)
      simpa using this
    · have := blk_new ((w.alloc (.cells #[.slice Ar revs.length cr, dr] 31)).alloc (.cells #[.string ⟨#[]⟩, .int .i64 0, .int .i64 0, .int .i64 0, .int .i64 0, .bool false, .bool false, .bool false, .int .u64 0, .int .i64 0, .string ⟨#[]⟩, .int .i64 0] 45)) [.string ⟨#[]⟩, .int .i64 0, .int .i64 0, .int .i64 0, .int .i64 0, .bool false, .bool false, .bool false, .int .u64 0, .int .i64 0, .string ⟨#[]⟩, .int .i64 0] 45
      simp only [World.size_alloc] at this
      exact this
  case round =>
    obtain ⟨k, hk, rfl, hbr, rfl, hZ, hF⟩ := hrel
    by_cases hlt : k < revs.length
    · obtain ⟨ad, rfl, hab, hld⟩ := Revs.at_ (HR.out.below hbr) hlt
      have HT := Lib.hid (show revs.take (k + 1) = revs.take k ++ [revs[k]] from List.take_succ_eq_append_getElem hlt)
      have HG : Hid ((revs.take (k + 1)).foldl (gStep q p) none = gStep q p ((revs.take k).foldl (gStep q p) none) revs[k]) := Lib.hid (by rw [HT.out, List.foldl_append]; rfl)
      generalize revs[k] = r at hld HT HG
      generalize (revs.take k).foldl (gStep q p) none = o at hF HG
      obtain ⟨x0, x1, x2, x3, x4, x5, x6, x7, x8, x9, x10, x11⟩ := hld
      have hbx := hbr.alloc hbr.size (.cells #[.string r.path, .int .i64 r.num, .int .i64 r.chg, .int .i64 r.act, .int .i64 r.ty.base, .bool r.ty.k, .bool r.ty.l, .bool r.ty.x, .int .u64 r.sum, .int .i64 r.size, .string r.frm, .int .i64 r.fnum] 45)
      have hZx := hZ.alloc (.cells #[.string r.path, .int .i64 r.num, .int .i64 r.chg, .int .i64 r.act, .int .i64 r.ty.base, .bool r.ty.k, .bool r.ty.l, .bool r.ty.x, .int .u64 r.sum, .int .i64 r.size, .string r.frm, .int .i64 r.fnum] 45)
      have hFx := hF.alloc (.cells #[.string r.path, .int .i64 r.num, .int .i64 r.chg, .int .i64 r.act, .int .i64 r.ty.base, .bool r.ty.k, .bool r.ty.l, .bool r.ty.x, .int .u64 r.sum, .int .i64 r.size, .string r.frm, .int .i64 r.fnum] 45)
      have hX := blk_new wr [.string r.path, .int .i64 r.num, .int .i64 r.chg, .int .i64 r.act, .int .i64 r.ty.base, .bool r.ty.k, .bool r.ty.l, .bool r.ty.x, .int .u64 r.sum, .int .i64 r.size, .string r.frm, .int .i64 r.fnum] 45
      by_cases hp : r.path = q
      · have HC := Lib.hid (HF.out r (wr.alloc (.cells #[.string r.path, .int .i64 r.num, .int .i64 r.chg, .int .i64 r.act, .int .i64 r.ty.base, .bool r.ty.k, .bool r.ty.l, .bool r.ty.x, .int .u64 r.sum, .int .i64 r.size, .string r.frm, .int .i64 r.fnum] 45)) hbx)
        cases hpr : p r
        · rw [hpr] at HC
          have HS : Hid (gStep q p o r = o) := Lib.hid (by unfold gStep; rw [hpr]; simp)
          clear hpr
          subst hp
          go_wp2_with fail
          refine HC.out.mono ?_
          rintro e w2 ⟨rfl, hb2⟩
          go_wp2_with fail
          go_roundw
          case rel => exact ⟨k + 1, by omega, by go_num, below_next hbx hb2, by rw [HG.out, HS.out], hZx.below hb2 hZx.lt, by rw [HG.out, HS.out]; exact hFx.below hb2 hFx.lt⟩
          case measure => simp [intOf]; omega
        · rw [hpr] at HC
          have hnew : ∀ b : Bool, o.isSome = false ∨ (someR o).num < r.num → gStep q p o r = some r := by
            intro b h
            unfold gStep
            rw [if_pos ⟨hp, hpr⟩]
            cases o with
            | none => rfl
            | some x => rcases h with h | h
                        · cases h
                        · exact if_pos h
          have hold : o.isSome = true → ¬ (someR o).num < r.num → gStep q p o r = o := by
            intro h1 h2
            unfold gStep
            rw [if_pos ⟨hp, hpr⟩]
            cases o with
            | none => cases h1
            | some x => exact if_neg h2
          clear hpr
          subst hp
          by_cases hn : o.isSome = false ∨ (someR o).num < r.num
          · have HS := Lib.hid (hnew true hn)
            clear hnew hold
            cases hos : o.isSome
            · clear hn
              go_wp2_with fail
              refine HC.out.mono ?_
              rintro e w2 ⟨rfl, hb2⟩
              have hX2 := hX.below hb2 hX.lt
              have hF2 := hFx.below hb2 hFx.lt
              have hZ2 := hZx.below hb2 hZx.lt
              have hbw2 := below_next hbx hb2
              obtain ⟨c0, c1, c2, c3, c4, c5, c6, c7, c8, c9, c10, c11⟩ := box12 hX2
              obtain ⟨f0, f1, f2, f3, f4, f5, f6, f7, f8, f9, f10, f11⟩ := box12 hF2
              obtain ⟨y0, y1, y2, y3, y4, y5, y6, y7, y8, y9, y10, y11⟩ := frz12 hF2
              clear hb2
              have hF3 := set12 hF2 r
              have hB3 := below12 hbw2 (show w.heap.size ≤ w.heap.size + 1 + 1 by omega) r
              have hZ3 := far12 hZ2 (show w.heap.size + 1 + 1 ≠ w.heap.size + 1 by omega) r
              go_wp2_with fail
              go_roundw
              case rel => exact ⟨k + 1, by omega, by go_num, hB3, by rw [HG.out, HS.out]; rfl, hZ3, by rw [HG.out, HS.out]; exact hF3⟩
              case measure => simp [intOf]; omega
            · have hn2 : (someR o).num < r.num := by rcases hn with h | h; (rw [hos] at h; cases h); exact h
              clear hn
              go_wp2_with fail
              refine HC.out.mono ?_
              rintro e w2 ⟨rfl, hb2⟩
              have hX2 := hX.below hb2 hX.lt
              have hF2 := hFx.below hb2 hFx.lt
              have hZ2 := hZx.below hb2 hZx.lt
              have hbw2 := below_next hbx hb2
              obtain ⟨c0, c1, c2, c3, c4, c5, c6, c7, c8, c9, c10, c11⟩ := box12 hX2
              obtain ⟨f0, f1, f2, f3, f4, f5, f6, f7, f8, f9, f10, f11⟩ := box12 hF2
              obtain ⟨y0, y1, y2, y3, y4, y5, y6, y7, y8, y9, y10, y11⟩ := frz12 hF2
              clear hb2
              have hF3 := set12 hF2 r
              have hB3 := below12 hbw2 (show w.heap.size ≤ w.heap.size + 1 + 1 by omega) r
              have hZ3 := far12 hZ2 (show w.heap.size + 1 + 1 ≠ w.heap.size + 1 by omega) r
              go_wp2_with fail
              go_roundw
              case rel => exact ⟨k + 1, by omega, by go_num, hB3, by rw [HG.out, HS.out]; rfl, hZ3, by rw [HG.out, HS.out]; exact hF3⟩
              case measure => simp [intOf]; omega
          · rw [not_or] at hn
            have hos : o.isSome = true := by
              cases h : o.isSome
              · exact absurd h hn.1
              · rfl
            have hn2 : ¬ (someR o).num < r.num := hn.2
            have HS := Lib.hid (hold hos hn2)
            clear hnew hold hn
            go_wp2_with fail
            refine HC.out.mono ?_
            rintro e w2 ⟨rfl, hb2⟩
            have hX2 := hX.below hb2 hX.lt
            have hF2 := hFx.below hb2 hFx.lt
            have hZ2 := hZx.below hb2 hZx.lt
            have hbw2 := below_next hbx hb2
            obtain ⟨c0, c1, c2, c3, c4, c5, c6, c7, c8, c9, c10, c11⟩ := box12 hX2
            obtain ⟨f0, f1, f2, f3, f4, f5, f6, f7, f8, f9, f10, f11⟩ := box12 hF2
            clear hb2
            go_wp2_with fail
            go_roundw
            case rel => exact ⟨k + 1, by omega, by go_num, hbw2, by rw [HG.out, HS.out, hos], hZ2, by rw [HG.out, HS.out]; exact hF2⟩
            case measure => simp [intOf]; omega
      · have HS : Hid (gStep q p o r = o) := Lib.hid (by unfold gStep; rw [if_neg (fun h => hp h.1)])
        have sq := str_eqB r.path q
        rw [show decide (r.path = q) = false by simpa using hp] at sq
        clear hp
        go_wp2_with fail
        go_roundw
        case rel => exact ⟨k + 1, by omega, by go_num, hbx, by rw [HG.out, HS.out], hZx, by rw [HG.out, HS.out]; exact hFx⟩
        case measure => simp [intOf]; omega
    · rw [List.take_of_length_le (by omega)] at hF ⊢
      obtain ⟨o, ho⟩ : ∃ o, revs.foldl (gStep q p) none = o := ⟨_, rfl⟩
      rw [ho] at hF ⊢
      obtain ⟨r, hr⟩ : ∃ r, someR o = r := ⟨_, rfl⟩
      rw [hr] at hF
      have HO := Lib.hid ho
      have HR2 := Lib.hid hr
      clear ho hr
      obtain ⟨f0, f1, f2, f3, f4, f5, f6, f7, f8, f9, f10, f11⟩ := box12 hF
      obtain ⟨z0, z1, z2, z3, z4, z5, z6, z7, z8, z9, z10, z11⟩ := box12 hZ
      obtain ⟨y0, y1, y2, y3, y4, y5, y6, y7, y8, y9, y10, y11⟩ := frz12 hZ
      go_wp2_with fail
      have hZ3 := set12 hZ r
      have hB3 := below12 hbr (show w.heap.size ≤ w.heap.size + 1 by omega) r
      generalize ((((((((((((wr.setCell ⟨w.heap.size + 1, 0, none⟩ (.string r.path)).setCell ⟨w.heap.size + 1, 1, none⟩ (.int .i64 r.num)).setCell ⟨w.heap.size + 1, 2, none⟩ (.int .i64 r.chg)).setCell ⟨w.heap.size + 1, 3, none⟩ (.int .i64 r.act)).setCell ⟨w.heap.size + 1, 4, none⟩ (.int .i64 r.ty.base)).setCell ⟨w.heap.size + 1, 5, none⟩ (.bool r.ty.k)).setCell ⟨w.heap.size + 1, 6, none⟩ (.bool r.ty.l)).setCell ⟨w.heap.size + 1, 7, none⟩ (.bool r.ty.x)).setCell ⟨w.heap.size + 1, 8, none⟩ (.int .u64 r.sum)).setCell ⟨w.heap.size + 1, 9, none⟩ (.int .i64 r.size)).setCell ⟨w.heap.size + 1, 10, none⟩ (.string r.frm)).setCell ⟨w.heap.size + 1, 11, none⟩ (.int .i64 r.fnum)) = W3 at hZ3 hB3 ⊢
      obtain ⟨e0, e1, e2, e3, e4, e5, e6, e7, e8, e9, e10, e11⟩ := box12 hZ3
      exact bodyPost_ret (v := .tuple #[.agg #[.string r.path, .int .i64 r.num, .int .i64 r.chg, .int .i64 r.act, .int .i64 r.ty.base, .bool r.ty.k, .bool r.ty.l, .bool r.ty.x, .int .u64 r.sum, .int .i64 r.size, .string r.frm, .int .i64 r.fnum], .bool o.isSome]) (by simp [results, Tryd.results30, go_sem, e0, e1, e2, e3, e4, e5, e6, e7, e8, e9, e10, e11]) rfl ⟨by rw [HO.out, HR2.out], hB3⟩
end Go.Proofs.YtmhmnchdhacdbaaDoor
/- At, Last. -/
namespace Go.Proofs.YtmhmnchdhacdbaaDoor
open Go.RowKit
set_option linter.unusedVariables false
set_option linter.unusedSimpArgs false
set_option maxRecDepth 100000 in
set_option maxHeartbeats 4000000 in
theorem last_any (revs : List Rev) (q : ByteArray) (dv dr : Value) (w : World) (hR : Revs w dv revs) (hl : revs.length ≤ 1000000) :
    Calls Tryd.prog 15 #[.agg #[dv, dr], .string q] w
      fun e w' => e = .returned (.tuple #[.agg #[.string (someR (greatest revs q (fun _ : Rev => true))).path, .int .i64 (someR (greatest revs q (fun _ : Rev => true))).num, .int .i64 (someR (greatest revs q (fun _ : Rev => true))).chg, .int .i64 (someR (greatest revs q (fun _ : Rev => true))).act, .int .i64 (someR (greatest revs q (fun _ : Rev => true))).ty.base, .bool (someR (greatest revs q (fun _ : Rev => true))).ty.k, .bool (someR (greatest revs q (fun _ : Rev => true))).ty.l, .bool (someR (greatest revs q (fun _ : Rev => true))).ty.x, .int .u64 (someR (greatest revs q (fun _ : Rev => true))).sum, .int .i64 (someR (greatest revs q (fun _ : Rev => true))).size, .string (someR (greatest revs q (fun _ : Rev => true))).frm, .int .i64 (someR (greatest revs q (fun _ : Rev => true))).fnum], .bool (greatest revs q (fun _ : Rev => true)).isSome]) ∧ Below w.heap.size w w' := by
  have HR := Lib.hid hR
  obtain ⟨Ar, cr, rfl, -⟩ := hR
  obtain ⟨dv, hdv⟩ : ∃ v, Value.slice Ar revs.length cr = v := ⟨_, rfl⟩
  have hb0 : Below w.heap.size w ((w.alloc (.cells #[(.slice Ar revs.length cr), dr] 31)).alloc (.cells #[.string ⟨#[]⟩, .int .i64 0, .int .i64 0, .int .i64 0, .int .i64 0, .bool false, .bool false, .bool false, .int .u64 0, .int .i64 0, .string ⟨#[]⟩, .int .i64 0] 45)) := (((Below.refl _ _).alloc (Nat.le_refl _) _).alloc (by simp) _)
  have hZ : Blk ((w.alloc (.cells #[(.slice Ar revs.length cr), dr] 31)).alloc (.cells #[.string ⟨#[]⟩, .int .i64 0, .int .i64 0, .int .i64 0, .int .i64 0, .bool false, .bool false, .bool false, .int .u64 0, .int .i64 0, .string ⟨#[]⟩, .int .i64 0] 45)) (w.heap.size + 1) 45 [.string ⟨#[]⟩, .int .i64 0, .int .i64 0, .int .i64 0, .int .i64 0, .bool false, .bool false, .bool false, .int .u64 0, .int .i64 0, .string ⟨#[]⟩, .int .i64 0] := by
    have h1 := blk_new (w.alloc (.cells #[(.slice Ar revs.length cr), dr] 31)) [.string ⟨#[]⟩, .int .i64 0, .int .i64 0, .int .i64 0, .int .i64 0, .bool false, .bool false, .bool false, .int .u64 0, .int .i64 0, .string ⟨#[]⟩, .int .i64 0] 45
    simp only [World.size_alloc] at h1
    exact h1
  have HC := Lib.hid (greatest_last revs q (.slice Ar revs.length cr) dr _ (HR.out.below hb0) hl)
  clear hdv dv
  generalize greatest revs q (fun _ : Rev => true) = o at HC ⊢
  generalize someR o = r at HC ⊢
  go_enter Tryd.func15, Tryd.ntmps15
  go_wp2_with fail
  refine HC.out.mono ?_
  rintro e w1 ⟨rfl, hb1⟩
  have hZ1 := hZ.below hb1 hZ.lt
  have hbw1 := below_next hb0 hb1
  obtain ⟨z0, z1, z2, z3, z4, z5, z6, z7, z8, z9, z10, z11⟩ := box12 hZ1
  obtain ⟨y0, y1, y2, y3, y4, y5, y6, y7, y8, y9, y10, y11⟩ := frz12 hZ1
  clear hb1
  go_wp2_with fail
  have hZ3 := set12 hZ1 r
  have hB3 := below12 hbw1 (show w.heap.size ≤ w.heap.size + 1 by omega) r
  generalize ((((((((((((w1.setCell ⟨w.heap.size + 1, 0, none⟩ (.string r.path)).setCell ⟨w.heap.size + 1, 1, none⟩ (.int .i64 r.num)).setCell ⟨w.heap.size + 1, 2, none⟩ (.int .i64 r.chg)).setCell ⟨w.heap.size + 1, 3, none⟩ (.int .i64 r.act)).setCell ⟨w.heap.size + 1, 4, none⟩ (.int .i64 r.ty.base)).setCell ⟨w.heap.size + 1, 5, none⟩ (.bool r.ty.k)).setCell ⟨w.heap.size + 1, 6, none⟩ (.bool r.ty.l)).setCell ⟨w.heap.size + 1, 7, none⟩ (.bool r.ty.x)).setCell ⟨w.heap.size + 1, 8, none⟩ (.int .u64 r.sum)).setCell ⟨w.heap.size + 1, 9, none⟩ (.int .i64 r.size)).setCell ⟨w.heap.size + 1, 10, none⟩ (.string r.frm)).setCell ⟨w.heap.size + 1, 11, none⟩ (.int .i64 r.fnum)) = W3 at hZ3 hB3 ⊢
  obtain ⟨e0, e1, e2, e3, e4, e5, e6, e7, e8, e9, e10, e11⟩ := box12 hZ3
  exact bodyPost_ret (v := .tuple #[.agg #[.string r.path, .int .i64 r.num, .int .i64 r.chg, .int .i64 r.act, .int .i64 r.ty.base, .bool r.ty.k, .bool r.ty.l, .bool r.ty.x, .int .u64 r.sum, .int .i64 r.size, .string r.frm, .int .i64 r.fnum], .bool o.isSome]) (by simp [results, Tryd.results15, go_sem, e0, e1, e2, e3, e4, e5, e6, e7, e8, e9, e10, e11]) rfl ⟨rfl, hB3⟩
end Go.Proofs.YtmhmnchdhacdbaaDoor
/- The reference's Same: the walk. -/
namespace Go.Proofs.YtmhmnchdhacdbaaDoor
open Go.RowKit
set_option linter.unusedVariables false
set_option linter.unusedSimpArgs false

def sameD (a b : Dep) : Bool := decide (a.revs = b.revs) && decide (a.recs = b.recs)
theorem same_no1 {a b : Dep} (h : a.revs ≠ b.revs) : sameD a b = false := by unfold sameD; rw [decide_eq_false h]; rfl
theorem same_no2 {a b : Dep} (h : a.recs ≠ b.recs) : sameD a b = false := by unfold sameD; rw [decide_eq_false h]; simp
theorem same_yes {a b : Dep} (h1 : a.revs = b.revs) (h2 : a.recs = b.recs) : sameD a b = true := by unfold sameD; rw [decide_eq_true h1, decide_eq_true h2]; rfl
set_option maxRecDepth 100000 in
set_option maxHeartbeats 8000000 in
theorem refSame_any (a b : Dep) (av ar bv br : Value) (w : World) (h1 : Revs w av a.revs) (h2 : Rcds w ar a.recs) (h3 : Revs w bv b.revs) (h4 : Rcds w br b.recs) :
    Calls Tryd.prog 12 #[.agg #[av, ar], .agg #[bv, br]] w fun e w' => e = .returned (.bool (sameD a b)) ∧ Below w.heap.size w w' := by
  obtain ⟨A1, c1, rfl, hc1, hm1, -⟩ := id h1
  obtain ⟨A2, c2, rfl, hc2, hm2, -⟩ := id h2
  obtain ⟨A3, c3, rfl, hc3, hm3, -⟩ := id h3
  obtain ⟨A4, c4, rfl, hc4, hm4, -⟩ := id h4
  unfold maxLen at hm1 hm2 hm3 hm4
  have H1 := Lib.hid h1
  have H2 := Lib.hid h2
  have H3 := Lib.hid h3
  have H4 := Lib.hid h4
  clear h1 h2 h3 h4
  have hb0 : Below w.heap.size w ((w.alloc (.cells #[.slice A1 a.revs.length c1, .slice A2 a.recs.length c2] 31)).alloc (.cells #[.slice A3 b.revs.length c3, .slice A4 b.recs.length c4] 31)) := ((Below.refl _ _).alloc (Nat.le_refl _) _).alloc (by simp) _
  have hD1 : Blk ((w.alloc (.cells #[.slice A1 a.revs.length c1, .slice A2 a.recs.length c2] 31)).alloc (.cells #[.slice A3 b.revs.length c3, .slice A4 b.recs.length c4] 31)) w.heap.size 31 [.slice A1 a.revs.length c1, .slice A2 a.recs.length c2] := (blk_new w _ _).alloc _
  have hD2 : Blk ((w.alloc (.cells #[.slice A1 a.revs.length c1, .slice A2 a.recs.length c2] 31)).alloc (.cells #[.slice A3 b.revs.length c3, .slice A4 b.recs.length c4] 31)) (w.heap.size + 1) 31 [.slice A3 b.revs.length c3, .slice A4 b.recs.length c4] := by
    have h := blk_new (w.alloc (.cells #[.slice A1 a.revs.length c1, .slice A2 a.recs.length c2] 31)) [.slice A3 b.revs.length c3, .slice A4 b.recs.length c4] 31
    simp only [World.size_alloc] at h
    exact h
  go_enter Tryd.func12, Tryd.ntmps12
  go_upto_region 1 with fail
  generalize (w.alloc (.cells #[.slice A1 a.revs.length c1, .slice A2 a.recs.length c2] 31)).alloc (.cells #[.slice A3 b.revs.length c3, .slice A4 b.recs.length c4] 31) = W1 at hb0 hD1 hD2 ⊢
  have Hb0 := Lib.hid hb0
  have HD1 := Lib.hid hD1
  have HD2 := Lib.hid hD2
  obtain ⟨d0, d1, -, -⟩ := box2 hD1
  obtain ⟨e0, e1, -, -⟩ := box2 hD2
  clear hb0 hD1 hD2
  by_cases hl1 : a.revs.length = b.revs.length
  case neg =>
    have q : ((a.revs.length : Int) != (b.revs.length : Int)) = true := by rw [bne_iff_ne]; omega
    have HF := Lib.hid (same_no1 (a := a) (b := b) (fun e => hl1 (by rw [e])))
    clear hl1
    go_wp2_with fail
    go_ret
    exact ⟨ret_bool HF.out.symm, Hb0.out⟩
  have q1 : ((a.revs.length : Int) != (b.revs.length : Int)) = false := by rw [bne_eq_false_iff_eq]; omega
  have HL1 := Lib.hid hl1
  clear hl1
  by_cases hl2 : a.recs.length = b.recs.length
  case neg =>
    have q : ((a.recs.length : Int) != (b.recs.length : Int)) = true := by rw [bne_iff_ne]; omega
    have HF := Lib.hid (same_no2 (a := a) (b := b) (fun e => hl2 (by rw [e])))
    clear hl2
    go_wp2_with fail
    go_ret
    exact ⟨ret_bool HF.out.symm, Hb0.out⟩
  have q2 : ((a.recs.length : Int) != (b.recs.length : Int)) = false := by rw [bne_eq_false_iff_eq]; omega
  have HL2 := Lib.hid hl2
  clear hl2
  go_wp2_with fail
  clear q1 q2 d0 d1 e0 e1
  go_loopw [28] (fun s wr => ∃ k : Nat, s = .int .i64 k ∧ k ≤ a.revs.length ∧ Hid (a.revs.take k = b.revs.take k ∧ Below W1.heap.size W1 wr)) (fun s _ => a.revs.length - (intOf s).toNat)
  case atStart => exact ⟨0, rfl, Nat.zero_le _, by simp, Below.refl _ _⟩
  case round =>
    obtain ⟨k, rfl, hk, HI⟩ := hrel
    by_cases hlt : k < a.revs.length
    · have hlt2 : k < b.revs.length := by have := HL1.out; omega
      have hz1 : (k : Int) < (a.revs.length : Int) := by omega
      have hz2 : (k : Int) < (b.revs.length : Int) := by omega
      have hbw := below_next Hb0.out HI.out.2
      obtain ⟨a1, rfl, hb1, hx⟩ := Revs.at_ (H1.out.below hbw) hlt
      have HST := Lib.hid (fun h => take_eq_step hlt hlt2 HI.out.1 h)
      have HNE : Hid (a.revs[k] ≠ b.revs[k] → a.revs ≠ b.revs) := Lib.hid fun h e => h (by simp only [e])
      have HY := Lib.hid (fun X (hX : Below w.heap.size w X) => Revs.at_ (H3.out.below hX) hlt2)
      generalize a.revs[k] = x at hx HST HNE
      generalize b.revs[k] = y at HY HST HNE
      obtain ⟨x0, x1, x2, x3, x4, x5, x6, x7, x8, x9, x10, x11⟩ := hx
      have hX := blk_new wr [.string x.path, .int .i64 x.num, .int .i64 x.chg, .int .i64 x.act, .int .i64 x.ty.base, .bool x.ty.k, .bool x.ty.l, .bool x.ty.x, .int .u64 x.sum, .int .i64 x.size, .string x.frm, .int .i64 x.fnum] 45
      have hA1 := HI.out.2.alloc HI.out.2.size (.cells #[.string x.path, .int .i64 x.num, .int .i64 x.chg, .int .i64 x.act, .int .i64 x.ty.base, .bool x.ty.k, .bool x.ty.l, .bool x.ty.x, .int .u64 x.sum, .int .i64 x.size, .string x.frm, .int .i64 x.fnum] 45)
      clear hbw
      go_upto_region 6 with fail
      clear x0 x1 x2 x3 x4 x5 x6 x7 x8 x9 x10 x11
      generalize wr.alloc (.cells #[.string x.path, .int .i64 x.num, .int .i64 x.chg, .int .i64 x.act, .int .i64 x.ty.base, .bool x.ty.k, .bool x.ty.l, .bool x.ty.x, .int .u64 x.sum, .int .i64 x.size, .string x.frm, .int .i64 x.fnum] 45) = V1 at hX hA1 ⊢
      generalize wr.heap.size = g6 at hX ⊢
      obtain ⟨x0, x1, x2, x3, x4, x5, x6, x7, x8, x9, x10, x11⟩ := box12 hX
      obtain ⟨a3, rfl, hb3, hy⟩ := HY.out V1 (below_next Hb0.out hA1)
      obtain ⟨y0, y1, y2, y3, y4, y5, y6, y7, y8, y9, y10, y11⟩ := hy
      obtain ⟨e0, e1, -, -⟩ := box2 (HD2.out.below hA1 HD2.out.lt)
      have HA1 := Lib.hid hA1
      have hne := run_neq_rev x y
      clear hX hA1 HY
      by_cases e : x = y
      · have hd : (!decide (x = y)) = false := by simp [e]
        rw [hd] at hne
        have HE := Lib.hid (HST.out e)
        clear hd e
        go_quiet (fail)
        clear x0 x1 x2 x3 x4 x5 x6 x7 x8 x9 x10 x11 y0 y1 y2 y3 y4 y5 y6 y7 y8 y9 y10 y11 hne e0 e1
        go_wp2_with fail
        go_roundw
        case rel => exact ⟨k + 1, by go_num, by omega, HE.out, below_dN HA1.out _⟩
        case measure => simp [intOf]; omega
      · have hd : (!decide (x = y)) = true := by simp [e]
        rw [hd] at hne
        have HF := Lib.hid (same_no1 (a := a) (b := b) (HNE.out e))
        clear hd e
        go_quiet (fail)
        clear x0 x1 x2 x3 x4 x5 x6 x7 x8 x9 x10 x11 y0 y1 y2 y3 y4 y5 y6 y7 y8 y9 y10 y11 hne e0 e1
        go_wp2_with fail
        go_ret
        exact ⟨ret_bool HF.out.symm, below_next Hb0.out (below_dN HA1.out _)⟩
    · have HE1 : Hid (a.revs = b.revs) := Lib.hid (take_eq_all HL1.out (by omega) HI.out.1)
      have HBW := Lib.hid HI.out.2
      obtain ⟨d0, d1, -, -⟩ := box2 (HD1.out.below HI.out.2 HD1.out.lt)
      clear HI
      go_wp2_with fail
      clear d0 d1
      generalize wr = W2 at HBW ⊢
      go_loopw [44] (fun s wr => ∃ k : Nat, s = .int .i64 k ∧ k ≤ a.recs.length ∧ Hid (a.recs.take k = b.recs.take k ∧ Below W2.heap.size W2 wr)) (fun s _ => a.recs.length - (intOf s).toNat)
      case atStart => exact ⟨0, rfl, Nat.zero_le _, by simp, Below.refl _ _⟩
      case round =>
        obtain ⟨j, rfl, hj, HI⟩ := hrel
        by_cases hjl : j < a.recs.length
        · have hlt2 : j < b.recs.length := by have := HL2.out; omega
          have hz1 : (j : Int) < (a.recs.length : Int) := by omega
          have hz2 : (j : Int) < (b.recs.length : Int) := by omega
          have hbw := below_next Hb0.out (below_next HBW.out HI.out.2)
          obtain ⟨a1, rfl, hb1, hx⟩ := Rcds.at_ (H2.out.below hbw) hjl
          have HST := Lib.hid (fun h => take_eq_step hjl hlt2 HI.out.1 h)
          have HNE : Hid (a.recs[j] ≠ b.recs[j] → a.recs ≠ b.recs) := Lib.hid fun h e => h (by simp only [e])
          have HY := Lib.hid (fun X (hX : Below w.heap.size w X) => Rcds.at_ (H4.out.below hX) hlt2)
          generalize a.recs[j] = x at hx HST HNE
          generalize b.recs[j] = y at HY HST HNE
          obtain ⟨x0, x1, x2, x3, x4, x5⟩ := hx
          have hX := blk_new wr [.string x.frm, .int .i64 x.first, .int .i64 x.last, .string x.to, .int .i64 x.num, .int .i64 x.how] 50
          have hA1 := HI.out.2.alloc HI.out.2.size (.cells #[.string x.frm, .int .i64 x.first, .int .i64 x.last, .string x.to, .int .i64 x.num, .int .i64 x.how] 50)
          clear hbw
          go_upto_region 12 with fail
          clear x0 x1 x2 x3 x4 x5
          generalize wr.alloc (.cells #[.string x.frm, .int .i64 x.first, .int .i64 x.last, .string x.to, .int .i64 x.num, .int .i64 x.how] 50) = V1 at hX hA1 ⊢
          generalize wr.heap.size = g6 at hX ⊢
          obtain ⟨x0, x1, x2, x3, x4, x5⟩ := box6 hX
          obtain ⟨a3, rfl, hb3, hy⟩ := HY.out V1 (below_next Hb0.out (below_next HBW.out hA1))
          obtain ⟨y0, y1, y2, y3, y4, y5⟩ := hy
          obtain ⟨e0, e1, -, -⟩ := box2 (HD2.out.below (below_next HBW.out hA1) HD2.out.lt)
          have HA1 := Lib.hid hA1
          have hne := run_neq_rcd x y
          clear hX hA1 HY
          by_cases e : x = y
          · have hd : (!decide (x = y)) = false := by simp [e]
            rw [hd] at hne
            have HE := Lib.hid (HST.out e)
            clear hd e
            go_quiet (fail)
            clear x0 x1 x2 x3 x4 x5 y0 y1 y2 y3 y4 y5 hne e0 e1
            go_wp2_with fail
            go_roundw
            case rel => exact ⟨j + 1, by go_num, by omega, HE.out, below_dN HA1.out _⟩
            case measure => simp [intOf]; omega
          · have hd : (!decide (x = y)) = true := by simp [e]
            rw [hd] at hne
            have HF := Lib.hid (same_no2 (a := a) (b := b) (HNE.out e))
            clear hd e
            go_quiet (fail)
            clear x0 x1 x2 x3 x4 x5 y0 y1 y2 y3 y4 y5 hne e0 e1
            go_wp2_with fail
            go_ret
            exact ⟨ret_bool HF.out.symm, below_next Hb0.out (below_next HBW.out (below_dN HA1.out _))⟩
        · have HF : Hid (sameD a b = true) := Lib.hid (same_yes HE1.out (take_eq_all HL2.out (by omega) HI.out.1))
          go_wp2_with fail
          go_ret
          exact ⟨ret_bool HF.out.symm, below_next Hb0.out (below_next HBW.out HI.out.2)⟩
end Go.Proofs.YtmhmnchdhacdbaaDoor
