/- The reference's Changes: its regions. -/
import Derived.Test.YtnblfaagchflaaaDoorMgw13
import Derived.Test.YtnblfaagchflaaaDoorMgw15
import Derived.Test.YtnblfaagchflaaaDoorMgw22
import Derived.Test.YtnblfaagchflaaaDoorMgw18
import Derived.Deep.RegionHeld3
namespace Go.Proofs.YtnblfaagchflaaaDoor
open Go.RowKit
set_option linter.unusedVariables false
set_option linter.unusedSimpArgs false

theorem own_at {w : World} {base : Nat} {e : TypeId} {size n c g j : Nat} {xs : List Value} {u : Value} (h : w.ownsRow base e size (.slice (some ⟨g, 0, none⟩) n c) n xs) (hj : xs[j]? = some u) : w.cell? ⟨g, j, none⟩ = some u ∧ w.frozen? ⟨g, j, none⟩ = false := by
  obtain ⟨h1, h2 | ⟨g', cap, cur, e1, h3, h4, h5, h6, h7, h8⟩⟩ := h
  · cases h2.1
  · injection e1 with e1 _ e3
    injection e1 with e1
    injection e1 with e1
    subst e1 e3
    refine ⟨?_, by simp [World.frozen?, h4]⟩
    rw [cell_of_row w g j cur e (0, 0) h4, ← hj, ← h8]
    have hlt : j < n * size := by rw [← h1]; exact (List.getElem?_eq_some_iff.1 hj).1
    rw [List.getElem?_take_of_lt hlt, Array.getElem?_toList]
theorem cells_at {Q : List ChV} {c : Chg} {ev rv : Value} : ((Q ++ [(c, ev, rv)]).flatMap ChV.cells)[Q.length * 5]? = some (.int .i64 c.num) ∧ ((Q ++ [(c, ev, rv)]).flatMap ChV.cells)[Q.length * 5 + 3]? = some ev ∧ ((Q ++ [(c, ev, rv)]).flatMap ChV.cells)[Q.length * 5 + 4]? = some rv := by
  have hl : (Q.flatMap ChV.cells).length = Q.length * 5 := by
    induction Q with
    | nil => rfl
    | cons q Q ih => rw [List.flatMap_cons, List.length_append, ih, List.length_cons]; simp only [ChV.cells, List.length_cons, List.length_nil]; omega
  rw [List.flatMap_append]
  refine ⟨?_, ?_, ?_⟩
  · rw [List.getElem?_append_right (by omega), hl, Nat.sub_self]; rfl
  · rw [List.getElem?_append_right (by omega), hl, Nat.add_sub_cancel_left]; rfl
  · rw [List.getElem?_append_right (by omega), hl, Nat.add_sub_cancel_left]; rfl
/-- One cell of the last change has grown: what is left alone. -/
def CgStep (V1 w' : World) (g off : Nat) (old new : Value) : Prop := ∃ X w6, Below V1.heap.size V1 X ∧ X.grownBy w6 old.ownBlock ∧ (new.ownBlock = old.ownBlock ∨ new.ownBlock = some X.heap.size) ∧ w' = w6.setCell ⟨g, off, none⟩ new
theorem CgStep.below {w0 V1 w' : World} {g off : Nat} {old new : Value} (h : CgStep V1 w' g off old new) (hb : Below w0.heap.size w0 V1) (ho : ∀ k, old.ownBlock = some k → w0.heap.size ≤ k) (hg : w0.heap.size ≤ g) : Below w0.heap.size w0 w' := by
  obtain ⟨X, w6, hX, hG, hw, rfl⟩ := h
  exact ((below_next hb hX).grown hG (below_next hb hX).size ho).setCell (p := ⟨g, off, none⟩) hg new
theorem CgStep.blk {V1 w' : World} {g off : Nat} {old new : Value} {g5 : Nat} {t : TypeId} {cs : List Value} (h : CgStep V1 w' g off old new) (hB : Blk V1 g5 t cs) (h1 : old.ownBlock ≠ some g5) (h2 : g ≠ g5) : Blk w' g5 t cs := by
  obtain ⟨X, w6, hX, hG, hw, rfl⟩ := h
  exact ((hB.below hX hB.lt).grown hG (fun e => h1 e.symm)).far (p := ⟨g, off, none⟩) h2 new
theorem CgStep.ne {V1 w' : World} {g off : Nat} {old new : Value} {g5 : Nat} (h : CgStep V1 w' g off old new) (hlt : g5 < V1.heap.size) (h1 : old.ownBlock ≠ some g5) : new.ownBlock ≠ some g5 := by
  obtain ⟨X, w6, hX, hG, hw, rfl⟩ := h
  rcases hw with hw | hw
  · rw [hw]; exact h1
  · rw [hw]; intro e; injection e with e; have := hX.size; omega
set_option maxRecDepth 100000 in
set_option maxHeartbeats 8000000 in
theorem cgR8 (ops : Array Oper) (hops : Tryd.f12.body.bind (regAt 8) = some ops) (Q_ : Exit → Act → World → Prop) (base g c g5 : Nat) (Q : List ChV) (ch : Chg) (ev rv : Value) (r : Rev) (V1 : World)
    (h : ChO V1 base (.slice (some ⟨g, 0, none⟩) (Q.length + 1) c) Q (ch, ev, rv)) (hb : base ≤ V1.heap.size) (hB : Blk V1 g5 33 [.string r.path, .int .i64 r.num, .int .i64 r.chg, .int .i64 r.act, .int .i64 r.ty.base, .bool r.ty.k, .bool r.ty.l, .bool r.ty.x, .int .u64 r.sum, .int .i64 r.size, .string r.frm, .int .i64 r.fnum]) (hne : ev.ownBlock ≠ some g5) (hgg : g ≠ g5) (hl : ch.edits.length ≤ 1000)
    (u0 u1 u2 u3 u4 u7 u8 u9 u10 u11 u12 u13 u14 u15 u16 u17 u18 u19 u20 u21 u22 u23 u24 u25 u26 u27 u28 u29 u30 u31 u32 u33 u34 u35 u36 u37 u38 u39 u40 u41 u42 u43 u44 u45 u46 u47 u48 u49 u50 u51 u52 u53 u54 u55 u56 u57 u58 u59 u60 u61 u62 u63 u64 u65 u66 u67 u68 u69 u70 u71 u72 u73 u74 u75 u76 u77 u78 u79 u80 u81 u82 u83 u84 u85 u86 u87 u88 u89 u90 u91 u92 u93 u94 u95 u96 u97 u98 : Value)
    (hQ : ∀ (t42 t43 t44 t45 t46 t47 t48 t49 t50 t51 t52 t53 t54 t55 t56 t57 t58 t59 t60 t61 t62 t63 t64 t65 t66 : Value) (ev' : Value) (w' : World), Hid (ChO w' base (.slice (some ⟨g, 0, none⟩) (Q.length + 1) c) Q ({ ch with edits := ch.edits ++ [edtW r] }, ev', rv) ∧ CgStep V1 w' g (Q.length * 5 + 3) ev ev') → Q_ .normal ⟨#[u0, u1, u2, u3, u4, .pointer (some ⟨g5, 0, none⟩), .pointer (some ⟨g, Q.length * 5, none⟩), u7, u8, u9, u10, u11, u12, u13, u14, u15, u16, u17, u18, u19, u20, u21, u22, u23, u24, u25, u26, u27, u28, u29, u30, u31, u32, u33, u34, u35, u36, u37, u38, u39, u40, u41, t42, t43, t44, t45, t46, t47, t48, t49, t50, t51, t52, t53, t54, t55, t56, t57, t58, t59, t60, t61, t62, t63, t64, t65, t66, u67, u68, u69, u70, u71, u72, u73, u74, u75, u76, u77, u78, u79, u80, u81, u82, u83, u84, u85, u86, u87, u88, u89, u90, u91, u92, u93, u94, u95, u96, u97, u98], []⟩ w') :
    (Code.region 8 ops true).wp Tryd.prog Q_ ⟨#[u0, u1, u2, u3, u4, .pointer (some ⟨g5, 0, none⟩), .pointer (some ⟨g, Q.length * 5, none⟩), u7, u8, u9, u10, u11, u12, u13, u14, u15, u16, u17, u18, u19, u20, u21, u22, u23, u24, u25, u26, u27, u28, u29, u30, u31, u32, u33, u34, u35, u36, u37, u38, u39, u40, u41, u42, u43, u44, u45, u46, u47, u48, u49, u50, u51, u52, u53, u54, u55, u56, u57, u58, u59, u60, u61, u62, u63, u64, u65, u66, u67, u68, u69, u70, u71, u72, u73, u74, u75, u76, u77, u78, u79, u80, u81, u82, u83, u84, u85, u86, u87, u88, u89, u90, u91, u92, u93, u94, u95, u96, u97, u98], []⟩ V1 := by
  simp only [Tryd.f12, Option.bind_some, regAt] at hops
  simp at hops
  subst hops
  obtain ⟨A1, c1, hev⟩ := own_slice (h.rows _ (List.mem_append_right _ (List.mem_cons_self ..))).1
  dsimp only at hev
  subst hev
  have HQ := Lib.hid hQ
  have HO := Lib.hid h
  have HB := Lib.hid hB
  have HCC : Hid (∀ w', Below V1.heap.size V1 w' → w'.cell? ⟨g, Q.length * 5 + 3, none⟩ = some (.slice A1 ch.edits.length c1) ∧ w'.cell? ⟨g5, 0, none⟩ = some (.string r.path) ∧ w'.cell? ⟨g5, 1, none⟩ = some (.int .i64 r.num) ∧ w'.cell? ⟨g5, 3, none⟩ = some (.int .i64 r.act) ∧ w'.cell? ⟨g5, 4, none⟩ = some (.int .i64 r.ty.base) ∧ w'.cell? ⟨g5, 5, none⟩ = some (.bool r.ty.k) ∧ w'.cell? ⟨g5, 6, none⟩ = some (.bool r.ty.l) ∧ w'.cell? ⟨g5, 7, none⟩ = some (.bool r.ty.x) ∧ w'.cell? ⟨g5, 8, none⟩ = some (.int .u64 r.sum) ∧ w'.cell? ⟨g5, 9, none⟩ = some (.int .i64 r.size) ∧ w'.cell? ⟨g5, 10, none⟩ = some (.string r.frm) ∧ w'.cell? ⟨g5, 11, none⟩ = some (.int .i64 r.fnum)) := Lib.hid fun w' hb => by
    obtain ⟨a0, a1, a2, a3, a4, a5, a6, a7, a8, a9, a10, a11⟩ := box12 (HB.out.below hb HB.out.lt)
    exact ⟨(own_at (HO.out.below hb).own cells_at.2.1).1, a0, a1, a3, a4, a5, a6, a7, a8, a9, a10, a11⟩
  have HC6 : Hid (∀ X w', Below V1.heap.size V1 X → X.grownBy w' (Value.slice A1 ch.edits.length c1).ownBlock → (w'.cell? ⟨g, Q.length * 5 + 3, none⟩ = some (.slice A1 ch.edits.length c1) ∧ w'.cell? ⟨g5, 0, none⟩ = some (.string r.path) ∧ w'.cell? ⟨g5, 1, none⟩ = some (.int .i64 r.num) ∧ w'.cell? ⟨g5, 3, none⟩ = some (.int .i64 r.act) ∧ w'.cell? ⟨g5, 4, none⟩ = some (.int .i64 r.ty.base) ∧ w'.cell? ⟨g5, 5, none⟩ = some (.bool r.ty.k) ∧ w'.cell? ⟨g5, 6, none⟩ = some (.bool r.ty.l) ∧ w'.cell? ⟨g5, 7, none⟩ = some (.bool r.ty.x) ∧ w'.cell? ⟨g5, 8, none⟩ = some (.int .u64 r.sum) ∧ w'.cell? ⟨g5, 9, none⟩ = some (.int .i64 r.size) ∧ w'.cell? ⟨g5, 10, none⟩ = some (.string r.frm) ∧ w'.cell? ⟨g5, 11, none⟩ = some (.int .i64 r.fnum)) ∧ w'.frozen? ⟨g, Q.length * 5 + 3, none⟩ = false) := Lib.hid fun X w' hb hG => by
    obtain ⟨a0, a1, a2, a3, a4, a5, a6, a7, a8, a9, a10, a11⟩ := box12 ((HB.out.below hb HB.out.lt).grown hG (fun e => hne e.symm))
    have hO := own_at (own_grown (HO.out.below hb).own hG (fun y e e2 => by injection e with e; subst e; exact ((HO.out.below hb).apv _ (List.mem_append_right _ (List.mem_cons_self ..)) g rfl).1 e2)) cells_at.2.1
    exact ⟨⟨hO.1, a0, a1, a3, a4, a5, a6, a7, a8, a9, a10, a11⟩, hO.2⟩
  have HRW : Hid (∀ X, Below V1.heap.size V1 X → X.ownsRow base 39 12 (.slice A1 ch.edits.length c1) ch.edits.length (ch.edits.flatMap Edt.cells)) := Lib.hid fun X hX => own_below (HO.out.rows _ (List.mem_append_right _ (List.mem_cons_self ..))).1 hX
  have HC7 : Hid (∀ X w' u, Below V1.heap.size V1 X → X.grownBy w' (Value.slice A1 ch.edits.length c1).ownBlock → (w'.setCell ⟨g, Q.length * 5 + 3, none⟩ u).cell? ⟨g5, 0, none⟩ = some (.string r.path) ∧ (w'.setCell ⟨g, Q.length * 5 + 3, none⟩ u).cell? ⟨g5, 1, none⟩ = some (.int .i64 r.num) ∧ (w'.setCell ⟨g, Q.length * 5 + 3, none⟩ u).cell? ⟨g5, 3, none⟩ = some (.int .i64 r.act) ∧ (w'.setCell ⟨g, Q.length * 5 + 3, none⟩ u).cell? ⟨g5, 4, none⟩ = some (.int .i64 r.ty.base) ∧ (w'.setCell ⟨g, Q.length * 5 + 3, none⟩ u).cell? ⟨g5, 5, none⟩ = some (.bool r.ty.k) ∧ (w'.setCell ⟨g, Q.length * 5 + 3, none⟩ u).cell? ⟨g5, 6, none⟩ = some (.bool r.ty.l) ∧ (w'.setCell ⟨g, Q.length * 5 + 3, none⟩ u).cell? ⟨g5, 7, none⟩ = some (.bool r.ty.x) ∧ (w'.setCell ⟨g, Q.length * 5 + 3, none⟩ u).cell? ⟨g5, 8, none⟩ = some (.int .u64 r.sum) ∧ (w'.setCell ⟨g, Q.length * 5 + 3, none⟩ u).cell? ⟨g5, 9, none⟩ = some (.int .i64 r.size) ∧ (w'.setCell ⟨g, Q.length * 5 + 3, none⟩ u).cell? ⟨g5, 10, none⟩ = some (.string r.frm) ∧ (w'.setCell ⟨g, Q.length * 5 + 3, none⟩ u).cell? ⟨g5, 11, none⟩ = some (.int .i64 r.fnum)) := Lib.hid fun X w' u hb hG => by
    obtain ⟨a0, a1, a2, a3, a4, a5, a6, a7, a8, a9, a10, a11⟩ := box12 (((HB.out.below hb HB.out.lt).grown hG (fun e => hne e.symm)).far (p := ⟨g, Q.length * 5 + 3, none⟩) hgg u)
    exact ⟨a0, a1, a3, a4, a5, a6, a7, a8, a9, a10, a11⟩
  obtain ⟨b, hbw⟩ : ∃ b, IntKind.i64.wrap (r.num - 1) = b := ⟨_, rfl⟩
  have HED : Hid (edtW r = (⟨r.path, r.act, r.ty, r.sum, r.size, b, r.frm, r.fnum, 0⟩ : Edt)) := Lib.hid (by unfold edtW; rw [hbw])
  rw [HED.out] at HQ
  have HBS := Lib.hid hb
  clear hQ h hB hne hb hgg
  have ev1 : V1.cell? ⟨g, Q.length * 5 + 3, none⟩ = some (.slice A1 ch.edits.length c1) := (HCC.out V1 (Below.refl _ _)).1
  have ev2 : (V1.alloc (.cells #[.string ((⟨r.path, r.act, r.ty, r.sum, r.size, b, r.frm, r.fnum, 0⟩ : Edt)).path, .int .i64 ((⟨r.path, r.act, r.ty, r.sum, r.size, b, r.frm, r.fnum, 0⟩ : Edt)).act, .int .i64 ((⟨r.path, r.act, r.ty, r.sum, r.size, b, r.frm, r.fnum, 0⟩ : Edt)).ty.base, .bool ((⟨r.path, r.act, r.ty, r.sum, r.size, b, r.frm, r.fnum, 0⟩ : Edt)).ty.k, .bool ((⟨r.path, r.act, r.ty, r.sum, r.size, b, r.frm, r.fnum, 0⟩ : Edt)).ty.l, .bool ((⟨r.path, r.act, r.ty, r.sum, r.size, b, r.frm, r.fnum, 0⟩ : Edt)).ty.x, .int .u64 ((⟨r.path, r.act, r.ty, r.sum, r.size, b, r.frm, r.fnum, 0⟩ : Edt)).sum, .int .i64 ((⟨r.path, r.act, r.ty, r.sum, r.size, b, r.frm, r.fnum, 0⟩ : Edt)).size, .int .i64 ((⟨r.path, r.act, r.ty, r.sum, r.size, b, r.frm, r.fnum, 0⟩ : Edt)).base, .string ((⟨r.path, r.act, r.ty, r.sum, r.size, b, r.frm, r.fnum, 0⟩ : Edt)).frm, .int .i64 ((⟨r.path, r.act, r.ty, r.sum, r.size, b, r.frm, r.fnum, 0⟩ : Edt)).fnum, .int .i64 ((⟨r.path, r.act, r.ty, r.sum, r.size, b, r.frm, r.fnum, 0⟩ : Edt)).fence] 39)).cell? ⟨g, Q.length * 5 + 3, none⟩ = some (.slice A1 ch.edits.length c1) := (HCC.out _ (below_alloc' (Below.refl _ _) _)).1
  refine wp_region_noPanic ?_
  refine wp_region_held_drew (S := (fun w' => w'.cell? ⟨g5, 0, none⟩ = some (.string r.path) ∧ w'.cell? ⟨g5, 1, none⟩ = some (.int .i64 r.num) ∧ w'.cell? ⟨g5, 3, none⟩ = some (.int .i64 r.act) ∧ w'.cell? ⟨g5, 4, none⟩ = some (.int .i64 r.ty.base) ∧ w'.cell? ⟨g5, 5, none⟩ = some (.bool r.ty.k) ∧ w'.cell? ⟨g5, 6, none⟩ = some (.bool r.ty.l) ∧ w'.cell? ⟨g5, 7, none⟩ = some (.bool r.ty.x) ∧ w'.cell? ⟨g5, 8, none⟩ = some (.int .u64 r.sum) ∧ w'.cell? ⟨g5, 9, none⟩ = some (.int .i64 r.size) ∧ w'.cell? ⟨g5, 10, none⟩ = some (.string r.frm) ∧ w'.cell? ⟨g5, 11, none⟩ = some (.int .i64 r.fnum))) (by kernel_rfl) ?hS0 (fun hHeld => ?_)
  case hS0 => ((try dsimp only); (first | (refine (HCC.out _ ?_).2; first | with_reducible exact (Below.refl _ _).drew | with_reducible exact Below.refl _ _ | with_reducible exact ((Below.refl _ _).alloc (Nat.le_refl _) _).drew | with_reducible exact below_alloc' (Below.refl _ _).drew _ | with_reducible exact below_alloc' (Below.refl _ _) _) | exact (HC6.out _ _ hXB hG6).1.2 | exact HC7.out _ _ _ hXB hG6) )
  refine wpAnyH_take (i := 0) (v := ?hv1) rfl (by kernel_rfl) (by kernel_rfl) (by kernel_rfl) (fun _ _ _ h => h) (Or.inl ⟨by rfl, ?hy1⟩) hHeld ?_
  case hy1 => (intro w hSw; (try dsimp only at hSw); go_simp; try with_reducible rfl)
  try simp only [Act.put, List.setIfInBounds_toArray, List.set_cons_zero, List.set_cons_succ, List.getElem_toArray, List.getElem_cons_zero, List.getElem_cons_succ]
  refine wpAnyH_take (i := 1) (v := ?hv2) rfl (by kernel_rfl) (by kernel_rfl) (by kernel_rfl) (fun _ _ _ h => h) (Or.inl ⟨by rfl, ?hy2⟩) hHeld ?_
  case hy2 => (intro w hSw; (try dsimp only at hSw); go_simp; try with_reducible rfl)
  try simp only [Act.put, List.setIfInBounds_toArray, List.set_cons_zero, List.set_cons_succ, List.getElem_toArray, List.getElem_cons_zero, List.getElem_cons_succ]
  refine wpAnyH_take (i := 2) (v := ?hv3) rfl (by kernel_rfl) (by kernel_rfl) (by kernel_rfl) (fun _ _ _ h => h) (Or.inl ⟨by rfl, ?hy3⟩) hHeld ?_
  case hy3 => (intro w hSw; (try dsimp only at hSw); go_simp; try with_reducible rfl)
  try simp only [Act.put, List.setIfInBounds_toArray, List.set_cons_zero, List.set_cons_succ, List.getElem_toArray, List.getElem_cons_zero, List.getElem_cons_succ]
  refine wpAnyH_take (i := 3) (v := ?hv4) rfl (by kernel_rfl) (by kernel_rfl) (by kernel_rfl) (fun _ _ _ h => h) (Or.inl ⟨by rfl, ?hy4⟩) hHeld ?_
  case hy4 => (intro w hSw; (try dsimp only at hSw); go_simp; try with_reducible rfl)
  try simp only [Act.put, List.setIfInBounds_toArray, List.set_cons_zero, List.set_cons_succ, List.getElem_toArray, List.getElem_cons_zero, List.getElem_cons_succ]
  refine wpAnyH_take (i := 5) (v := ?hv5) rfl (by kernel_rfl) (by kernel_rfl) (by kernel_rfl) (fun _ _ _ h => h) (Or.inl ⟨by rfl, ?hy5⟩) hHeld ?_
  case hy5 => (intro w hSw; (try dsimp only at hSw); go_simp; try with_reducible rfl)
  try simp only [Act.put, List.setIfInBounds_toArray, List.set_cons_zero, List.set_cons_succ, List.getElem_toArray, List.getElem_cons_zero, List.getElem_cons_succ]
  refine wpAnyH_take (i := 6) (v := ?hv6) rfl (by kernel_rfl) (by kernel_rfl) (by kernel_rfl) (fun _ _ _ h => h) (Or.inl ⟨by rfl, ?hy6⟩) hHeld ?_
  case hy6 => (intro w hSw; (try dsimp only at hSw); go_simp; try with_reducible rfl)
  try simp only [Act.put, List.setIfInBounds_toArray, List.set_cons_zero, List.set_cons_succ, List.getElem_toArray, List.getElem_cons_zero, List.getElem_cons_succ]
  refine wpAnyH_take (i := 7) (v := ?hv7) rfl (by kernel_rfl) (by kernel_rfl) (by kernel_rfl) (fun _ _ _ h => h) (Or.inl ⟨by rfl, ?hy7⟩) hHeld ?_
  case hy7 => (intro w hSw; (try dsimp only at hSw); go_simp; try with_reducible rfl)
  try simp only [Act.put, List.setIfInBounds_toArray, List.set_cons_zero, List.set_cons_succ, List.getElem_toArray, List.getElem_cons_zero, List.getElem_cons_succ]
  refine wpAnyH_take (i := 8) (v := ?hv8) rfl (by kernel_rfl) (by kernel_rfl) (by kernel_rfl) (fun _ _ _ h => h) (Or.inl ⟨by rfl, ?hy8⟩) hHeld ?_
  case hy8 => (intro w hSw; (try dsimp only at hSw); go_simp; try with_reducible rfl)
  try simp only [Act.put, List.setIfInBounds_toArray, List.set_cons_zero, List.set_cons_succ, List.getElem_toArray, List.getElem_cons_zero, List.getElem_cons_succ]
  refine wpAnyH_take (i := 9) (v := ?hv9) rfl (by kernel_rfl) (by kernel_rfl) (by kernel_rfl) (fun _ _ _ h => h) (Or.inl ⟨by rfl, ?hy9⟩) hHeld ?_
  case hy9 => (intro w hSw; (try dsimp only at hSw); go_simp; try with_reducible rfl)
  try simp only [Act.put, List.setIfInBounds_toArray, List.set_cons_zero, List.set_cons_succ, List.getElem_toArray, List.getElem_cons_zero, List.getElem_cons_succ]
  refine wpAnyH_take (i := 10) (v := ?hv10) rfl (by kernel_rfl) (by kernel_rfl) (by kernel_rfl) (fun _ _ _ h => h) (Or.inl ⟨by rfl, ?hy10⟩) hHeld ?_
  case hy10 => (intro w hSw; (try dsimp only at hSw); go_simp; try with_reducible rfl)
  try simp only [Act.put, List.setIfInBounds_toArray, List.set_cons_zero, List.set_cons_succ, List.getElem_toArray, List.getElem_cons_zero, List.getElem_cons_succ]
  refine wpAnyH_take (i := 11) (v := ?hv11) rfl (by kernel_rfl) (by kernel_rfl) (by kernel_rfl) (fun _ _ _ h => h) (Or.inl ⟨by rfl, ?hy11⟩) hHeld ?_
  case hy11 => (intro w hSw; (try dsimp only at hSw); go_simp; try with_reducible rfl)
  try simp only [Act.put, List.setIfInBounds_toArray, List.set_cons_zero, List.set_cons_succ, List.getElem_toArray, List.getElem_cons_zero, List.getElem_cons_succ]
  refine wpAnyH_take (i := 12) (v := ?hv12) rfl (by kernel_rfl) (by kernel_rfl) (by kernel_rfl) (fun _ _ _ h => h) (Or.inl ⟨by rfl, ?hy12⟩) hHeld ?_
  case hy12 => (intro w hSw; (try dsimp only at hSw); go_simp; try with_reducible rfl)
  try simp only [Act.put, List.setIfInBounds_toArray, List.set_cons_zero, List.set_cons_succ, List.getElem_toArray, List.getElem_cons_zero, List.getElem_cons_succ]
  refine wpAnyH_take (i := 13) (v := ?hv13) rfl (by kernel_rfl) (by kernel_rfl) (by kernel_rfl) (fun _ _ _ h => h) (Or.inl ⟨by rfl, ?hy13⟩) hHeld ?_
  case hy13 => (intro w hSw; (try dsimp only at hSw); go_simp; try with_reducible rfl)
  try simp only [Act.put, List.setIfInBounds_toArray, List.set_cons_zero, List.set_cons_succ, List.getElem_toArray, List.getElem_cons_zero, List.getElem_cons_succ]
  refine wpAnyH_take (i := 14) (v := ?hv14) rfl (by kernel_rfl) (by kernel_rfl) (by kernel_rfl) (fun _ _ _ h => h) (Or.inl ⟨by rfl, ?hy14⟩) hHeld ?_
  case hy14 => (intro w hSw; (try dsimp only at hSw); go_simp; try with_reducible rfl)
  try simp only [Act.put, List.setIfInBounds_toArray, List.set_cons_zero, List.set_cons_succ, List.getElem_toArray, List.getElem_cons_zero, List.getElem_cons_succ]
  refine wpAnyH_take (i := 15) (v := ?hv15) rfl (by kernel_rfl) (by kernel_rfl) (by kernel_rfl) (fun _ _ _ h => h) (Or.inl ⟨by rfl, ?hy15⟩) hHeld ?_
  case hy15 => (intro w hSw; (try dsimp only at hSw); go_simp; try with_reducible rfl)
  try simp only [Act.put, List.setIfInBounds_toArray, List.set_cons_zero, List.set_cons_succ, List.getElem_toArray, List.getElem_cons_zero, List.getElem_cons_succ]
  refine wpAnyH_take (i := 16) (v := ?hv16) rfl (by kernel_rfl) (by kernel_rfl) (by kernel_rfl) (fun _ _ _ h => h) (Or.inl ⟨by rfl, ?hy16⟩) hHeld ?_
  case hy16 => (intro w hSw; (try dsimp only at hSw); go_simp; try with_reducible rfl)
  try simp only [Act.put, List.setIfInBounds_toArray, List.set_cons_zero, List.set_cons_succ, List.getElem_toArray, List.getElem_cons_zero, List.getElem_cons_succ]
  refine wpAnyH_take (i := 17) (v := ?hv17) rfl (by kernel_rfl) (by kernel_rfl) (by kernel_rfl) (fun _ _ _ h => h) (Or.inl ⟨by rfl, ?hy17⟩) hHeld ?_
  case hy17 => (intro w hSw; (try dsimp only at hSw); go_simp; try with_reducible rfl)
  try simp only [Act.put, List.setIfInBounds_toArray, List.set_cons_zero, List.set_cons_succ, List.getElem_toArray, List.getElem_cons_zero, List.getElem_cons_succ]
  refine wpAnyH_take (i := 18) (v := ?hv18) rfl (by kernel_rfl) (by kernel_rfl) (by kernel_rfl) (fun _ _ _ h => h) (Or.inl ⟨by rfl, ?hy18⟩) hHeld ?_
  case hy18 => (intro w hSw; (try dsimp only at hSw); go_simp; try with_reducible rfl)
  try simp only [Act.put, List.setIfInBounds_toArray, List.set_cons_zero, List.set_cons_succ, List.getElem_toArray, List.getElem_cons_zero, List.getElem_cons_succ]
  refine wpAnyH_take (i := 19) (v := ?hv19) rfl (by kernel_rfl) (by kernel_rfl) (by kernel_rfl) (fun _ _ _ h => h) (Or.inl ⟨by rfl, ?hy19⟩) hHeld ?_
  case hy19 => (intro w hSw; (try dsimp only at hSw); go_simp; try with_reducible rfl)
  try simp only [Act.put, List.setIfInBounds_toArray, List.set_cons_zero, List.set_cons_succ, List.getElem_toArray, List.getElem_cons_zero, List.getElem_cons_succ]
  refine wpAnyH_take (i := 20) (v := ?hv20) rfl (by kernel_rfl) (by kernel_rfl) (by kernel_rfl) (fun _ _ _ h => h) (Or.inl ⟨by rfl, ?hy20⟩) hHeld ?_
  case hy20 => (intro w hSw; (try dsimp only at hSw); go_simp; try with_reducible rfl)
  try simp only [Act.put, List.setIfInBounds_toArray, List.set_cons_zero, List.set_cons_succ, List.getElem_toArray, List.getElem_cons_zero, List.getElem_cons_succ]
  refine wpAnyH_ready (rs := [4, 21]) (by kernel_rfl) (by simp) ?_
  refine AllReadyH.cons rfl (fun K hK => ?stp21) ?mre21
  case stp21 =>
      go_simp
      refine hK.out _ _ ?hS21 (fun hHeld2 => ?_)
      case hS21 => ((try dsimp only); (first | (refine (HCC.out _ ?_).2; first | with_reducible exact (Below.refl _ _).drew | with_reducible exact Below.refl _ _ | with_reducible exact ((Below.refl _ _).alloc (Nat.le_refl _) _).drew | with_reducible exact below_alloc' (Below.refl _ _).drew _ | with_reducible exact below_alloc' (Below.refl _ _) _) | exact (HC6.out _ _ hXB hG6).1.2 | exact HC7.out _ _ _ hXB hG6) )
      clear hHeld hK K
      have hHeld := hHeld2
      clear hHeld2
      try simp only [Act.put, List.setIfInBounds_toArray, List.set_cons_zero, List.set_cons_succ, List.getElem_toArray, List.getElem_cons_zero, List.getElem_cons_succ]
      refine wpAnyH_ready (rs := [21]) (by kernel_rfl) (by simp) ?_
      refine AllReadyH.cons rfl (fun K hK => ?stp22) ?mre22
      case mre22 => exact AllReadyH.nil
      case stp22 =>
        go_simp
        refine hK.out _ _ ?hS22 (fun hHeld2 => ?_)
        case hS22 => ((try dsimp only); (first | (refine (HCC.out _ ?_).2; first | with_reducible exact (Below.refl _ _).drew | with_reducible exact Below.refl _ _ | with_reducible exact ((Below.refl _ _).alloc (Nat.le_refl _) _).drew | with_reducible exact below_alloc' (Below.refl _ _).drew _ | with_reducible exact below_alloc' (Below.refl _ _) _) | exact (HC6.out _ _ hXB hG6).1.2 | exact HC7.out _ _ _ hXB hG6) )
        clear hHeld hK K
        have hHeld := hHeld2
        clear hHeld2
        try simp only [Act.put, List.setIfInBounds_toArray, List.set_cons_zero, List.set_cons_succ, List.getElem_toArray, List.getElem_cons_zero, List.getElem_cons_succ]
        refine wpAnyH_ready (rs := [22]) (by kernel_rfl) (by simp) ?_
        refine AllReadyH.cons rfl (fun K hK => ?stp23) ?mre23
        case mre23 => exact AllReadyH.nil
        case stp23 =>
          (first | (refine step_app (base := base) rfl rfl edtElem (HRW.out _ (below_alloc' (Below.refl _ _).drew _)) (by simp [Act.eval, Act.put]; done) (Blk.row (size := 12) (n := 1) (blk_new V1.drew [.string ((⟨r.path, r.act, r.ty, r.sum, r.size, b, r.frm, r.fnum, 0⟩ : Edt)).path, .int .i64 ((⟨r.path, r.act, r.ty, r.sum, r.size, b, r.frm, r.fnum, 0⟩ : Edt)).act, .int .i64 ((⟨r.path, r.act, r.ty, r.sum, r.size, b, r.frm, r.fnum, 0⟩ : Edt)).ty.base, .bool ((⟨r.path, r.act, r.ty, r.sum, r.size, b, r.frm, r.fnum, 0⟩ : Edt)).ty.k, .bool ((⟨r.path, r.act, r.ty, r.sum, r.size, b, r.frm, r.fnum, 0⟩ : Edt)).ty.l, .bool ((⟨r.path, r.act, r.ty, r.sum, r.size, b, r.frm, r.fnum, 0⟩ : Edt)).ty.x, .int .u64 ((⟨r.path, r.act, r.ty, r.sum, r.size, b, r.frm, r.fnum, 0⟩ : Edt)).sum, .int .i64 ((⟨r.path, r.act, r.ty, r.sum, r.size, b, r.frm, r.fnum, 0⟩ : Edt)).size, .int .i64 ((⟨r.path, r.act, r.ty, r.sum, r.size, b, r.frm, r.fnum, 0⟩ : Edt)).base, .string ((⟨r.path, r.act, r.ty, r.sum, r.size, b, r.frm, r.fnum, 0⟩ : Edt)).frm, .int .i64 ((⟨r.path, r.act, r.ty, r.sum, r.size, b, r.frm, r.fnum, 0⟩ : Edt)).fnum, .int .i64 ((⟨r.path, r.act, r.ty, r.sum, r.size, b, r.frm, r.fnum, 0⟩ : Edt)).fence] 39) rfl (by decide)) (by simp [Act.eval, Act.put]; done) (by simp [Value.oneCell']) (by omega) (by unfold maxLen; omega) (by have := HBS.out; simp; omega) ?_; intro A6 c6 w6 hO6 hG6 hw6; have hXB := below_alloc' (Below.refl V1.heap.size V1).drew (.cells #[.string ((⟨r.path, r.act, r.ty, r.sum, r.size, b, r.frm, r.fnum, 0⟩ : Edt)).path, .int .i64 ((⟨r.path, r.act, r.ty, r.sum, r.size, b, r.frm, r.fnum, 0⟩ : Edt)).act, .int .i64 ((⟨r.path, r.act, r.ty, r.sum, r.size, b, r.frm, r.fnum, 0⟩ : Edt)).ty.base, .bool ((⟨r.path, r.act, r.ty, r.sum, r.size, b, r.frm, r.fnum, 0⟩ : Edt)).ty.k, .bool ((⟨r.path, r.act, r.ty, r.sum, r.size, b, r.frm, r.fnum, 0⟩ : Edt)).ty.l, .bool ((⟨r.path, r.act, r.ty, r.sum, r.size, b, r.frm, r.fnum, 0⟩ : Edt)).ty.x, .int .u64 ((⟨r.path, r.act, r.ty, r.sum, r.size, b, r.frm, r.fnum, 0⟩ : Edt)).sum, .int .i64 ((⟨r.path, r.act, r.ty, r.sum, r.size, b, r.frm, r.fnum, 0⟩ : Edt)).size, .int .i64 ((⟨r.path, r.act, r.ty, r.sum, r.size, b, r.frm, r.fnum, 0⟩ : Edt)).base, .string ((⟨r.path, r.act, r.ty, r.sum, r.size, b, r.frm, r.fnum, 0⟩ : Edt)).frm, .int .i64 ((⟨r.path, r.act, r.ty, r.sum, r.size, b, r.frm, r.fnum, 0⟩ : Edt)).fnum, .int .i64 ((⟨r.path, r.act, r.ty, r.sum, r.size, b, r.frm, r.fnum, 0⟩ : Edt)).fence] 39); have hfz := (HC6.out _ _ hXB hG6).2; have hce := (HC6.out _ _ hXB hG6).1.1) | (refine step_app (base := base) rfl rfl edtElem (HRW.out _ ((Below.refl _ _).alloc (Nat.le_refl _) _).drew) (by simp [Act.eval, Act.put]; done) (Blk.row (size := 12) (n := 1) (Blk.drew' (blk_new V1 [.string ((⟨r.path, r.act, r.ty, r.sum, r.size, b, r.frm, r.fnum, 0⟩ : Edt)).path, .int .i64 ((⟨r.path, r.act, r.ty, r.sum, r.size, b, r.frm, r.fnum, 0⟩ : Edt)).act, .int .i64 ((⟨r.path, r.act, r.ty, r.sum, r.size, b, r.frm, r.fnum, 0⟩ : Edt)).ty.base, .bool ((⟨r.path, r.act, r.ty, r.sum, r.size, b, r.frm, r.fnum, 0⟩ : Edt)).ty.k, .bool ((⟨r.path, r.act, r.ty, r.sum, r.size, b, r.frm, r.fnum, 0⟩ : Edt)).ty.l, .bool ((⟨r.path, r.act, r.ty, r.sum, r.size, b, r.frm, r.fnum, 0⟩ : Edt)).ty.x, .int .u64 ((⟨r.path, r.act, r.ty, r.sum, r.size, b, r.frm, r.fnum, 0⟩ : Edt)).sum, .int .i64 ((⟨r.path, r.act, r.ty, r.sum, r.size, b, r.frm, r.fnum, 0⟩ : Edt)).size, .int .i64 ((⟨r.path, r.act, r.ty, r.sum, r.size, b, r.frm, r.fnum, 0⟩ : Edt)).base, .string ((⟨r.path, r.act, r.ty, r.sum, r.size, b, r.frm, r.fnum, 0⟩ : Edt)).frm, .int .i64 ((⟨r.path, r.act, r.ty, r.sum, r.size, b, r.frm, r.fnum, 0⟩ : Edt)).fnum, .int .i64 ((⟨r.path, r.act, r.ty, r.sum, r.size, b, r.frm, r.fnum, 0⟩ : Edt)).fence] 39)) rfl (by decide)) (by simp [Act.eval, Act.put]; done) (by simp [Value.oneCell']) (by omega) (by unfold maxLen; omega) (by have := HBS.out; simp; omega) ?_; intro A6 c6 w6 hO6 hG6 hw6; have hXB := ((Below.refl V1.heap.size V1).alloc (Nat.le_refl _) (.cells #[.string ((⟨r.path, r.act, r.ty, r.sum, r.size, b, r.frm, r.fnum, 0⟩ : Edt)).path, .int .i64 ((⟨r.path, r.act, r.ty, r.sum, r.size, b, r.frm, r.fnum, 0⟩ : Edt)).act, .int .i64 ((⟨r.path, r.act, r.ty, r.sum, r.size, b, r.frm, r.fnum, 0⟩ : Edt)).ty.base, .bool ((⟨r.path, r.act, r.ty, r.sum, r.size, b, r.frm, r.fnum, 0⟩ : Edt)).ty.k, .bool ((⟨r.path, r.act, r.ty, r.sum, r.size, b, r.frm, r.fnum, 0⟩ : Edt)).ty.l, .bool ((⟨r.path, r.act, r.ty, r.sum, r.size, b, r.frm, r.fnum, 0⟩ : Edt)).ty.x, .int .u64 ((⟨r.path, r.act, r.ty, r.sum, r.size, b, r.frm, r.fnum, 0⟩ : Edt)).sum, .int .i64 ((⟨r.path, r.act, r.ty, r.sum, r.size, b, r.frm, r.fnum, 0⟩ : Edt)).size, .int .i64 ((⟨r.path, r.act, r.ty, r.sum, r.size, b, r.frm, r.fnum, 0⟩ : Edt)).base, .string ((⟨r.path, r.act, r.ty, r.sum, r.size, b, r.frm, r.fnum, 0⟩ : Edt)).frm, .int .i64 ((⟨r.path, r.act, r.ty, r.sum, r.size, b, r.frm, r.fnum, 0⟩ : Edt)).fnum, .int .i64 ((⟨r.path, r.act, r.ty, r.sum, r.size, b, r.frm, r.fnum, 0⟩ : Edt)).fence] 39)).drew; have hfz := (HC6.out _ _ hXB hG6).2; have hce := (HC6.out _ _ hXB hG6).1.1))
          refine hK.out _ _ ?hS23 (fun hHeld2 => ?_)
          case hS23 => ((try dsimp only); (first | (refine (HCC.out _ ?_).2; first | with_reducible exact (Below.refl _ _).drew | with_reducible exact Below.refl _ _ | with_reducible exact ((Below.refl _ _).alloc (Nat.le_refl _) _).drew | with_reducible exact below_alloc' (Below.refl _ _).drew _ | with_reducible exact below_alloc' (Below.refl _ _) _) | exact (HC6.out _ _ hXB hG6).1.2 | exact HC7.out _ _ _ hXB hG6) )
          clear hHeld hK K
          have hHeld := hHeld2
          clear hHeld2
          try simp only [Act.put, List.setIfInBounds_toArray, List.set_cons_zero, List.set_cons_succ, List.getElem_toArray, List.getElem_cons_zero, List.getElem_cons_succ]
          refine wpAnyH_take (i := 23) (v := ?hv24) rfl (by kernel_rfl) (by kernel_rfl) (by kernel_rfl) (fun _ _ _ h => h) (Or.inl ⟨by rfl, ?hy24⟩) hHeld ?_
          case hy24 => (intro w hSw; (try dsimp only at hSw); go_simp; try with_reducible rfl)
          try simp only [Act.put, List.setIfInBounds_toArray, List.set_cons_zero, List.set_cons_succ, List.getElem_toArray, List.getElem_cons_zero, List.getElem_cons_succ]
          refine wpAnyH_take (i := 24) (v := ?hv25) rfl (by kernel_rfl) (by kernel_rfl) (by kernel_rfl) (fun _ _ _ h => h) (Or.inl ⟨by rfl, ?hy25⟩) hHeld ?_
          case hy25 => (intro w hSw; (try dsimp only at hSw); go_simp; try with_reducible rfl)
          try simp only [Act.put, List.setIfInBounds_toArray, List.set_cons_zero, List.set_cons_succ, List.getElem_toArray, List.getElem_cons_zero, List.getElem_cons_succ]
          refine wpAnyH_ready (rs := [25]) (by kernel_rfl) (by simp) ?_
          refine AllReadyH.cons rfl (fun K hK => ?stp26) ?mre26
          case mre26 => exact AllReadyH.nil
          case stp26 =>
            go_simp
            refine hK.out _ _ ?hS26 (fun hHeld2 => ?_)
            case hS26 => ((try dsimp only); (first | (refine (HCC.out _ ?_).2; first | with_reducible exact (Below.refl _ _).drew | with_reducible exact Below.refl _ _ | with_reducible exact ((Below.refl _ _).alloc (Nat.le_refl _) _).drew | with_reducible exact below_alloc' (Below.refl _ _).drew _ | with_reducible exact below_alloc' (Below.refl _ _) _) | exact (HC6.out _ _ hXB hG6).1.2 | exact HC7.out _ _ _ hXB hG6) )
            clear hHeld hK K
            have hHeld := hHeld2
            clear hHeld2
            try simp only [Act.put, List.setIfInBounds_toArray, List.set_cons_zero, List.set_cons_succ, List.getElem_toArray, List.getElem_cons_zero, List.getElem_cons_succ]
            refine wpAnyH_done (by kernel_rfl) ?_ _
            refine NoPanic.normal ?_
            exact HQ.out _ _ _ _ _ _ _ _ _ _ _ _ _ _ _ _ _ _ _ _ _ _ _ _ _ _ _ ⟨HO.out.edit hXB hO6 hG6 hw6, _, _, hXB, hG6, hw6, rfl⟩
  case mre21 =>
    refine AllReadyH.cons rfl (fun K hK => ?stp27) ?mre27
    case mre27 => exact AllReadyH.nil
    case stp27 =>
      go_simp
      refine hK.out _ _ ?hS27 (fun hHeld2 => ?_)
      case hS27 => ((try dsimp only); (first | (refine (HCC.out _ ?_).2; first | with_reducible exact (Below.refl _ _).drew | with_reducible exact Below.refl _ _ | with_reducible exact ((Below.refl _ _).alloc (Nat.le_refl _) _).drew | with_reducible exact below_alloc' (Below.refl _ _).drew _ | with_reducible exact below_alloc' (Below.refl _ _) _) | exact (HC6.out _ _ hXB hG6).1.2 | exact HC7.out _ _ _ hXB hG6) )
      clear hHeld hK K
      have hHeld := hHeld2
      clear hHeld2
      try simp only [Act.put, List.setIfInBounds_toArray, List.set_cons_zero, List.set_cons_succ, List.getElem_toArray, List.getElem_cons_zero, List.getElem_cons_succ]
      refine wpAnyH_ready (rs := [4]) (by kernel_rfl) (by simp) ?_
      refine AllReadyH.cons rfl (fun K hK => ?stp28) ?mre28
      case mre28 => exact AllReadyH.nil
      case stp28 =>
        go_simp
        refine hK.out _ _ ?hS28 (fun hHeld2 => ?_)
        case hS28 => ((try dsimp only); (first | (refine (HCC.out _ ?_).2; first | with_reducible exact (Below.refl _ _).drew | with_reducible exact Below.refl _ _ | with_reducible exact ((Below.refl _ _).alloc (Nat.le_refl _) _).drew | with_reducible exact below_alloc' (Below.refl _ _).drew _ | with_reducible exact below_alloc' (Below.refl _ _) _) | exact (HC6.out _ _ hXB hG6).1.2 | exact HC7.out _ _ _ hXB hG6) )
        clear hHeld hK K
        have hHeld := hHeld2
        clear hHeld2
        try simp only [Act.put, List.setIfInBounds_toArray, List.set_cons_zero, List.set_cons_succ, List.getElem_toArray, List.getElem_cons_zero, List.getElem_cons_succ]
        refine wpAnyH_ready (rs := [22]) (by kernel_rfl) (by simp) ?_
        refine AllReadyH.cons rfl (fun K hK => ?stp29) ?mre29
        case mre29 => exact AllReadyH.nil
        case stp29 =>
          (first | (refine step_app (base := base) rfl rfl edtElem (HRW.out _ (below_alloc' (Below.refl _ _).drew _)) (by simp [Act.eval, Act.put]; done) (Blk.row (size := 12) (n := 1) (blk_new V1.drew [.string ((⟨r.path, r.act, r.ty, r.sum, r.size, b, r.frm, r.fnum, 0⟩ : Edt)).path, .int .i64 ((⟨r.path, r.act, r.ty, r.sum, r.size, b, r.frm, r.fnum, 0⟩ : Edt)).act, .int .i64 ((⟨r.path, r.act, r.ty, r.sum, r.size, b, r.frm, r.fnum, 0⟩ : Edt)).ty.base, .bool ((⟨r.path, r.act, r.ty, r.sum, r.size, b, r.frm, r.fnum, 0⟩ : Edt)).ty.k, .bool ((⟨r.path, r.act, r.ty, r.sum, r.size, b, r.frm, r.fnum, 0⟩ : Edt)).ty.l, .bool ((⟨r.path, r.act, r.ty, r.sum, r.size, b, r.frm, r.fnum, 0⟩ : Edt)).ty.x, .int .u64 ((⟨r.path, r.act, r.ty, r.sum, r.size, b, r.frm, r.fnum, 0⟩ : Edt)).sum, .int .i64 ((⟨r.path, r.act, r.ty, r.sum, r.size, b, r.frm, r.fnum, 0⟩ : Edt)).size, .int .i64 ((⟨r.path, r.act, r.ty, r.sum, r.size, b, r.frm, r.fnum, 0⟩ : Edt)).base, .string ((⟨r.path, r.act, r.ty, r.sum, r.size, b, r.frm, r.fnum, 0⟩ : Edt)).frm, .int .i64 ((⟨r.path, r.act, r.ty, r.sum, r.size, b, r.frm, r.fnum, 0⟩ : Edt)).fnum, .int .i64 ((⟨r.path, r.act, r.ty, r.sum, r.size, b, r.frm, r.fnum, 0⟩ : Edt)).fence] 39) rfl (by decide)) (by simp [Act.eval, Act.put]; done) (by simp [Value.oneCell']) (by omega) (by unfold maxLen; omega) (by have := HBS.out; simp; omega) ?_; intro A6 c6 w6 hO6 hG6 hw6; have hXB := below_alloc' (Below.refl V1.heap.size V1).drew (.cells #[.string ((⟨r.path, r.act, r.ty, r.sum, r.size, b, r.frm, r.fnum, 0⟩ : Edt)).path, .int .i64 ((⟨r.path, r.act, r.ty, r.sum, r.size, b, r.frm, r.fnum, 0⟩ : Edt)).act, .int .i64 ((⟨r.path, r.act, r.ty, r.sum, r.size, b, r.frm, r.fnum, 0⟩ : Edt)).ty.base, .bool ((⟨r.path, r.act, r.ty, r.sum, r.size, b, r.frm, r.fnum, 0⟩ : Edt)).ty.k, .bool ((⟨r.path, r.act, r.ty, r.sum, r.size, b, r.frm, r.fnum, 0⟩ : Edt)).ty.l, .bool ((⟨r.path, r.act, r.ty, r.sum, r.size, b, r.frm, r.fnum, 0⟩ : Edt)).ty.x, .int .u64 ((⟨r.path, r.act, r.ty, r.sum, r.size, b, r.frm, r.fnum, 0⟩ : Edt)).sum, .int .i64 ((⟨r.path, r.act, r.ty, r.sum, r.size, b, r.frm, r.fnum, 0⟩ : Edt)).size, .int .i64 ((⟨r.path, r.act, r.ty, r.sum, r.size, b, r.frm, r.fnum, 0⟩ : Edt)).base, .string ((⟨r.path, r.act, r.ty, r.sum, r.size, b, r.frm, r.fnum, 0⟩ : Edt)).frm, .int .i64 ((⟨r.path, r.act, r.ty, r.sum, r.size, b, r.frm, r.fnum, 0⟩ : Edt)).fnum, .int .i64 ((⟨r.path, r.act, r.ty, r.sum, r.size, b, r.frm, r.fnum, 0⟩ : Edt)).fence] 39); have hfz := (HC6.out _ _ hXB hG6).2; have hce := (HC6.out _ _ hXB hG6).1.1) | (refine step_app (base := base) rfl rfl edtElem (HRW.out _ ((Below.refl _ _).alloc (Nat.le_refl _) _).drew) (by simp [Act.eval, Act.put]; done) (Blk.row (size := 12) (n := 1) (Blk.drew' (blk_new V1 [.string ((⟨r.path, r.act, r.ty, r.sum, r.size, b, r.frm, r.fnum, 0⟩ : Edt)).path, .int .i64 ((⟨r.path, r.act, r.ty, r.sum, r.size, b, r.frm, r.fnum, 0⟩ : Edt)).act, .int .i64 ((⟨r.path, r.act, r.ty, r.sum, r.size, b, r.frm, r.fnum, 0⟩ : Edt)).ty.base, .bool ((⟨r.path, r.act, r.ty, r.sum, r.size, b, r.frm, r.fnum, 0⟩ : Edt)).ty.k, .bool ((⟨r.path, r.act, r.ty, r.sum, r.size, b, r.frm, r.fnum, 0⟩ : Edt)).ty.l, .bool ((⟨r.path, r.act, r.ty, r.sum, r.size, b, r.frm, r.fnum, 0⟩ : Edt)).ty.x, .int .u64 ((⟨r.path, r.act, r.ty, r.sum, r.size, b, r.frm, r.fnum, 0⟩ : Edt)).sum, .int .i64 ((⟨r.path, r.act, r.ty, r.sum, r.size, b, r.frm, r.fnum, 0⟩ : Edt)).size, .int .i64 ((⟨r.path, r.act, r.ty, r.sum, r.size, b, r.frm, r.fnum, 0⟩ : Edt)).base, .string ((⟨r.path, r.act, r.ty, r.sum, r.size, b, r.frm, r.fnum, 0⟩ : Edt)).frm, .int .i64 ((⟨r.path, r.act, r.ty, r.sum, r.size, b, r.frm, r.fnum, 0⟩ : Edt)).fnum, .int .i64 ((⟨r.path, r.act, r.ty, r.sum, r.size, b, r.frm, r.fnum, 0⟩ : Edt)).fence] 39)) rfl (by decide)) (by simp [Act.eval, Act.put]; done) (by simp [Value.oneCell']) (by omega) (by unfold maxLen; omega) (by have := HBS.out; simp; omega) ?_; intro A6 c6 w6 hO6 hG6 hw6; have hXB := ((Below.refl V1.heap.size V1).alloc (Nat.le_refl _) (.cells #[.string ((⟨r.path, r.act, r.ty, r.sum, r.size, b, r.frm, r.fnum, 0⟩ : Edt)).path, .int .i64 ((⟨r.path, r.act, r.ty, r.sum, r.size, b, r.frm, r.fnum, 0⟩ : Edt)).act, .int .i64 ((⟨r.path, r.act, r.ty, r.sum, r.size, b, r.frm, r.fnum, 0⟩ : Edt)).ty.base, .bool ((⟨r.path, r.act, r.ty, r.sum, r.size, b, r.frm, r.fnum, 0⟩ : Edt)).ty.k, .bool ((⟨r.path, r.act, r.ty, r.sum, r.size, b, r.frm, r.fnum, 0⟩ : Edt)).ty.l, .bool ((⟨r.path, r.act, r.ty, r.sum, r.size, b, r.frm, r.fnum, 0⟩ : Edt)).ty.x, .int .u64 ((⟨r.path, r.act, r.ty, r.sum, r.size, b, r.frm, r.fnum, 0⟩ : Edt)).sum, .int .i64 ((⟨r.path, r.act, r.ty, r.sum, r.size, b, r.frm, r.fnum, 0⟩ : Edt)).size, .int .i64 ((⟨r.path, r.act, r.ty, r.sum, r.size, b, r.frm, r.fnum, 0⟩ : Edt)).base, .string ((⟨r.path, r.act, r.ty, r.sum, r.size, b, r.frm, r.fnum, 0⟩ : Edt)).frm, .int .i64 ((⟨r.path, r.act, r.ty, r.sum, r.size, b, r.frm, r.fnum, 0⟩ : Edt)).fnum, .int .i64 ((⟨r.path, r.act, r.ty, r.sum, r.size, b, r.frm, r.fnum, 0⟩ : Edt)).fence] 39)).drew; have hfz := (HC6.out _ _ hXB hG6).2; have hce := (HC6.out _ _ hXB hG6).1.1))
          refine hK.out _ _ ?hS29 (fun hHeld2 => ?_)
          case hS29 => ((try dsimp only); (first | (refine (HCC.out _ ?_).2; first | with_reducible exact (Below.refl _ _).drew | with_reducible exact Below.refl _ _ | with_reducible exact ((Below.refl _ _).alloc (Nat.le_refl _) _).drew | with_reducible exact below_alloc' (Below.refl _ _).drew _ | with_reducible exact below_alloc' (Below.refl _ _) _) | exact (HC6.out _ _ hXB hG6).1.2 | exact HC7.out _ _ _ hXB hG6) )
          clear hHeld hK K
          have hHeld := hHeld2
          clear hHeld2
          try simp only [Act.put, List.setIfInBounds_toArray, List.set_cons_zero, List.set_cons_succ, List.getElem_toArray, List.getElem_cons_zero, List.getElem_cons_succ]
          refine wpAnyH_take (i := 23) (v := ?hv30) rfl (by kernel_rfl) (by kernel_rfl) (by kernel_rfl) (fun _ _ _ h => h) (Or.inl ⟨by rfl, ?hy30⟩) hHeld ?_
          case hy30 => (intro w hSw; (try dsimp only at hSw); go_simp; try with_reducible rfl)
          try simp only [Act.put, List.setIfInBounds_toArray, List.set_cons_zero, List.set_cons_succ, List.getElem_toArray, List.getElem_cons_zero, List.getElem_cons_succ]
          refine wpAnyH_take (i := 24) (v := ?hv31) rfl (by kernel_rfl) (by kernel_rfl) (by kernel_rfl) (fun _ _ _ h => h) (Or.inl ⟨by rfl, ?hy31⟩) hHeld ?_
          case hy31 => (intro w hSw; (try dsimp only at hSw); go_simp; try with_reducible rfl)
          try simp only [Act.put, List.setIfInBounds_toArray, List.set_cons_zero, List.set_cons_succ, List.getElem_toArray, List.getElem_cons_zero, List.getElem_cons_succ]
          refine wpAnyH_ready (rs := [25]) (by kernel_rfl) (by simp) ?_
          refine AllReadyH.cons rfl (fun K hK => ?stp32) ?mre32
          case mre32 => exact AllReadyH.nil
          case stp32 =>
            go_simp
            refine hK.out _ _ ?hS32 (fun hHeld2 => ?_)
            case hS32 => ((try dsimp only); (first | (refine (HCC.out _ ?_).2; first | with_reducible exact (Below.refl _ _).drew | with_reducible exact Below.refl _ _ | with_reducible exact ((Below.refl _ _).alloc (Nat.le_refl _) _).drew | with_reducible exact below_alloc' (Below.refl _ _).drew _ | with_reducible exact below_alloc' (Below.refl _ _) _) | exact (HC6.out _ _ hXB hG6).1.2 | exact HC7.out _ _ _ hXB hG6) )
            clear hHeld hK K
            have hHeld := hHeld2
            clear hHeld2
            try simp only [Act.put, List.setIfInBounds_toArray, List.set_cons_zero, List.set_cons_succ, List.getElem_toArray, List.getElem_cons_zero, List.getElem_cons_succ]
            refine wpAnyH_done (by kernel_rfl) ?_ _
            refine NoPanic.normal ?_
            exact HQ.out _ _ _ _ _ _ _ _ _ _ _ _ _ _ _ _ _ _ _ _ _ _ _ _ _ _ _ ⟨HO.out.edit hXB hO6 hG6 hw6, _, _, hXB, hG6, hw6, rfl⟩
set_option maxRecDepth 100000 in
set_option maxHeartbeats 8000000 in
theorem cgR13 (ops : Array Oper) (hops : Tryd.f12.body.bind (regAt 13) = some ops) (Q_ : Exit → Act → World → Prop) (base g c g8 : Nat) (Q : List ChV) (ch : Chg) (ev rv : Value) (x : Rcd) (V1 : World)
    (h : ChO V1 base (.slice (some ⟨g, 0, none⟩) (Q.length + 1) c) Q (ch, ev, rv)) (hb : base ≤ V1.heap.size) (hB : Blk V1 g8 50 [.string x.frm, .int .i64 x.first, .int .i64 x.last, .string x.to, .int .i64 x.num, .int .i64 x.how]) (hl : ch.recs.length ≤ 100000)
    (u0 u1 u2 u3 u4 u5 u7 u9 u10 u11 u12 u13 u14 u15 u16 u17 u18 u19 u20 u21 u22 u23 u24 u25 u26 u27 u28 u29 u30 u31 u32 u33 u34 u35 u36 u37 u38 u39 u40 u41 u42 u43 u44 u45 u46 u47 u48 u49 u50 u51 u52 u53 u54 u55 u56 u57 u58 u59 u60 u61 u62 u63 u64 u65 u66 u67 u68 u69 u70 u71 u72 u73 u74 u75 u76 u77 u78 u79 u80 u81 u82 u83 u84 u85 u86 u87 u88 u89 u90 u91 u92 u93 u94 u95 u96 u97 u98 : Value)
    (hQ : ∀ (t86 t87 t88 t89 t90 t91 t92 t93 t94 t95 : Value) (rv' : Value) (w' : World), Hid (ChO w' base (.slice (some ⟨g, 0, none⟩) (Q.length + 1) c) Q ({ ch with recs := ch.recs ++ [x] }, ev, rv') ∧ CgStep V1 w' g (Q.length * 5 + 4) rv rv') → Q_ .normal ⟨#[u0, u1, u2, u3, u4, u5, .pointer (some ⟨g, Q.length * 5, none⟩), u7, .pointer (some ⟨g8, 0, none⟩), u9, u10, u11, u12, u13, u14, u15, u16, u17, u18, u19, u20, u21, u22, u23, u24, u25, u26, u27, u28, u29, u30, u31, u32, u33, u34, u35, u36, u37, u38, u39, u40, u41, u42, u43, u44, u45, u46, u47, u48, u49, u50, u51, u52, u53, u54, u55, u56, u57, u58, u59, u60, u61, u62, u63, u64, u65, u66, u67, u68, u69, u70, u71, u72, u73, u74, u75, u76, u77, u78, u79, u80, u81, u82, u83, u84, u85, t86, t87, t88, t89, t90, t91, t92, t93, t94, t95, u96, u97, u98], []⟩ w') :
    (Code.region 13 ops true).wp Tryd.prog Q_ ⟨#[u0, u1, u2, u3, u4, u5, .pointer (some ⟨g, Q.length * 5, none⟩), u7, .pointer (some ⟨g8, 0, none⟩), u9, u10, u11, u12, u13, u14, u15, u16, u17, u18, u19, u20, u21, u22, u23, u24, u25, u26, u27, u28, u29, u30, u31, u32, u33, u34, u35, u36, u37, u38, u39, u40, u41, u42, u43, u44, u45, u46, u47, u48, u49, u50, u51, u52, u53, u54, u55, u56, u57, u58, u59, u60, u61, u62, u63, u64, u65, u66, u67, u68, u69, u70, u71, u72, u73, u74, u75, u76, u77, u78, u79, u80, u81, u82, u83, u84, u85, u86, u87, u88, u89, u90, u91, u92, u93, u94, u95, u96, u97, u98], []⟩ V1 := by
  simp only [Tryd.f12, Option.bind_some, regAt] at hops
  simp at hops
  subst hops
  obtain ⟨A1, c1, hrv⟩ := own_slice (h.rows _ (List.mem_append_right _ (List.mem_cons_self ..))).2
  dsimp only at hrv
  subst hrv
  have HQ := Lib.hid hQ
  have HO := Lib.hid h
  have HB := Lib.hid hB
  have HBS := Lib.hid hb
  have HRC : Hid (∀ w', Below V1.heap.size V1 w' → w'.cell? ⟨g, Q.length * 5 + 4, none⟩ = some (.slice A1 ch.recs.length c1)) := Lib.hid fun w' hb => (own_at (HO.out.below hb).own cells_at.2.2).1
  have HFZ : Hid (∀ X w', Below V1.heap.size V1 X → X.grownBy w' (Value.slice A1 ch.recs.length c1).ownBlock → w'.cell? ⟨g, Q.length * 5 + 4, none⟩ = some (.slice A1 ch.recs.length c1) ∧ w'.frozen? ⟨g, Q.length * 5 + 4, none⟩ = false) := Lib.hid fun X w' hb hG =>
    own_at (own_grown (HO.out.below hb).own hG (fun y e e2 => by injection e with e; subst e; exact ((HO.out.below hb).apv _ (List.mem_append_right _ (List.mem_cons_self ..)) g rfl).2 e2)) cells_at.2.2
  have HRW : Hid (∀ X, Below V1.heap.size V1 X → X.ownsRow base 50 6 (.slice A1 ch.recs.length c1) ch.recs.length (ch.recs.flatMap Rcd.cells)) := Lib.hid fun X hX => own_below (HO.out.rows _ (List.mem_append_right _ (List.mem_cons_self ..))).2 hX
  have r1 := HRC.out V1 (Below.refl _ _)
  have r2 := HRC.out (V1.alloc (.cells #[.string x.frm, .int .i64 x.first, .int .i64 x.last, .string x.to, .int .i64 x.num, .int .i64 x.how] 50)) (below_alloc' (Below.refl _ _) _)
  obtain ⟨x0, x1, x2, x3, x4, x5⟩ := box6 HB.out
  clear hQ h hB hb
  refine wp_region_noPanic ?_
  go_region_law (first
    | (refine step_app (base := base) rfl rfl rcdElem (HRW.out _ (below_alloc' (Below.refl _ _).drew _)) (by simp [Act.eval, Act.put]; done) (Blk.row (size := 6) (n := 1) (blk_new V1.drew [.string x.frm, .int .i64 x.first, .int .i64 x.last, .string x.to, .int .i64 x.num, .int .i64 x.how] 50) rfl (by decide)) (by simp [Act.eval, Act.put]; done) (by simp [Value.oneCell']) (by omega) (by unfold maxLen; omega) (by have := HBS.out; simp; omega) ?_; intro A6 c6 w6 hO6 hG6 hw6; have hXB := below_alloc' (Below.refl V1.heap.size V1).drew (.cells #[.string x.frm, .int .i64 x.first, .int .i64 x.last, .string x.to, .int .i64 x.num, .int .i64 x.how] 50); obtain ⟨hce, hfz⟩ := HFZ.out _ _ hXB hG6)
    | (refine step_app (base := base) rfl rfl rcdElem (HRW.out _ ((Below.refl _ _).alloc (Nat.le_refl _) _).drew) (by simp [Act.eval, Act.put]; done) (Blk.row (size := 6) (n := 1) (Blk.drew' (blk_new V1 [.string x.frm, .int .i64 x.first, .int .i64 x.last, .string x.to, .int .i64 x.num, .int .i64 x.how] 50)) rfl (by decide)) (by simp [Act.eval, Act.put]; done) (by simp [Value.oneCell']) (by omega) (by unfold maxLen; omega) (by have := HBS.out; simp; omega) ?_; intro A6 c6 w6 hO6 hG6 hw6; have hXB := ((Below.refl V1.heap.size V1).alloc (Nat.le_refl _) (.cells #[.string x.frm, .int .i64 x.first, .int .i64 x.last, .string x.to, .int .i64 x.num, .int .i64 x.how] 50)).drew; obtain ⟨hce, hfz⟩ := HFZ.out _ _ hXB hG6))
  all_goals exact NoPanic.normal (HQ.out _ _ _ _ _ _ _ _ _ _ _ _ ⟨HO.out.record hXB hO6 hG6 hw6, _, _, hXB, hG6, hw6, rfl⟩)
end Go.Proofs.YtnblfaagchflaaaDoor
