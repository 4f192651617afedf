/- slices.Clone at revisions; slices.Concat at records. -/
import Derived.Test.YtnblfaagchflaaaGreatDoorMgw11
import Derived.Lib.AppendZeros
namespace Go.Proofs.YtnblfaagchflaaaGreatDoor
open Go.RowKit
set_option linter.unusedVariables false
set_option linter.unusedSimpArgs false

theorem revElem : ElemOk Tryz.prog 28 40 12 96 := elemOk_of Tryz.underlying28 (z := zeroRev.val) (by kernel_rfl) rfl (by decide)
theorem rcdElem : ElemOk Tryz.prog 29 57 6 64 := elemOk_of Tryz.underlying29 (z := .agg #[.string ⟨#[]⟩, .int .i64 0, .int .i64 0, .string ⟨#[]⟩, .int .i64 0, .int .i64 0]) (by kernel_rfl) rfl (by decide)
set_option maxHeartbeats 1000000 in
theorem clone_any (revs : List Rev) (v : Value) (w : World) (hR : Revs w v revs) (hl : revs.length ≤ 1000000) :
    Calls Tryz.prog 39 #[v] w
      fun e w' => ∃ v', e = .returned v' ∧ Below w.heap.size w w' ∧ w'.ownsRow w.heap.size 40 12 v' revs.length (revs.flatMap Rev.cells) := by
  obtain ⟨A, c, rfl, hc, hm, hlen, h0, hx⟩ := id hR
  cases A with
  | none =>
    have hc0 := h0 rfl
    have hn0 : revs = [] := List.eq_nil_of_length_eq_zero (by omega)
    subst hn0 hc0
    go_enter Tryz.func39, Tryz.ntmps39
    have heq : ∀ W, (binOp .eql 28 (.slice none 0 0) (.slice none 0 0)).run Tryz.prog W = .ok (.bool true) W := fun W => by kernel_rfl
    clear hx hlen h0 hR
    go_wp2_with fail
    go_ret
    exact ⟨_, rfl, Below.refl _ _, World.ownsRow_nil _ _ _ _⟩
  | some ad =>
    have heq : ∀ W, (binOp .eql 28 (.slice (some ad) revs.length c) (.slice none 0 0)).run Tryz.prog W = .ok (.bool false) W := fun W => by kernel_rfl
    clear hx hlen h0
    have HR := Lib.hid hR
    clear hR
    have hb0 : Below w.heap.size w (w.alloc (.cells #[] 40)) := (Below.refl _ _).alloc (Nat.le_refl _) _
    have hown : (w.alloc (.cells #[] 40)).ownsRow w.heap.size 40 12 (.slice (some ⟨w.heap.size, 0, none⟩) 0 0) 0 [] := ⟨rfl, .inr ⟨w.heap.size, 0, #[], rfl, Nat.le_refl _, heap_alloc_new w _, Nat.le_refl _, by unfold maxLen; omega, rfl, rfl⟩⟩
    have h1 : ∀ u ∈ revs.flatMap Rev.cells, u.oneCell' = true := by
      intro u hu
      obtain ⟨r, -, hr⟩ := List.mem_flatMap.1 hu
      simp only [Rev.cells, List.mem_cons, List.not_mem_nil, or_false] at hr
      rcases hr with rfl | rfl | rfl | rfl | rfl | rfl | rfl | rfl | rfl | rfl | rfl | rfl <;> rfl
    have H1 := Lib.hid h1
    clear h1
    go_enter Tryz.func39, Tryz.ntmps39
    go_wp2_with (at_builtin; refine wpList_push rfl rfl revElem hown rfl (HR.out.below hb0) rfl hb0 hb0.size H1.out (by omega) (by unfold maxLen; omega) ?_; intro A' c' w1 hown1 hbl1)
    go_ret
    exact ⟨_, rfl, hbl1, by simpa using hown1⟩
end Go.Proofs.YtnblfaagchflaaaGreatDoor
/- slices.Grow and slices.Concat at records. -/
namespace Go.Proofs.YtnblfaagchflaaaGreatDoor
open Go.RowKit
set_option linter.unusedVariables false
set_option linter.unusedSimpArgs false

set_option maxRecDepth 100000 in
set_option maxHeartbeats 1000000 in
theorem grow_any (n : Nat) (w : World) (hn : n ≤ 1000000) :
    Calls Tryz.prog 75 #[.slice none 0 0, .int .i64 n] w
      fun e w' => ∃ v', e = .returned v' ∧ Below w.heap.size w w' ∧ w'.ownsRow w.heap.size 57 6 v' 0 [] := by
  by_cases h0 : n = 0
  · subst h0
    go_enter Tryz.func75, Tryz.ntmps75
    go_wp2
    go_ret
    exact ⟨_, rfl, Below.refl _ _, World.ownsRow_nil _ _ _ _⟩
  · obtain ⟨i, z, ht, hi, hz, hsize, hby, hzs, hsz⟩ := rcdElem
    have hr := Lib.run_append_nil_zeros (P := Tryz.prog) w 29 3 29 57 i z .i64 .i64 Tryz.underlying29 Tryz.underlying3 hi hz n (by omega) (by omega) (by omega) (by rw [hby]; omega)
    have hb1 : Below w.heap.size w (w.drew.alloc (.cells (Builtin.zeroCells z.cells n ++ Builtin.zeroCells z.cells (grownCap w n 0 57 - n)) 57)) := (Below.refl _ _).drew.alloc (by simp) _
    have hge := grownCap_ge w n 0 57
    have hle := grownCap_le_maxLen w n 0 57 (by unfold maxLen; omega)
    have hown : (w.drew.alloc (.cells (Builtin.zeroCells z.cells n ++ Builtin.zeroCells z.cells (grownCap w n 0 57 - n)) 57)).ownsRow w.heap.size 57 6 (.slice (some ⟨w.heap.size, 0, none⟩) 0 (grownCap w n 0 57)) 0 [] :=
      ⟨rfl, .inr ⟨w.heap.size, _, _, rfl, Nat.le_refl _, heap_alloc_new w.drew _, Nat.zero_le _, hle, by rw [Array.size_append, size_zeroCells, size_zeroCells, hzs, ← Nat.add_mul]; congr 1; omega, by simp⟩⟩
    clear hz hsize hby hzs hsz ht hi
    generalize w.drew.alloc (.cells (Builtin.zeroCells z.cells n ++ Builtin.zeroCells z.cells (grownCap w n 0 57 - n)) 57) = w1 at hr hb1 hown
    generalize grownCap w n 0 57 = cp at hr hown hge hle
    have HO := Lib.hid hown
    have HB := Lib.hid hb1
    have hnz : (0 : Int) < (n : Int) := by omega
    unfold maxLen at hle
    clear hown hb1
    go_enter Tryz.func75, Tryz.ntmps75
    go_wp2_with (at_builtin; refine Lib.wpList_append_run _ rfl _ _ _ _ rfl _ _ rfl rfl _ _ hr ?_)
    go_ret
    exact ⟨_, rfl, HB.out, HO.out⟩

theorem rcd_one (l : List Rcd) : ∀ u ∈ l.flatMap Rcd.cells, u.oneCell' = true := by
  intro u hu
  obtain ⟨r, -, hr⟩ := List.mem_flatMap.1 hu
  simp only [Rcd.cells, List.mem_cons, List.not_mem_nil, or_false] at hr
  rcases hr with rfl | rfl | rfl | rfl | rfl | rfl <;> rfl
set_option maxHeartbeats 2000000 in
theorem concat_any (l1 l2 : List Rcd) (v1 v2 : Value) (g : Nat) (w : World) (hB : Blk w g 29 [v1, v2]) (h1 : Rcds w v1 l1) (h2 : Rcds w v2 l2) (hl1 : l1.length ≤ 100000) (hl2 : l2.length ≤ 100000) :
    Calls Tryz.prog 40 #[.slice (some ⟨g, 0, none⟩) 2 2] w
      fun e w' => ∃ v', e = .returned v' ∧ Below w.heap.size w w' ∧ w'.ownsRow w.heap.size 57 6 v' (l1.length + l2.length) ((l1 ++ l2).flatMap Rcd.cells) := by
  obtain ⟨A1, c1, rfl, -, -, -⟩ := id h1
  obtain ⟨A2, c2, rfl, -, -, -⟩ := id h2
  have b0 := hB.cell 0
  have b1 := hB.cell 1
  have b0' : w.cell? ⟨g, 0, none⟩ = some (.slice A1 l1.length c1) := b0
  have b1' : w.cell? ⟨g, 1, none⟩ = some (.slice A2 l2.length c2) := b1
  clear b0 b1
  have HB := Lib.hid hB
  have H1 := Lib.hid h1
  have H2 := Lib.hid h2
  have HG := Lib.hid (grow_any (l1.length + l2.length) w (by omega))
  rw [Int.natCast_add] at HG
  clear hB h1 h2
  go_enter Tryz.func40, Tryz.ntmps40
  go_wp2_with fail
  refine wp_loop_rounds 3 ?_
  rw [rounds_succ]
  go_wp2_with fail
  rw [rounds_succ]
  go_wp2_with fail
  rw [rounds_succ]
  go_wp2_with fail
  refine HG.out.mono ?_
  rintro e w1 ⟨v', rfl, hb1, hown1⟩
  have q0 := cell_below b0' hb1 (cell_lt b0')
  have q1 := cell_below b1' hb1 (cell_lt b1')
  have hr1 : Row w1 6 (.slice A1 l1.length c1) l1.length (l1.flatMap Rcd.cells) := Row.below H1.out hb1
  have B1 := Lib.hid b1'
  have HOW := Lib.hid hown1
  have HBL := Lib.hid hb1
  have HR1 := Lib.hid hr1
  clear hb1 hown1 b0' b1' hr1
  go_wp2_with fail
  refine wp_loop_rounds 3 ?_
  rw [rounds_succ]
  go_wp2_with (at_builtin; refine wpList_push rfl rfl rcdElem HOW.out rfl HR1.out rfl HBL.out HBL.out.size (rcd_one _) (by omega) (by unfold maxLen; omega) ?_; intro A' c' w2 hown2 hbl2)
  have q2 := cell_below B1.out hbl2 (cell_lt B1.out)
  have hr2 : Row w2 6 (.slice A2 l2.length c2) l2.length (l2.flatMap Rcd.cells) := Row.below H2.out hbl2
  rw [Nat.zero_add, List.nil_append] at hown2
  have HOW2 := Lib.hid hown2
  have HBL2 := Lib.hid hbl2
  have HR2 := Lib.hid hr2
  clear hown2 hbl2 hr2 q0 q1
  rw [rounds_succ]
  go_wp2_with (at_builtin; refine wpList_push rfl rfl rcdElem HOW2.out rfl HR2.out rfl HBL2.out HBL2.out.size (rcd_one _) (by omega) (by unfold maxLen; omega) ?_; intro A3 c3 w3 hown3 hbl3)
  have HOW3 := Lib.hid hown3
  have HBL3 := Lib.hid hbl3
  clear hown3 hbl3
  rw [rounds_succ]
  go_wp2_with fail
  go_ret
  refine ⟨_, rfl, HBL3.out, ?_⟩
  have := HOW3.out
  rw [List.flatMap_append]
  simpa using this
end Go.Proofs.YtnblfaagchflaaaGreatDoor
