/- comparePaths and compareRecords. -/
import Derived.Test.YteolonjmgojoeaaGreatDoorMgw1
import Derived.Test.YteolonjmgojoeaaGreatDoorMzCmp
import Derived.Deep.RegionHeld3
namespace Go.Proofs.YteolonjmgojoeaaGreatDoor
open Go.RowKit
set_option linter.unusedVariables false
set_option linter.unusedSimpArgs false

theorem Quiet.below {w w' : World} (h : Quiet w w') (B : Nat) : Below B w w' := by
  obtain ⟨n, rfl⟩ := h
  exact below_drewN (Below.refl _ _) n
set_option maxHeartbeats 1000000 in
theorem comparePaths_any (a b : ByteArray) (w : World) (ha : a.size ≤ 140737488355328) (hb : b.size ≤ 140737488355328) :
    Calls Tryz.prog 40 #[.string a, .string b] w fun e w' => e = .returned (.int .i64 (cmpP a b)) ∧ Quiet w w' := by
  have H := Lib.hid (compare_any a b w ha hb)
  go_enter Tryz.func40, Tryz.ntmps40
  go_wp2_with fail
  refine H.out.mono ?_
  rintro e w' ⟨rfl, hq⟩
  have HQ := Lib.hid hq
  clear hq
  go_wp2_with fail
  go_ret
  exact ⟨rfl, HQ.out⟩

theorem and_of {p q : Prop} (h : p) (hq : p → q) : p ∧ q := ⟨h, hq h⟩
theorem or4_any (a b c d : Int) (g : Nat) (w : World) (hB : Blk w g 3 [.int .i64 a, .int .i64 b, .int .i64 c, .int .i64 d]) :
    Calls Tryz.prog 39 #[.slice (some ⟨g, 0, none⟩) 4 4] w fun e w' => e = .returned (.int .i64 (orI a (orI b (orI c (orI d 0))))) ∧ w = w' := or_any [a, b, c, d] g w hB (by simp)
theorem box6 {w : World} {g : Nat} {e : TypeId} {a b c d x y : Value} (h : Blk w g e [a, b, c, d, x, y]) :
    w.cell? ⟨g, 0, none⟩ = some a ∧ w.cell? ⟨g, 1, none⟩ = some b ∧ w.cell? ⟨g, 2, none⟩ = some c ∧ w.cell? ⟨g, 3, none⟩ = some d ∧ w.cell? ⟨g, 4, none⟩ = some x ∧ w.cell? ⟨g, 5, none⟩ = some y :=
  ⟨h.cell 0, h.cell 1, h.cell 2, h.cell 3, h.cell 4, h.cell 5⟩

set_option maxRecDepth 100000 in
set_option maxHeartbeats 4000000 in
theorem compareRecords_main (a0 : ByteArray) (a1 a2 : Int) (a3 : ByteArray) (a4 a5 : Int) (b0 : ByteArray) (b1 b2 : Int) (b3 : ByteArray) (b4 b5 : Int) (w : World)
    (h1 : a0.size ≤ 140737488355328) (h2 : a3.size ≤ 140737488355328) (h3 : b0.size ≤ 140737488355328) (h4 : b3.size ≤ 140737488355328) :
    Calls Tryz.prog 19 #[.agg #[.string a0, .int .i64 a1, .int .i64 a2, .string a3, .int .i64 a4, .int .i64 a5], .agg #[.string b0, .int .i64 b1, .int .i64 b2, .string b3, .int .i64 b4, .int .i64 b5]] w
      fun e w' => e = .returned (.int .i64 (orI (cmpP a3 b3) (orI (cmpI a4 b4) (orI (cmpP a0 b0) (orI (cmpI a1 b1) 0))))) ∧ Below w.heap.size w w' := by
  obtain ⟨W, hW⟩ : ∃ W, W = (w.alloc (.cells #[.string a0, .int .i64 a1, .int .i64 a2, .string a3, .int .i64 a4, .int .i64 a5] 77)).alloc (.cells #[.string b0, .int .i64 b1, .int .i64 b2, .string b3, .int .i64 b4, .int .i64 b5] 77) := ⟨_, rfl⟩
  have hbW : Below w.heap.size w W := by rw [hW]; exact ((Below.refl _ _).alloc (Nat.le_refl _) _).alloc (by simp) _
  have hA : Blk W w.heap.size 77 [.string a0, .int .i64 a1, .int .i64 a2, .string a3, .int .i64 a4, .int .i64 a5] := by rw [hW]; exact (blk_new _ _ _).alloc _
  have hB : Blk W (w.heap.size + 1) 77 [.string b0, .int .i64 b1, .int .i64 b2, .string b3, .int .i64 b4, .int .i64 b5] := by
    rw [hW]
    have := blk_new (w.alloc (.cells #[.string a0, .int .i64 a1, .int .i64 a2, .string a3, .int .i64 a4, .int .i64 a5] 77)) [.string b0, .int .i64 b1, .int .i64 b2, .string b3, .int .i64 b4, .int .i64 b5] 77
    simpa using this
  have hlt : w.heap.size + 1 < W.heap.size := hB.lt
  have HW := Lib.hid hW
  clear hW
  go_enter Tryz.func19, Tryz.ntmps19
  go_wp2_with fail
  rw [← HW.out]
  have hc : ∀ w', Below W.heap.size W w' → w'.cell? ⟨w.heap.size, 0, none⟩ = some (.string a0) ∧ w'.cell? ⟨w.heap.size, 1, none⟩ = some (.int .i64 a1) ∧ w'.cell? ⟨w.heap.size, 3, none⟩ = some (.string a3) ∧ w'.cell? ⟨w.heap.size, 4, none⟩ = some (.int .i64 a4) ∧
      w'.cell? ⟨w.heap.size + 1, 0, none⟩ = some (.string b0) ∧ w'.cell? ⟨w.heap.size + 1, 1, none⟩ = some (.int .i64 b1) ∧ w'.cell? ⟨w.heap.size + 1, 3, none⟩ = some (.string b3) ∧ w'.cell? ⟨w.heap.size + 1, 4, none⟩ = some (.int .i64 b4) := fun w' hb => by
    obtain ⟨x0, x1, -, x3, x4, -⟩ := box6 (hA.below hb hA.lt)
    obtain ⟨y0, y1, -, y3, y4, -⟩ := box6 (hB.below hb hB.lt)
    exact ⟨x0, x1, x3, x4, y0, y1, y3, y4⟩
  have HC := Lib.hid hc
  clear hc
  go_region_held3 (fun w' => Below W.heap.size W w' ∧ w'.cell? ⟨w.heap.size, 0, none⟩ = some (.string a0) ∧ w'.cell? ⟨w.heap.size, 1, none⟩ = some (.int .i64 a1) ∧ w'.cell? ⟨w.heap.size, 3, none⟩ = some (.string a3) ∧ w'.cell? ⟨w.heap.size, 4, none⟩ = some (.int .i64 a4) ∧
      w'.cell? ⟨w.heap.size + 1, 0, none⟩ = some (.string b0) ∧ w'.cell? ⟨w.heap.size + 1, 1, none⟩ = some (.int .i64 b1) ∧ w'.cell? ⟨w.heap.size + 1, 3, none⟩ = some (.string b3) ∧ w'.cell? ⟨w.heap.size + 1, 4, none⟩ = some (.int .i64 b4))
    ((refine and_of ?_ (HC.out _); first | exact (Below.refl _ _).drew | assumption | exact hS6.alloc hS6.size _))
    (first
      | (go_at_call 40; (with_reducible refine (comparePaths_any a3 b3 _ h2 h4).mono ?_); rintro e w5 ⟨rfl, hq5⟩; have hS5 : Below W.heap.size W w5 := (Below.refl _ _).drew.trans (hq5.below _); have HC5 := HC.out _ hS5; clear hq5)
      | (go_at_call 40; (with_reducible refine (comparePaths_any a0 b0 _ h1 h3).mono ?_); rintro e w6 ⟨rfl, hq6⟩; have hS6 : Below W.heap.size W w6 := hS5.trans (hq6.below _); have HC6 := HC.out _ hS6; clear hq6)
      | (go_at_call 41; (with_reducible refine (cmpInt_any _ _ _).mono ?_); rintro e w5 ⟨rfl, rfl⟩)
      | (go_at_call 39; (with_reducible refine (or4_any _ _ _ _ w6.heap.size _ (blk_new w6 _ _)).mono ?_); rintro e w7 ⟨rfl, rfl⟩))
  go_wp2_with fail
  go_ret
  exact ⟨rfl, below_next hbW (hS6.alloc hS6.size _)⟩
theorem orI_zero (a : Int) : orI a 0 = a := by unfold orI; split <;> omega
def Rcd.small (r : Rcd) : Prop := r.frm.size ≤ 140737488355328 ∧ r.to.size ≤ 140737488355328
theorem compareRecords_any (a b : Rcd) (w : World) (ha : a.small) (hb : b.small) :
    Calls Tryz.prog 19 #[a.val, b.val] w fun e w' => e = .returned (.int .i64 (cmpR a b)) ∧ Below w.heap.size w w' := by
  have h := compareRecords_main a.frm a.first a.last a.to a.num a.how b.frm b.first b.last b.to b.num b.how w ha.1 ha.2 hb.1 hb.2
  rw [orI_zero] at h
  exact h
end Go.Proofs.YteolonjmgojoeaaGreatDoor
