/- syncplan.fits: whether a step fits a have-list. Printed by mkfits.py. -/
import Derived.Test.YteolonjmgojoeaaGreatDoorMzSyA
import Derived.Lib.QuietBelow
namespace Go.Proofs.YteolonjmgojoeaaGreatDoor
open Go.RowKit
open Go.Sort (grow)
set_option linter.unusedVariables false
set_option linter.unusedSimpArgs false

def fitsB (x : Syn) (l : ByteArray) : Bool :=
  pathB x.path && decide (x.frm = l) && !(decide (x.frm = emptyS) && decide (x.dst = emptyS)) && (if x.dst = emptyS then decide (x.num = 0) else decide (1 ≤ x.num) && pathB x.dst) && (staysB x.kind || x.kind == kindS x.frm x.dst)
set_option maxHeartbeats 1000000 in
theorem fits_1 (x : Syn) (l : ByteArray) (w : World) (hp : x.path.size ≤ 140737488355328) (hd : x.dst.size ≤ 140737488355328) (h1 : pathB x.path = false) :
    Calls Tryz.prog 43 #[.agg #[.int .i64 x.kind, .string x.path, .int .i64 x.num, .string x.frm, .string x.dst], .string l] w fun e w' => e = .returned (.bool (fitsB x l)) ∧ Below w.heap.size w w' := by
  have hA : Below w.heap.size w (w.alloc (.cells #[.int .i64 x.kind, .string x.path, .int .i64 x.num, .string x.frm, .string x.dst] 60)) := (Below.refl _ _).alloc (Nat.le_refl _) _
  have HB : Hid (fitsB x l = false) := Lib.hid (by unfold fitsB; rw [h1]; rfl)
  have HP := Lib.hid (fun X => synPath_any x.path X hp)
  rw [h1] at HP
  clear h1
  go_enter Tryz.func43, Tryz.ntmps43
  go_wp2_with fail
  refine (HP.out _).mono ?_
  rintro e w1 ⟨rfl, rfl⟩
  go_wp2_with fail
  go_ret
  exact ⟨ret_bool HB.out.symm, hA⟩
set_option maxHeartbeats 1000000 in
theorem fits_2 (x : Syn) (l : ByteArray) (w : World) (hp : x.path.size ≤ 140737488355328) (hd : x.dst.size ≤ 140737488355328) (h1 : pathB x.path = true) (h2 : ¬ x.frm = l) :
    Calls Tryz.prog 43 #[.agg #[.int .i64 x.kind, .string x.path, .int .i64 x.num, .string x.frm, .string x.dst], .string l] w fun e w' => e = .returned (.bool (fitsB x l)) ∧ Below w.heap.size w w' := by
  have hA : Below w.heap.size w (w.alloc (.cells #[.int .i64 x.kind, .string x.path, .int .i64 x.num, .string x.frm, .string x.dst] 60)) := (Below.refl _ _).alloc (Nat.le_refl _) _
  have HB : Hid (fitsB x l = false) := Lib.hid (by unfold fitsB; simp [h2])
  have HP := Lib.hid (fun X => synPath_any x.path X hp)
  rw [h1] at HP
  have q := str_eqS x.frm l
  rw [decide_eq_false h2] at q
  clear h1 h2
  go_enter Tryz.func43, Tryz.ntmps43
  go_wp2_with fail
  refine (HP.out _).mono ?_
  rintro e w1 ⟨rfl, rfl⟩
  go_wp2_with fail
  go_ret
  exact ⟨ret_bool HB.out.symm, hA⟩
set_option maxHeartbeats 1000000 in
theorem fits_3 (x : Syn) (l : ByteArray) (w : World) (hp : x.path.size ≤ 140737488355328) (hd : x.dst.size ≤ 140737488355328) (h1 : pathB x.path = true) (h2 : x.frm = l) (h3 : x.frm = emptyS) (h4 : x.dst = emptyS) :
    Calls Tryz.prog 43 #[.agg #[.int .i64 x.kind, .string x.path, .int .i64 x.num, .string x.frm, .string x.dst], .string l] w fun e w' => e = .returned (.bool (fitsB x l)) ∧ Below w.heap.size w w' := by
  have hA : Below w.heap.size w (w.alloc (.cells #[.int .i64 x.kind, .string x.path, .int .i64 x.num, .string x.frm, .string x.dst] 60)) := (Below.refl _ _).alloc (Nat.le_refl _) _
  have HB : Hid (fitsB x l = false) := Lib.hid (by unfold fitsB; simp [h3, h4])
  have HP := Lib.hid (fun X => synPath_any x.path X hp)
  rw [h1] at HP
  have q := str_eqS x.frm l
  subst h2
  clear q
  obtain ⟨s1, s2⟩ := strE_yes h3
  obtain ⟨t1, t2⟩ := strE_yes h4
  clear h1 h3 h4
  go_enter Tryz.func43, Tryz.ntmps43
  go_wp2_with fail
  refine (HP.out _).mono ?_
  rintro e w1 ⟨rfl, rfl⟩
  go_wp2_with fail
  go_ret
  exact ⟨ret_bool HB.out.symm, hA⟩
set_option maxHeartbeats 1000000 in
theorem fits_7y (x : Syn) (l : ByteArray) (w : World) (hp : x.path.size ≤ 140737488355328) (hd : x.dst.size ≤ 140737488355328) (h1 : pathB x.path = true) (h2 : x.frm = l) (h3 : x.frm = emptyS) (h4 : ¬ x.dst = emptyS) (h5 : ¬ 1 ≤ x.num) :
    Calls Tryz.prog 43 #[.agg #[.int .i64 x.kind, .string x.path, .int .i64 x.num, .string x.frm, .string x.dst], .string l] w fun e w' => e = .returned (.bool (fitsB x l)) ∧ Below w.heap.size w w' := by
  have hA : Below w.heap.size w (w.alloc (.cells #[.int .i64 x.kind, .string x.path, .int .i64 x.num, .string x.frm, .string x.dst] 60)) := (Below.refl _ _).alloc (Nat.le_refl _) _
  have HB : Hid (fitsB x l = false) := Lib.hid (by unfold fitsB; simp [h4, h5])
  have HP := Lib.hid (fun X => synPath_any x.path X hp)
  rw [h1] at HP
  have q := str_eqS x.frm l
  subst h2
  clear q
  obtain ⟨s1, s2⟩ := strE_yes h3
  obtain ⟨t1, t2⟩ := strE_no h4
  have n2 : decide (x.num < 1) = true := by simp; omega
  clear h1 h3 h4 h5
  go_enter Tryz.func43, Tryz.ntmps43
  go_wp2_with fail
  refine (HP.out _).mono ?_
  rintro e w1 ⟨rfl, rfl⟩
  go_wp2_with fail
  go_ret
  exact ⟨ret_bool HB.out.symm, hA⟩
set_option maxHeartbeats 1000000 in
theorem fits_8y (x : Syn) (l : ByteArray) (w : World) (hp : x.path.size ≤ 140737488355328) (hd : x.dst.size ≤ 140737488355328) (h1 : pathB x.path = true) (h2 : x.frm = l) (h3 : x.frm = emptyS) (h4 : ¬ x.dst = emptyS) (h5 : 1 ≤ x.num) (h6 : pathB x.dst = false) :
    Calls Tryz.prog 43 #[.agg #[.int .i64 x.kind, .string x.path, .int .i64 x.num, .string x.frm, .string x.dst], .string l] w fun e w' => e = .returned (.bool (fitsB x l)) ∧ Below w.heap.size w w' := by
  have hA : Below w.heap.size w (w.alloc (.cells #[.int .i64 x.kind, .string x.path, .int .i64 x.num, .string x.frm, .string x.dst] 60)) := (Below.refl _ _).alloc (Nat.le_refl _) _
  have HB : Hid (fitsB x l = false) := Lib.hid (by unfold fitsB; simp [h4, h6])
  have HP := Lib.hid (fun X => synPath_any x.path X hp)
  rw [h1] at HP
  have HD := Lib.hid (fun X => synPath_any x.dst X hd)
  rw [h6] at HD
  have q := str_eqS x.frm l
  subst h2
  clear q
  obtain ⟨s1, s2⟩ := strE_yes h3
  obtain ⟨t1, t2⟩ := strE_no h4
  have n2 : decide (x.num < 1) = false := by simp; omega
  clear h1 h3 h4 h5 h6
  go_enter Tryz.func43, Tryz.ntmps43
  go_wp2_with fail
  refine (HP.out _).mono ?_
  rintro e w1 ⟨rfl, rfl⟩
  go_wp2_with fail
  refine (HD.out _).mono ?_
  rintro e w1 ⟨rfl, rfl⟩
  go_wp2_with fail
  go_ret
  exact ⟨ret_bool HB.out.symm, hA⟩
set_option maxHeartbeats 1000000 in
theorem fits_9y (x : Syn) (l : ByteArray) (w : World) (hp : x.path.size ≤ 140737488355328) (hd : x.dst.size ≤ 140737488355328) (h1 : pathB x.path = true) (h2 : x.frm = l) (h3 : x.frm = emptyS) (h4 : ¬ x.dst = emptyS) (h5 : 1 ≤ x.num) (h6 : pathB x.dst = true) (h7 : staysB x.kind = true) :
    Calls Tryz.prog 43 #[.agg #[.int .i64 x.kind, .string x.path, .int .i64 x.num, .string x.frm, .string x.dst], .string l] w fun e w' => e = .returned (.bool (fitsB x l)) ∧ Below w.heap.size w w' := by
  have hA : Below w.heap.size w (w.alloc (.cells #[.int .i64 x.kind, .string x.path, .int .i64 x.num, .string x.frm, .string x.dst] 60)) := (Below.refl _ _).alloc (Nat.le_refl _) _
  have HB : Hid (fitsB x l = true) := Lib.hid (by unfold fitsB; rw [h1, h7, decide_eq_true h2, decide_eq_false h4, if_neg h4, decide_eq_true h5, h6, Bool.and_false]; rfl)
  have HP := Lib.hid (fun X => synPath_any x.path X hp)
  rw [h1] at HP
  have HD := Lib.hid (fun X => synPath_any x.dst X hd)
  rw [h6] at HD
  have HS := Lib.hid (fun X => stays_any x X)
  rw [h7] at HS
  have q := str_eqS x.frm l
  subst h2
  clear q
  obtain ⟨s1, s2⟩ := strE_yes h3
  obtain ⟨t1, t2⟩ := strE_no h4
  have n2 : decide (x.num < 1) = false := by simp; omega
  clear h1 h3 h4 h5 h6 h7
  go_enter Tryz.func43, Tryz.ntmps43
  go_wp2_with fail
  refine (HP.out _).mono ?_
  rintro e w1 ⟨rfl, rfl⟩
  go_wp2_with fail
  refine (HD.out _).mono ?_
  rintro e w1 ⟨rfl, rfl⟩
  go_wp2_with fail
  have cS : ∀ d os, Calls Tryz.prog 67 #[.agg #[.int .i64 x.kind, .string x.path, .int .i64 x.num, .string x.frm, .string x.dst]] (grow (redrawn (w.alloc (.cells #[.int .i64 x.kind, .string x.path, .int .i64 x.num, .string x.frm, .string x.dst] 60)) d) os) fun e w'' => e = .returned (.bool true) ∧ ∃ p : Regrown, w'' = grow (redrawn (w.alloc (.cells #[.int .i64 x.kind, .string x.path, .int .i64 x.num, .string x.frm, .string x.dst] 60)) p.d) p.os := fun d os => Calls.regrown_of (by have hh := HS.out (grow (redrawn (w.alloc (.cells #[.int .i64 x.kind, .string x.path, .int .i64 x.num, .string x.frm, .string x.dst] 60)) d) os); exact hh)
  have bx := box5s (x := x) (blk_new w [.int .i64 x.kind, .string x.path, .int .i64 x.num, .string x.frm, .string x.dst] 60)
  obtain ⟨c0, c1, c2, c3, c4⟩ := bx
  have m0 := cell_regrown c0
  have m1 := cell_regrown c1
  have m2 := cell_regrown c2
  have m3 := cell_regrown c3
  have m4 := cell_regrown c4
  clear c0 c1 c2 c3 c4
  refine wp_region_quiet_below (by kernel_rfl) (by kernel_rfl) ?_
  repeat (first | go_big_quiet_step (exact cS _ _) | quiet_step (exact cS _ _))
  refine wpQuiet_nil ?_
  intro _ hw9
  obtain ⟨⟨dq, osq⟩, hw9⟩ := hw9
  subst hw9
  have hA := below_step hA hA.size (below_regrown _ dq osq)
  go_wp2_with fail
  go_ret
  exact ⟨ret_bool HB.out.symm, hA⟩
set_option maxHeartbeats 1000000 in
theorem fits_10y (x : Syn) (l : ByteArray) (w : World) (hp : x.path.size ≤ 140737488355328) (hd : x.dst.size ≤ 140737488355328) (h1 : pathB x.path = true) (h2 : x.frm = l) (h3 : x.frm = emptyS) (h4 : ¬ x.dst = emptyS) (h5 : 1 ≤ x.num) (h6 : pathB x.dst = true) (h7 : staysB x.kind = false) :
    Calls Tryz.prog 43 #[.agg #[.int .i64 x.kind, .string x.path, .int .i64 x.num, .string x.frm, .string x.dst], .string l] w fun e w' => e = .returned (.bool (fitsB x l)) ∧ Below w.heap.size w w' := by
  have hA : Below w.heap.size w (w.alloc (.cells #[.int .i64 x.kind, .string x.path, .int .i64 x.num, .string x.frm, .string x.dst] 60)) := (Below.refl _ _).alloc (Nat.le_refl _) _
  have HB : Hid (fitsB x l = (x.kind == kindS x.frm x.dst)) := Lib.hid (by unfold fitsB; rw [h1, h7, decide_eq_true h2, decide_eq_false h4, if_neg h4, decide_eq_true h5, h6, Bool.and_false]; rfl)
  have HP := Lib.hid (fun X => synPath_any x.path X hp)
  rw [h1] at HP
  have HD := Lib.hid (fun X => synPath_any x.dst X hd)
  rw [h6] at HD
  have HS := Lib.hid (fun X => stays_any x X)
  rw [h7] at HS
  have HK := Lib.hid (fun X => kind_any x X)
  have q := str_eqS x.frm l
  subst h2
  clear q
  obtain ⟨s1, s2⟩ := strE_yes h3
  obtain ⟨t1, t2⟩ := strE_no h4
  have n2 : decide (x.num < 1) = false := by simp; omega
  clear h1 h3 h4 h5 h6 h7
  go_enter Tryz.func43, Tryz.ntmps43
  go_wp2_with fail
  refine (HP.out _).mono ?_
  rintro e w1 ⟨rfl, rfl⟩
  go_wp2_with fail
  refine (HD.out _).mono ?_
  rintro e w1 ⟨rfl, rfl⟩
  go_wp2_with fail
  have cS : ∀ d os, Calls Tryz.prog 67 #[.agg #[.int .i64 x.kind, .string x.path, .int .i64 x.num, .string x.frm, .string x.dst]] (grow (redrawn (w.alloc (.cells #[.int .i64 x.kind, .string x.path, .int .i64 x.num, .string x.frm, .string x.dst] 60)) d) os) fun e w'' => e = .returned (.bool false) ∧ ∃ p : Regrown, w'' = grow (redrawn (w.alloc (.cells #[.int .i64 x.kind, .string x.path, .int .i64 x.num, .string x.frm, .string x.dst] 60)) p.d) p.os := fun d os => Calls.regrown_of (by have hh := HS.out (grow (redrawn (w.alloc (.cells #[.int .i64 x.kind, .string x.path, .int .i64 x.num, .string x.frm, .string x.dst] 60)) d) os); exact hh)
  have cK : ∀ d os, Calls Tryz.prog 68 #[.agg #[.int .i64 x.kind, .string x.path, .int .i64 x.num, .string x.frm, .string x.dst]] (grow (redrawn (w.alloc (.cells #[.int .i64 x.kind, .string x.path, .int .i64 x.num, .string x.frm, .string x.dst] 60)) d) os) fun e w'' => e = .returned (.int .i64 (kindS x.frm x.dst)) ∧ ∃ p : Regrown, w'' = grow (redrawn (w.alloc (.cells #[.int .i64 x.kind, .string x.path, .int .i64 x.num, .string x.frm, .string x.dst] 60)) p.d) p.os := fun d os => Calls.regrown_of (by have hh := HK.out (grow (redrawn (w.alloc (.cells #[.int .i64 x.kind, .string x.path, .int .i64 x.num, .string x.frm, .string x.dst] 60)) d) os); exact hh)
  have bx := box5s (x := x) (blk_new w [.int .i64 x.kind, .string x.path, .int .i64 x.num, .string x.frm, .string x.dst] 60)
  obtain ⟨c0, c1, c2, c3, c4⟩ := bx
  have m0 := cell_regrown c0
  have m1 := cell_regrown c1
  have m2 := cell_regrown c2
  have m3 := cell_regrown c3
  have m4 := cell_regrown c4
  clear c0 c1 c2 c3 c4
  refine wp_region_quiet_below (by kernel_rfl) (by kernel_rfl) ?_
  repeat (first | go_big_quiet_step (first | exact cS _ _ | exact cK _ _) | quiet_step (first | exact cS _ _ | exact cK _ _))
  refine wpQuiet_nil ?_
  intro _ hw9
  obtain ⟨⟨dq, osq⟩, hw9⟩ := hw9
  subst hw9
  have hA := below_step hA hA.size (below_regrown _ dq osq)
  go_wp2_with fail
  go_ret
  exact ⟨ret_bool HB.out.symm, hA⟩
set_option maxHeartbeats 1000000 in
theorem fits_4 (x : Syn) (l : ByteArray) (w : World) (hp : x.path.size ≤ 140737488355328) (hd : x.dst.size ≤ 140737488355328) (h1 : pathB x.path = true) (h2 : x.frm = l) (h3 : ¬ x.frm = emptyS) (h4 : x.dst = emptyS) (h5 : ¬ x.num = 0) :
    Calls Tryz.prog 43 #[.agg #[.int .i64 x.kind, .string x.path, .int .i64 x.num, .string x.frm, .string x.dst], .string l] w fun e w' => e = .returned (.bool (fitsB x l)) ∧ Below w.heap.size w w' := by
  have hA : Below w.heap.size w (w.alloc (.cells #[.int .i64 x.kind, .string x.path, .int .i64 x.num, .string x.frm, .string x.dst] 60)) := (Below.refl _ _).alloc (Nat.le_refl _) _
  have HB : Hid (fitsB x l = false) := Lib.hid (by unfold fitsB; simp [h4, h5])
  have HP := Lib.hid (fun X => synPath_any x.path X hp)
  rw [h1] at HP
  have q := str_eqS x.frm l
  subst h2
  clear q
  obtain ⟨s1, s2⟩ := strE_no h3
  obtain ⟨t1, t2⟩ := strE_yes h4
  have n1 : (x.num != 0) = true := bne_iff_ne.2 h5
  clear h1 h3 h4 h5
  go_enter Tryz.func43, Tryz.ntmps43
  go_wp2_with fail
  refine (HP.out _).mono ?_
  rintro e w1 ⟨rfl, rfl⟩
  go_wp2_with fail
  go_ret
  exact ⟨ret_bool HB.out.symm, hA⟩
set_option maxHeartbeats 1000000 in
theorem fits_5 (x : Syn) (l : ByteArray) (w : World) (hp : x.path.size ≤ 140737488355328) (hd : x.dst.size ≤ 140737488355328) (h1 : pathB x.path = true) (h2 : x.frm = l) (h3 : ¬ x.frm = emptyS) (h4 : x.dst = emptyS) (h5 : x.num = 0) (h7 : staysB x.kind = true) :
    Calls Tryz.prog 43 #[.agg #[.int .i64 x.kind, .string x.path, .int .i64 x.num, .string x.frm, .string x.dst], .string l] w fun e w' => e = .returned (.bool (fitsB x l)) ∧ Below w.heap.size w w' := by
  have hA : Below w.heap.size w (w.alloc (.cells #[.int .i64 x.kind, .string x.path, .int .i64 x.num, .string x.frm, .string x.dst] 60)) := (Below.refl _ _).alloc (Nat.le_refl _) _
  have HB : Hid (fitsB x l = true) := Lib.hid (by unfold fitsB; rw [h1, h7, decide_eq_true h2, decide_eq_false h3, if_pos h4, decide_eq_true h5]; rfl)
  have HP := Lib.hid (fun X => synPath_any x.path X hp)
  rw [h1] at HP
  have HS := Lib.hid (fun X => stays_any x X)
  rw [h7] at HS
  have q := str_eqS x.frm l
  subst h2
  clear q
  obtain ⟨s1, s2⟩ := strE_no h3
  obtain ⟨t1, t2⟩ := strE_yes h4
  have n1 : (x.num != 0) = false := by rw [h5]; rfl
  clear h1 h3 h4 h5 h7
  go_enter Tryz.func43, Tryz.ntmps43
  go_wp2_with fail
  refine (HP.out _).mono ?_
  rintro e w1 ⟨rfl, rfl⟩
  go_wp2_with fail
  have cS : ∀ d os, Calls Tryz.prog 67 #[.agg #[.int .i64 x.kind, .string x.path, .int .i64 x.num, .string x.frm, .string x.dst]] (grow (redrawn (w.alloc (.cells #[.int .i64 x.kind, .string x.path, .int .i64 x.num, .string x.frm, .string x.dst] 60)) d) os) fun e w'' => e = .returned (.bool true) ∧ ∃ p : Regrown, w'' = grow (redrawn (w.alloc (.cells #[.int .i64 x.kind, .string x.path, .int .i64 x.num, .string x.frm, .string x.dst] 60)) p.d) p.os := fun d os => Calls.regrown_of (by have hh := HS.out (grow (redrawn (w.alloc (.cells #[.int .i64 x.kind, .string x.path, .int .i64 x.num, .string x.frm, .string x.dst] 60)) d) os); exact hh)
  have bx := box5s (x := x) (blk_new w [.int .i64 x.kind, .string x.path, .int .i64 x.num, .string x.frm, .string x.dst] 60)
  obtain ⟨c0, c1, c2, c3, c4⟩ := bx
  have m0 := cell_regrown c0
  have m1 := cell_regrown c1
  have m2 := cell_regrown c2
  have m3 := cell_regrown c3
  have m4 := cell_regrown c4
  clear c0 c1 c2 c3 c4
  refine wp_region_quiet_below (by kernel_rfl) (by kernel_rfl) ?_
  repeat (first | go_big_quiet_step (exact cS _ _) | quiet_step (exact cS _ _))
  refine wpQuiet_nil ?_
  intro _ hw9
  obtain ⟨⟨dq, osq⟩, hw9⟩ := hw9
  subst hw9
  have hA := below_step hA hA.size (below_regrown _ dq osq)
  go_wp2_with fail
  go_ret
  exact ⟨ret_bool HB.out.symm, hA⟩
set_option maxHeartbeats 1000000 in
theorem fits_6 (x : Syn) (l : ByteArray) (w : World) (hp : x.path.size ≤ 140737488355328) (hd : x.dst.size ≤ 140737488355328) (h1 : pathB x.path = true) (h2 : x.frm = l) (h3 : ¬ x.frm = emptyS) (h4 : x.dst = emptyS) (h5 : x.num = 0) (h7 : staysB x.kind = false) :
    Calls Tryz.prog 43 #[.agg #[.int .i64 x.kind, .string x.path, .int .i64 x.num, .string x.frm, .string x.dst], .string l] w fun e w' => e = .returned (.bool (fitsB x l)) ∧ Below w.heap.size w w' := by
  have hA : Below w.heap.size w (w.alloc (.cells #[.int .i64 x.kind, .string x.path, .int .i64 x.num, .string x.frm, .string x.dst] 60)) := (Below.refl _ _).alloc (Nat.le_refl _) _
  have HB : Hid (fitsB x l = (x.kind == kindS x.frm x.dst)) := Lib.hid (by unfold fitsB; rw [h1, h7, decide_eq_true h2, decide_eq_false h3, if_pos h4, decide_eq_true h5]; rfl)
  have HP := Lib.hid (fun X => synPath_any x.path X hp)
  rw [h1] at HP
  have HS := Lib.hid (fun X => stays_any x X)
  rw [h7] at HS
  have HK := Lib.hid (fun X => kind_any x X)
  have q := str_eqS x.frm l
  subst h2
  clear q
  obtain ⟨s1, s2⟩ := strE_no h3
  obtain ⟨t1, t2⟩ := strE_yes h4
  have n1 : (x.num != 0) = false := by rw [h5]; rfl
  clear h1 h3 h4 h5 h7
  go_enter Tryz.func43, Tryz.ntmps43
  go_wp2_with fail
  refine (HP.out _).mono ?_
  rintro e w1 ⟨rfl, rfl⟩
  go_wp2_with fail
  have cS : ∀ d os, Calls Tryz.prog 67 #[.agg #[.int .i64 x.kind, .string x.path, .int .i64 x.num, .string x.frm, .string x.dst]] (grow (redrawn (w.alloc (.cells #[.int .i64 x.kind, .string x.path, .int .i64 x.num, .string x.frm, .string x.dst] 60)) d) os) fun e w'' => e = .returned (.bool false) ∧ ∃ p : Regrown, w'' = grow (redrawn (w.alloc (.cells #[.int .i64 x.kind, .string x.path, .int .i64 x.num, .string x.frm, .string x.dst] 60)) p.d) p.os := fun d os => Calls.regrown_of (by have hh := HS.out (grow (redrawn (w.alloc (.cells #[.int .i64 x.kind, .string x.path, .int .i64 x.num, .string x.frm, .string x.dst] 60)) d) os); exact hh)
  have cK : ∀ d os, Calls Tryz.prog 68 #[.agg #[.int .i64 x.kind, .string x.path, .int .i64 x.num, .string x.frm, .string x.dst]] (grow (redrawn (w.alloc (.cells #[.int .i64 x.kind, .string x.path, .int .i64 x.num, .string x.frm, .string x.dst] 60)) d) os) fun e w'' => e = .returned (.int .i64 (kindS x.frm x.dst)) ∧ ∃ p : Regrown, w'' = grow (redrawn (w.alloc (.cells #[.int .i64 x.kind, .string x.path, .int .i64 x.num, .string x.frm, .string x.dst] 60)) p.d) p.os := fun d os => Calls.regrown_of (by have hh := HK.out (grow (redrawn (w.alloc (.cells #[.int .i64 x.kind, .string x.path, .int .i64 x.num, .string x.frm, .string x.dst] 60)) d) os); exact hh)
  have bx := box5s (x := x) (blk_new w [.int .i64 x.kind, .string x.path, .int .i64 x.num, .string x.frm, .string x.dst] 60)
  obtain ⟨c0, c1, c2, c3, c4⟩ := bx
  have m0 := cell_regrown c0
  have m1 := cell_regrown c1
  have m2 := cell_regrown c2
  have m3 := cell_regrown c3
  have m4 := cell_regrown c4
  clear c0 c1 c2 c3 c4
  refine wp_region_quiet_below (by kernel_rfl) (by kernel_rfl) ?_
  repeat (first | go_big_quiet_step (first | exact cS _ _ | exact cK _ _) | quiet_step (first | exact cS _ _ | exact cK _ _))
  refine wpQuiet_nil ?_
  intro _ hw9
  obtain ⟨⟨dq, osq⟩, hw9⟩ := hw9
  subst hw9
  have hA := below_step hA hA.size (below_regrown _ dq osq)
  go_wp2_with fail
  go_ret
  exact ⟨ret_bool HB.out.symm, hA⟩
set_option maxHeartbeats 1000000 in
theorem fits_7n (x : Syn) (l : ByteArray) (w : World) (hp : x.path.size ≤ 140737488355328) (hd : x.dst.size ≤ 140737488355328) (h1 : pathB x.path = true) (h2 : x.frm = l) (h3 : ¬ x.frm = emptyS) (h4 : ¬ x.dst = emptyS) (h5 : ¬ 1 ≤ x.num) :
    Calls Tryz.prog 43 #[.agg #[.int .i64 x.kind, .string x.path, .int .i64 x.num, .string x.frm, .string x.dst], .string l] w fun e w' => e = .returned (.bool (fitsB x l)) ∧ Below w.heap.size w w' := by
  have hA : Below w.heap.size w (w.alloc (.cells #[.int .i64 x.kind, .string x.path, .int .i64 x.num, .string x.frm, .string x.dst] 60)) := (Below.refl _ _).alloc (Nat.le_refl _) _
  have HB : Hid (fitsB x l = false) := Lib.hid (by unfold fitsB; simp [h4, h5])
  have HP := Lib.hid (fun X => synPath_any x.path X hp)
  rw [h1] at HP
  have q := str_eqS x.frm l
  subst h2
  clear q
  obtain ⟨s1, s2⟩ := strE_no h3
  obtain ⟨t1, t2⟩ := strE_no h4
  have n2 : decide (x.num < 1) = true := by simp; omega
  clear h1 h3 h4 h5
  go_enter Tryz.func43, Tryz.ntmps43
  go_wp2_with fail
  refine (HP.out _).mono ?_
  rintro e w1 ⟨rfl, rfl⟩
  go_wp2_with fail
  go_ret
  exact ⟨ret_bool HB.out.symm, hA⟩
set_option maxHeartbeats 1000000 in
theorem fits_8n (x : Syn) (l : ByteArray) (w : World) (hp : x.path.size ≤ 140737488355328) (hd : x.dst.size ≤ 140737488355328) (h1 : pathB x.path = true) (h2 : x.frm = l) (h3 : ¬ x.frm = emptyS) (h4 : ¬ x.dst = emptyS) (h5 : 1 ≤ x.num) (h6 : pathB x.dst = false) :
    Calls Tryz.prog 43 #[.agg #[.int .i64 x.kind, .string x.path, .int .i64 x.num, .string x.frm, .string x.dst], .string l] w fun e w' => e = .returned (.bool (fitsB x l)) ∧ Below w.heap.size w w' := by
  have hA : Below w.heap.size w (w.alloc (.cells #[.int .i64 x.kind, .string x.path, .int .i64 x.num, .string x.frm, .string x.dst] 60)) := (Below.refl _ _).alloc (Nat.le_refl _) _
  have HB : Hid (fitsB x l = false) := Lib.hid (by unfold fitsB; simp [h4, h6])
  have HP := Lib.hid (fun X => synPath_any x.path X hp)
  rw [h1] at HP
  have HD := Lib.hid (fun X => synPath_any x.dst X hd)
  rw [h6] at HD
  have q := str_eqS x.frm l
  subst h2
  clear q
  obtain ⟨s1, s2⟩ := strE_no h3
  obtain ⟨t1, t2⟩ := strE_no h4
  have n2 : decide (x.num < 1) = false := by simp; omega
  clear h1 h3 h4 h5 h6
  go_enter Tryz.func43, Tryz.ntmps43
  go_wp2_with fail
  refine (HP.out _).mono ?_
  rintro e w1 ⟨rfl, rfl⟩
  go_wp2_with fail
  refine (HD.out _).mono ?_
  rintro e w1 ⟨rfl, rfl⟩
  go_wp2_with fail
  go_ret
  exact ⟨ret_bool HB.out.symm, hA⟩
set_option maxHeartbeats 1000000 in
theorem fits_9n (x : Syn) (l : ByteArray) (w : World) (hp : x.path.size ≤ 140737488355328) (hd : x.dst.size ≤ 140737488355328) (h1 : pathB x.path = true) (h2 : x.frm = l) (h3 : ¬ x.frm = emptyS) (h4 : ¬ x.dst = emptyS) (h5 : 1 ≤ x.num) (h6 : pathB x.dst = true) (h7 : staysB x.kind = true) :
    Calls Tryz.prog 43 #[.agg #[.int .i64 x.kind, .string x.path, .int .i64 x.num, .string x.frm, .string x.dst], .string l] w fun e w' => e = .returned (.bool (fitsB x l)) ∧ Below w.heap.size w w' := by
  have hA : Below w.heap.size w (w.alloc (.cells #[.int .i64 x.kind, .string x.path, .int .i64 x.num, .string x.frm, .string x.dst] 60)) := (Below.refl _ _).alloc (Nat.le_refl _) _
  have HB : Hid (fitsB x l = true) := Lib.hid (by unfold fitsB; rw [h1, h7, decide_eq_true h2, decide_eq_false h4, if_neg h4, decide_eq_true h5, h6, Bool.and_false]; rfl)
  have HP := Lib.hid (fun X => synPath_any x.path X hp)
  rw [h1] at HP
  have HD := Lib.hid (fun X => synPath_any x.dst X hd)
  rw [h6] at HD
  have HS := Lib.hid (fun X => stays_any x X)
  rw [h7] at HS
  have q := str_eqS x.frm l
  subst h2
  clear q
  obtain ⟨s1, s2⟩ := strE_no h3
  obtain ⟨t1, t2⟩ := strE_no h4
  have n2 : decide (x.num < 1) = false := by simp; omega
  clear h1 h3 h4 h5 h6 h7
  go_enter Tryz.func43, Tryz.ntmps43
  go_wp2_with fail
  refine (HP.out _).mono ?_
  rintro e w1 ⟨rfl, rfl⟩
  go_wp2_with fail
  refine (HD.out _).mono ?_
  rintro e w1 ⟨rfl, rfl⟩
  go_wp2_with fail
  have cS : ∀ d os, Calls Tryz.prog 67 #[.agg #[.int .i64 x.kind, .string x.path, .int .i64 x.num, .string x.frm, .string x.dst]] (grow (redrawn (w.alloc (.cells #[.int .i64 x.kind, .string x.path, .int .i64 x.num, .string x.frm, .string x.dst] 60)) d) os) fun e w'' => e = .returned (.bool true) ∧ ∃ p : Regrown, w'' = grow (redrawn (w.alloc (.cells #[.int .i64 x.kind, .string x.path, .int .i64 x.num, .string x.frm, .string x.dst] 60)) p.d) p.os := fun d os => Calls.regrown_of (by have hh := HS.out (grow (redrawn (w.alloc (.cells #[.int .i64 x.kind, .string x.path, .int .i64 x.num, .string x.frm, .string x.dst] 60)) d) os); exact hh)
  have bx := box5s (x := x) (blk_new w [.int .i64 x.kind, .string x.path, .int .i64 x.num, .string x.frm, .string x.dst] 60)
  obtain ⟨c0, c1, c2, c3, c4⟩ := bx
  have m0 := cell_regrown c0
  have m1 := cell_regrown c1
  have m2 := cell_regrown c2
  have m3 := cell_regrown c3
  have m4 := cell_regrown c4
  clear c0 c1 c2 c3 c4
  refine wp_region_quiet_below (by kernel_rfl) (by kernel_rfl) ?_
  repeat (first | go_big_quiet_step (exact cS _ _) | quiet_step (exact cS _ _))
  refine wpQuiet_nil ?_
  intro _ hw9
  obtain ⟨⟨dq, osq⟩, hw9⟩ := hw9
  subst hw9
  have hA := below_step hA hA.size (below_regrown _ dq osq)
  go_wp2_with fail
  go_ret
  exact ⟨ret_bool HB.out.symm, hA⟩
set_option maxHeartbeats 1000000 in
theorem fits_10n (x : Syn) (l : ByteArray) (w : World) (hp : x.path.size ≤ 140737488355328) (hd : x.dst.size ≤ 140737488355328) (h1 : pathB x.path = true) (h2 : x.frm = l) (h3 : ¬ x.frm = emptyS) (h4 : ¬ x.dst = emptyS) (h5 : 1 ≤ x.num) (h6 : pathB x.dst = true) (h7 : staysB x.kind = false) :
    Calls Tryz.prog 43 #[.agg #[.int .i64 x.kind, .string x.path, .int .i64 x.num, .string x.frm, .string x.dst], .string l] w fun e w' => e = .returned (.bool (fitsB x l)) ∧ Below w.heap.size w w' := by
  have hA : Below w.heap.size w (w.alloc (.cells #[.int .i64 x.kind, .string x.path, .int .i64 x.num, .string x.frm, .string x.dst] 60)) := (Below.refl _ _).alloc (Nat.le_refl _) _
  have HB : Hid (fitsB x l = (x.kind == kindS x.frm x.dst)) := Lib.hid (by unfold fitsB; rw [h1, h7, decide_eq_true h2, decide_eq_false h4, if_neg h4, decide_eq_true h5, h6, Bool.and_false]; rfl)
  have HP := Lib.hid (fun X => synPath_any x.path X hp)
  rw [h1] at HP
  have HD := Lib.hid (fun X => synPath_any x.dst X hd)
  rw [h6] at HD
  have HS := Lib.hid (fun X => stays_any x X)
  rw [h7] at HS
  have HK := Lib.hid (fun X => kind_any x X)
  have q := str_eqS x.frm l
  subst h2
  clear q
  obtain ⟨s1, s2⟩ := strE_no h3
  obtain ⟨t1, t2⟩ := strE_no h4
  have n2 : decide (x.num < 1) = false := by simp; omega
  clear h1 h3 h4 h5 h6 h7
  go_enter Tryz.func43, Tryz.ntmps43
  go_wp2_with fail
  refine (HP.out _).mono ?_
  rintro e w1 ⟨rfl, rfl⟩
  go_wp2_with fail
  refine (HD.out _).mono ?_
  rintro e w1 ⟨rfl, rfl⟩
  go_wp2_with fail
  have cS : ∀ d os, Calls Tryz.prog 67 #[.agg #[.int .i64 x.kind, .string x.path, .int .i64 x.num, .string x.frm, .string x.dst]] (grow (redrawn (w.alloc (.cells #[.int .i64 x.kind, .string x.path, .int .i64 x.num, .string x.frm, .string x.dst] 60)) d) os) fun e w'' => e = .returned (.bool false) ∧ ∃ p : Regrown, w'' = grow (redrawn (w.alloc (.cells #[.int .i64 x.kind, .string x.path, .int .i64 x.num, .string x.frm, .string x.dst] 60)) p.d) p.os := fun d os => Calls.regrown_of (by have hh := HS.out (grow (redrawn (w.alloc (.cells #[.int .i64 x.kind, .string x.path, .int .i64 x.num, .string x.frm, .string x.dst] 60)) d) os); exact hh)
  have cK : ∀ d os, Calls Tryz.prog 68 #[.agg #[.int .i64 x.kind, .string x.path, .int .i64 x.num, .string x.frm, .string x.dst]] (grow (redrawn (w.alloc (.cells #[.int .i64 x.kind, .string x.path, .int .i64 x.num, .string x.frm, .string x.dst] 60)) d) os) fun e w'' => e = .returned (.int .i64 (kindS x.frm x.dst)) ∧ ∃ p : Regrown, w'' = grow (redrawn (w.alloc (.cells #[.int .i64 x.kind, .string x.path, .int .i64 x.num, .string x.frm, .string x.dst] 60)) p.d) p.os := fun d os => Calls.regrown_of (by have hh := HK.out (grow (redrawn (w.alloc (.cells #[.int .i64 x.kind, .string x.path, .int .i64 x.num, .string x.frm, .string x.dst] 60)) d) os); exact hh)
  have bx := box5s (x := x) (blk_new w [.int .i64 x.kind, .string x.path, .int .i64 x.num, .string x.frm, .string x.dst] 60)
  obtain ⟨c0, c1, c2, c3, c4⟩ := bx
  have m0 := cell_regrown c0
  have m1 := cell_regrown c1
  have m2 := cell_regrown c2
  have m3 := cell_regrown c3
  have m4 := cell_regrown c4
  clear c0 c1 c2 c3 c4
  refine wp_region_quiet_below (by kernel_rfl) (by kernel_rfl) ?_
  repeat (first | go_big_quiet_step (first | exact cS _ _ | exact cK _ _) | quiet_step (first | exact cS _ _ | exact cK _ _))
  refine wpQuiet_nil ?_
  intro _ hw9
  obtain ⟨⟨dq, osq⟩, hw9⟩ := hw9
  subst hw9
  have hA := below_step hA hA.size (below_regrown _ dq osq)
  go_wp2_with fail
  go_ret
  exact ⟨ret_bool HB.out.symm, hA⟩
theorem fits_any (x : Syn) (l : ByteArray) (w : World) (hp : x.path.size ≤ 140737488355328) (hd : x.dst.size ≤ 140737488355328) :
    Calls Tryz.prog 43 #[.agg #[.int .i64 x.kind, .string x.path, .int .i64 x.num, .string x.frm, .string x.dst], .string l] w fun e w' => e = .returned (.bool (fitsB x l)) ∧ Below w.heap.size w w' := by
  cases h1 : pathB x.path
  · exact fits_1 x l w hp hd h1
  by_cases h2 : x.frm = l
  rotate_left
  · exact fits_2 x l w hp hd h1 h2
  by_cases h3 : x.frm = emptyS
  · by_cases h4 : x.dst = emptyS
    · exact fits_3 x l w hp hd h1 h2 h3 h4
    by_cases h5 : 1 ≤ x.num
    · cases h6 : pathB x.dst
      · exact fits_8y x l w hp hd h1 h2 h3 h4 h5 h6
      cases h7 : staysB x.kind
      · exact fits_10y x l w hp hd h1 h2 h3 h4 h5 h6 h7
      · exact fits_9y x l w hp hd h1 h2 h3 h4 h5 h6 h7
    · exact fits_7y x l w hp hd h1 h2 h3 h4 h5
  · by_cases h4 : x.dst = emptyS
    · by_cases h5 : x.num = 0
      · cases h7 : staysB x.kind
        · exact fits_6 x l w hp hd h1 h2 h3 h4 h5 h7
        · exact fits_5 x l w hp hd h1 h2 h3 h4 h5 h7
      · exact fits_4 x l w hp hd h1 h2 h3 h4 h5
    by_cases h5 : 1 ≤ x.num
    · cases h6 : pathB x.dst
      · exact fits_8n x l w hp hd h1 h2 h3 h4 h5 h6
      cases h7 : staysB x.kind
      · exact fits_10n x l w hp hd h1 h2 h3 h4 h5 h6 h7
      · exact fits_9n x l w hp hd h1 h2 h3 h4 h5 h6 h7
    · exact fits_7n x l w hp hd h1 h2 h3 h4 h5
end Go.Proofs.YteolonjmgojoeaaGreatDoor
