/- Steps of a plan, entries of a have-list: words, and the leaves of syncplan, have, workspace. -/
import Derived.Test.YteolonjmgojoeaaGreatDoorMzCmpR
import Derived.IntWalk
import Derived.Deep.DeepCutAuto
namespace Go.Proofs.YteolonjmgojoeaaGreatDoor
open Go.RowKit
set_option linter.unusedVariables false
set_option linter.unusedSimpArgs false

structure Syn where
  kind : Int
  path : ByteArray
  num : Int
  frm : ByteArray
  dst : ByteArray
structure Hav where
  path : ByteArray
  num : Int
  loc : ByteArray
def Syn.cells (x : Syn) : List Value := [.int .i64 x.kind, .string x.path, .int .i64 x.num, .string x.frm, .string x.dst]
def Hav.cells (x : Hav) : List Value := [.string x.path, .int .i64 x.num, .string x.loc]
def staysB (k : Int) : Bool := (k == 6) || (k == 5)
/-- The kind of a step that is neither held nor blocked. -/
def kindS (frm dst : ByteArray) : Int := if frm = emptyS then 1 else if dst = emptyS then 4 else if frm = dst then 2 else 3
def pathB (p : ByteArray) : Bool := decide (p.size ≤ 200) && validS p
def Hav.okB (h : Hav) : Bool := pathB h.path && pathB h.loc && decide (1 ≤ h.num)
theorem box5s {w : World} {g : Nat} {e : TypeId} {x : Syn} (h : Blk w g e [.int .i64 x.kind, .string x.path, .int .i64 x.num, .string x.frm, .string x.dst]) : w.cell? ⟨g, 0, none⟩ = some (.int .i64 x.kind) ∧ w.cell? ⟨g, 1, none⟩ = some (.string x.path) ∧ w.cell? ⟨g, 2, none⟩ = some (.int .i64 x.num) ∧ w.cell? ⟨g, 3, none⟩ = some (.string x.frm) ∧ w.cell? ⟨g, 4, none⟩ = some (.string x.dst) :=
  ⟨h.cell 0, h.cell 1, h.cell 2, h.cell 3, h.cell 4⟩
theorem box3h {w : World} {g : Nat} {e : TypeId} {x : Hav} (h : Blk w g e [.string x.path, .int .i64 x.num, .string x.loc]) : w.cell? ⟨g, 0, none⟩ = some (.string x.path) ∧ w.cell? ⟨g, 1, none⟩ = some (.int .i64 x.num) ∧ w.cell? ⟨g, 2, none⟩ = some (.string x.loc) :=
  ⟨h.cell 0, h.cell 1, h.cell 2⟩
theorem stays_cases (k : Int) : ((k == 6) = true ∧ (k != 6) = false ∧ staysB k = true) ∨ ((k == 6) = false ∧ (k != 6) = true ∧ (k == 5) = true ∧ (k != 5) = false ∧ staysB k = true) ∨ ((k == 6) = false ∧ (k != 6) = true ∧ (k == 5) = false ∧ (k != 5) = true ∧ staysB k = false) := by
  unfold staysB bne
  cases (k == 6) <;> cases (k == 5) <;> simp
set_option maxHeartbeats 1000000 in
theorem stays_any (x : Syn) (w : World) : Calls Tryz.prog 67 #[.agg #[.int .i64 x.kind, .string x.path, .int .i64 x.num, .string x.frm, .string x.dst]] w fun e w' => e = .returned (.bool (staysB x.kind)) ∧ Below w.heap.size w w' := by
  have hA : Below w.heap.size w (w.alloc (.cells #[.int .i64 x.kind, .string x.path, .int .i64 x.num, .string x.frm, .string x.dst] 60)) := (Below.refl _ _).alloc (Nat.le_refl _) _
  rcases stays_cases x.kind with ⟨h1, h2, h3⟩ | ⟨h1, h2, h3, h4, h5⟩ | ⟨h1, h2, h3, h4, h5⟩
  all_goals
    have HS := Lib.hid (by first | exact h5 | exact h3)
    go_enter Tryz.func67, Tryz.ntmps67
    go_wp2_with fail
    go_ret
    exact ⟨ret_bool HS.out.symm, hA⟩
set_option maxHeartbeats 1000000 in
theorem done_any (x : Syn) (w : World) : Calls Tryz.prog 22 #[.agg #[.int .i64 x.kind, .string x.path, .int .i64 x.num, .string x.frm, .string x.dst]] w fun e w' => e = .returned (.bool (!staysB x.kind)) ∧ Below w.heap.size w w' := by
  have hA : Below w.heap.size w (w.alloc (.cells #[.int .i64 x.kind, .string x.path, .int .i64 x.num, .string x.frm, .string x.dst] 60)) := (Below.refl _ _).alloc (Nat.le_refl _) _
  rcases stays_cases x.kind with ⟨h1, h2, h3⟩ | ⟨h1, h2, h3, h4, h5⟩ | ⟨h1, h2, h3, h4, h5⟩
  all_goals
    have HS := Lib.hid (by first | exact h5 | exact h3)
    go_enter Tryz.func22, Tryz.ntmps22
    go_wp2_with fail
    go_ret
    exact ⟨ret_bool (by rw [HS.out]; rfl), hA⟩
theorem strE_yes {s : ByteArray} (h : s = emptyS) : s.toList = [] ∧ (s.toList == (⟨#[]⟩ : ByteArray).toList) = true := by subst h; exact ⟨by rw [ByteArray.toList_eq]; rfl, beq_self_eq_true _⟩
theorem strE_no {s : ByteArray} (h : ¬ s = emptyS) : ¬ s.toList = [] ∧ s.toList.isEmpty = false := by
  have h1 : ¬ s.toList = [] := fun e => h (by
    rw [ByteArray.toList_eq] at e
    cases s with | mk a =>
    unfold emptyS
    congr 1
    exact Array.toList_eq_nil_iff.1 e)
  exact ⟨h1, by cases hh : s.toList; exact absurd hh h1; rfl⟩
theorem str_eqS (a b : ByteArray) : (a.toList == b.toList) = decide (a = b) := by
  rw [Bool.eq_iff_iff, beq_iff_eq, decide_eq_true_eq]
  constructor
  · intro h
    rw [ByteArray.toList_eq, ByteArray.toList_eq] at h
    cases a with | mk x => cases b with | mk y =>
    congr 1; exact Array.toList_inj.1 h
  · intro h; rw [h]
set_option maxHeartbeats 1000000 in
theorem kind_any (x : Syn) (w : World) : Calls Tryz.prog 68 #[.agg #[.int .i64 x.kind, .string x.path, .int .i64 x.num, .string x.frm, .string x.dst]] w fun e w' => e = .returned (.int .i64 (kindS x.frm x.dst)) ∧ Below w.heap.size w w' := by
  have hA : Below w.heap.size w (w.alloc (.cells #[.int .i64 x.kind, .string x.path, .int .i64 x.num, .string x.frm, .string x.dst] 60)) := (Below.refl _ _).alloc (Nat.le_refl _) _
  by_cases h1 : x.frm = emptyS
  · have HK : Hid (kindS x.frm x.dst = 1) := Lib.hid (if_pos h1)
    obtain ⟨s1, s2⟩ := strE_yes h1
    clear h1
    go_enter Tryz.func68, Tryz.ntmps68
    go_wp2_with fail
    go_ret
    exact ⟨by rw [HK.out]; rfl, hA⟩
  · obtain ⟨s1, s2⟩ := strE_no h1
    by_cases h2 : x.dst = emptyS
    · have HK : Hid (kindS x.frm x.dst = 4) := Lib.hid (by unfold kindS; rw [if_neg h1, if_pos h2])
      obtain ⟨t1, t2⟩ := strE_yes h2
      clear h1 h2
      go_enter Tryz.func68, Tryz.ntmps68
      go_wp2_with fail
      go_ret
      exact ⟨by rw [HK.out]; rfl, hA⟩
    · obtain ⟨t1, t2⟩ := strE_no h2
      have q := str_eqS x.frm x.dst
      by_cases h3 : x.frm = x.dst
      · have HK : Hid (kindS x.frm x.dst = 2) := Lib.hid (by unfold kindS; rw [if_neg h1, if_neg h2, if_pos h3])
        rw [decide_eq_true h3] at q
        clear h1 h2 h3
        go_enter Tryz.func68, Tryz.ntmps68
        go_wp2_with fail
        go_ret
        exact ⟨by rw [HK.out]; rfl, hA⟩
      · have HK : Hid (kindS x.frm x.dst = 3) := Lib.hid (by unfold kindS; rw [if_neg h1, if_neg h2, if_neg h3])
        rw [decide_eq_false h3] at q
        clear h1 h2 h3
        go_enter Tryz.func68, Tryz.ntmps68
        go_wp2_with fail
        go_ret
        exact ⟨by rw [HK.out]; rfl, hA⟩
set_option maxHeartbeats 1000000 in
theorem synPath_any (p : ByteArray) (w : World) (hp : p.size ≤ 140737488355328) : Calls Tryz.prog 66 #[.string p] w fun e w' => e = .returned (.bool (pathB p)) ∧ w = w' := by
  have HV := Lib.hid (valid_any p w hp)
  by_cases h : p.size ≤ 200
  · have q : decide ((p.size : Int) ≤ 200) = true := by simp; omega
    have HB : Hid (pathB p = validB p.data.toList) := Lib.hid (by unfold pathB; rw [decide_eq_true h]; rfl)
    generalize validB p.data.toList = b at HV HB
    clear h
    go_enter Tryz.func66, Tryz.ntmps66
    go_wp2_with fail
    refine HV.out.mono ?_
    rintro e w' ⟨rfl, rfl⟩
    go_wp2_with fail
    go_ret
    exact ⟨ret_bool HB.out.symm, rfl⟩
  · have q : decide ((p.size : Int) ≤ 200) = false := by simp; omega
    have HB : Hid (pathB p = false) := Lib.hid (by unfold pathB; rw [decide_eq_false h]; rfl)
    clear h
    go_enter Tryz.func66, Tryz.ntmps66
    go_wp2_with fail
    go_ret
    exact ⟨ret_bool HB.out.symm, rfl⟩
set_option maxHeartbeats 1000000 in
theorem havPath_any (p : ByteArray) (w : World) (hp : p.size ≤ 140737488355328) : Calls Tryz.prog 87 #[.string p] w fun e w' => e = .returned (.bool (pathB p)) ∧ w = w' := by
  have HV := Lib.hid (valid_any p w hp)
  by_cases h : p.size ≤ 200
  · have q : decide ((p.size : Int) ≤ 200) = true := by simp; omega
    have HB : Hid (pathB p = validB p.data.toList) := Lib.hid (by unfold pathB; rw [decide_eq_true h]; rfl)
    generalize validB p.data.toList = b at HV HB
    clear h
    go_enter Tryz.func87, Tryz.ntmps87
    go_wp2_with fail
    refine HV.out.mono ?_
    rintro e w' ⟨rfl, rfl⟩
    go_wp2_with fail
    go_ret
    exact ⟨ret_bool HB.out.symm, rfl⟩
  · have q : decide ((p.size : Int) ≤ 200) = false := by simp; omega
    have HB : Hid (pathB p = false) := Lib.hid (by unfold pathB; rw [decide_eq_false h]; rfl)
    clear h
    go_enter Tryz.func87, Tryz.ntmps87
    go_wp2_with fail
    go_ret
    exact ⟨ret_bool HB.out.symm, rfl⟩
set_option maxHeartbeats 1000000 in
theorem havOk_any (h : Hav) (w : World) (h1 : h.path.size ≤ 140737488355328) (h2 : h.loc.size ≤ 140737488355328) : Calls Tryz.prog 64 #[.agg #[.string h.path, .int .i64 h.num, .string h.loc]] w fun e w' => e = .returned (.bool h.okB) ∧ Below w.heap.size w w' := by
  have hA : Below w.heap.size w (w.alloc (.cells #[.string h.path, .int .i64 h.num, .string h.loc] 117)) := (Below.refl _ _).alloc (Nat.le_refl _) _
  have HP := Lib.hid (fun X => havPath_any h.path X h1)
  have HL := Lib.hid (fun X => havPath_any h.loc X h2)
  have HB : Hid (h.okB = (pathB h.path && pathB h.loc && decide (1 ≤ h.num))) := Lib.hid rfl
  generalize h.okB = b at HB ⊢
  cases hb1 : pathB h.path with
  | false =>
    rw [hb1] at HP HB
    clear hb1
    go_enter Tryz.func64, Tryz.ntmps64
    go_wp2_with fail
    refine (HP.out _).mono ?_
    rintro e w' ⟨rfl, rfl⟩
    go_wp2_with fail
    go_ret
    exact ⟨ret_bool (by rw [HB.out]; rfl), hA⟩
  | true =>
    rw [hb1] at HP HB
    clear hb1
    cases hb2 : pathB h.loc with
    | false =>
      rw [hb2] at HL HB
      clear hb2
      go_enter Tryz.func64, Tryz.ntmps64
      go_wp2_with fail
      refine (HP.out _).mono ?_
      rintro e w' ⟨rfl, rfl⟩
      go_wp2_with fail
      refine (HL.out _).mono ?_
      rintro e w' ⟨rfl, rfl⟩
      go_wp2_with fail
      go_ret
      exact ⟨ret_bool (by rw [HB.out]; rfl), hA⟩
    | true =>
      rw [hb2] at HL HB
      clear hb2
      go_enter Tryz.func64, Tryz.ntmps64
      go_wp2_with fail
      refine (HP.out _).mono ?_
      rintro e w' ⟨rfl, rfl⟩
      go_wp2_with fail
      refine (HL.out _).mono ?_
      rintro e w' ⟨rfl, rfl⟩
      go_wp2_with fail
      go_ret
      exact ⟨ret_bool (by rw [HB.out]; rfl), hA⟩
set_option maxHeartbeats 1000000 in
theorem havCompare_any (a b : Hav) (w : World) (ha : a.path.size ≤ 140737488355328) (hb : b.path.size ≤ 140737488355328) :
    Calls Tryz.prog 65 #[.agg #[.string a.path, .int .i64 a.num, .string a.loc], .agg #[.string b.path, .int .i64 b.num, .string b.loc]] w fun e w' => e = .returned (.int .i64 (cmpP a.path b.path)) ∧ Below w.heap.size w w' := by
  have H := Lib.hid (fun X => compare_any a.path b.path X ha hb)
  have hA : Below w.heap.size w ((w.alloc (.cells #[.string a.path, .int .i64 a.num, .string a.loc] 117)).alloc (.cells #[.string b.path, .int .i64 b.num, .string b.loc] 117)) := ((Below.refl _ _).alloc (Nat.le_refl _) _).alloc (by simp) _
  go_enter Tryz.func65, Tryz.ntmps65
  go_wp2_with fail
  refine (H.out _).mono ?_
  rintro e w' ⟨rfl, hq⟩
  have HQ := Lib.hid (below_next hA (hq.below _))
  clear hq
  go_wp2_with fail
  go_ret
  exact ⟨rfl, HQ.out⟩
end Go.Proofs.YteolonjmgojoeaaGreatDoor
