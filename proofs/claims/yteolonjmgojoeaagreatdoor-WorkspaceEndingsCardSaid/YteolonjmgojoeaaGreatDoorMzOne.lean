/- oneEdit. -/
import Derived.Test.YteolonjmgojoeaaGreatDoorMzChk1
namespace Go.Proofs.YteolonjmgojoeaaGreatDoor
open Go.RowKit
set_option linter.unusedVariables false
set_option linter.unusedSimpArgs false

theorem isLive_is (a : Int) (b : Bool) (h : liveA a = b) (w : World) : Calls Tryz.prog 83 #[.int .i64 a] w fun e w' => e = .returned (.bool b) ∧ w = w' := by
  rw [← h]; exact isLive_any a w
theorem check_is (b : Int) (k l x : Bool) (v : Int) (h : errOf 90 (tyOk b k x) = v) (w : World) :
    Calls Tryz.prog 82 #[.agg #[.int .i64 b, .bool k, .bool l, .bool x]] w fun e w' => e = .returned (.int .i64 v) ∧ Below w.heap.size w w' := by
  rw [← h]; exact check_any b k l x w
theorem live_is (f : ByteArray → Option Rev) (p : ByteArray) (r : Rev) (b : Bool) (hr : lastR f p = r) (hb : isLast f p = b) (g : Nat) (dv dr ev rv : Value) (n : Int) (cl tx : ByteArray) (bl be bn : Nat) (w : World) (hk : Chk w g dv dr n cl tx ev rv bl be bn) (hL : LastMap w bl f) :
    Calls Tryz.prog 81 #[.pointer (some ⟨g, 0, none⟩), .string p] w
      fun e w' => e = .returned (.tuple #[.agg #[.string r.path, .int .i64 r.num, .int .i64 r.chg, .int .i64 r.act, .int .i64 r.ty.base, .bool r.ty.k, .bool r.ty.l, .bool r.ty.x, .int .u64 r.sum, .int .i64 r.size, .string r.frm, .int .i64 r.fnum], .bool b]) ∧ Below w.heap.size w w' := by
  rw [← hr, ← hb]; exact live_any f p g dv dr ev rv n cl tx bl be bn w hk hL
theorem empty_toList : emptyS.toList = [] := by rw [ByteArray.toList_eq]; rfl
theorem str_empty {s : ByteArray} (h : s = emptyS) : s.toList = [] := by subst h; exact empty_toList
theorem str_ne {s : ByteArray} (h : s ≠ emptyS) : ¬ s.toList = [] := by
  intro e
  apply h
  rw [← toList_inj, e, empty_toList]
theorem str_isE {s : ByteArray} (h : s ≠ emptyS) : s.toList.isEmpty = false := by
  have := str_ne h
  cases hs : s.toList with
  | nil => exact absurd hs this
  | cons a l => rfl
theorem str_eqB (a b : ByteArray) : (a.toList == b.toList) = decide (a = b) := by
  rw [Bool.eq_iff_iff, beq_iff_eq, decide_eq_true_eq, toList_inj]

/-- The five tests of an action. -/
structure Acts (a : Int) (b1 b2 b3 b4 b5 : Bool) : Prop where
  q1 : (a == 1) = b1
  q2 : (a == 2) = b2
  q3 : (a == 3) = b3
  q4 : (a == 4) = b4
  q5 : (a == 5) = b5
theorem acts_of (a : Int) : Acts a (decide (a = 1)) (decide (a = 2)) (decide (a = 3)) (decide (a = 4)) (decide (a = 5)) := by
  constructor <;> (rw [Bool.eq_iff_iff]; simp)

set_option maxRecDepth 100000 in
set_option maxHeartbeats 4000000 in
theorem oneEdit_no (f : ByteArray → Option Rev) (x : Edt) (g : Nat) (dv dr ev rv : Value) (n : Int) (cl tx : ByteArray) (bl be bn : Nat) (w : World) (hk : Chk w g dv dr n cl tx ev rv bl be bn) (hL : LastMap w bl f) (hA : actE f x ≠ 0) :
    Calls Tryz.prog 57 #[.pointer (some ⟨g, 0, none⟩), .agg #[.string x.path, .int .i64 x.act, .int .i64 x.ty.base, .bool x.ty.k, .bool x.ty.l, .bool x.ty.x, .int .u64 x.sum, .int .i64 x.size, .int .i64 x.base, .string x.frm, .int .i64 x.fnum, .int .i64 x.fence]] w
      fun e w' => e = .returned (.int .i64 113) ∧ Below w.heap.size w w' := by
  have hbW : Below w.heap.size w (w.alloc (.cells #[.string x.path, .int .i64 x.act, .int .i64 x.ty.base, .bool x.ty.k, .bool x.ty.l, .bool x.ty.x, .int .u64 x.sum, .int .i64 x.size, .int .i64 x.base, .string x.frm, .int .i64 x.fnum, .int .i64 x.fence] 54)) := (Below.refl _ _).alloc (Nat.le_refl _) _
  have HLV := Lib.hid (fun r b hr hb => live_is f x.path r b hr hb g dv dr ev rv n cl tx bl be bn (w.alloc (.cells #[.string x.path, .int .i64 x.act, .int .i64 x.ty.base, .bool x.ty.k, .bool x.ty.l, .bool x.ty.x, .int .u64 x.sum, .int .i64 x.size, .int .i64 x.base, .string x.frm, .int .i64 x.fnum, .int .i64 x.fence] 54)) (Blk.below hk hbW (Blk.lt hk)) (FMap.below hL hbW))
  have hX := blk_new w [.string x.path, .int .i64 x.act, .int .i64 x.ty.base, .bool x.ty.k, .bool x.ty.l, .bool x.ty.x, .int .u64 x.sum, .int .i64 x.size, .int .i64 x.base, .string x.frm, .int .i64 x.fnum, .int .i64 x.fence] 54
  have main : ∀ b1 b2 b3 b4 b5 b, Acts x.act b1 b2 b3 b4 b5 → isLast f x.path = b → ((b1 = true ∨ (b1 = false ∧ b4 = true)) ∧ b = true ∨ (b1 = false ∧ b4 = false ∧ (b2 = true ∨ b2 = false ∧ b3 = true ∨ b2 = false ∧ b3 = false ∧ b5 = true) ∧ b = false) ∨ (b1 = false ∧ b4 = false ∧ b2 = false ∧ b3 = false ∧ b5 = false)) →
      Calls Tryz.prog 57 #[.pointer (some ⟨g, 0, none⟩), .agg #[.string x.path, .int .i64 x.act, .int .i64 x.ty.base, .bool x.ty.k, .bool x.ty.l, .bool x.ty.x, .int .u64 x.sum, .int .i64 x.size, .int .i64 x.base, .string x.frm, .int .i64 x.fnum, .int .i64 x.fence]] w fun e w' => e = .returned (.int .i64 113) ∧ Below w.heap.size w w' := by
    intro b1 b2 b3 b4 b5 b hq hb hcase
    obtain ⟨q1, q2, q3, q4, q5⟩ := hq
    have HC := Lib.hid (HLV.out _ b rfl hb)
    clear hb HLV
    generalize lastR f x.path = r at HC
    rcases hcase with ⟨rfl | ⟨rfl, rfl⟩, rfl⟩ | ⟨rfl, rfl, rfl | ⟨rfl, rfl⟩ | ⟨rfl, rfl, rfl⟩, rfl⟩ | ⟨rfl, rfl, rfl, rfl, rfl⟩
    all_goals
      go_enter Tryz.func57, Tryz.ntmps57
      go_wp2_with fail
      refine HC.out.mono ?_
      rintro e w1 ⟨rfl, hb1⟩
      have hX1 := hX.below hb1 hX.lt
      have hbw1 : Below w.heap.size w w1 := below_next hbW hb1
      have hs1 := hX1.lt
      obtain ⟨c0, c1, c2, c3, c4, c5, c6, c7, c8, c9, c10, c11⟩ := box12 hX1
      clear hX1 hb1
      go_wp2_with fail
      go_ret
      exact ⟨rfl, hbw1.alloc hbw1.size _⟩
  refine main _ _ _ _ _ _ (acts_of x.act) rfl ?_
  unfold actE at hA
  by_cases h1 : x.act = 1 ∨ x.act = 4
  · rw [if_pos h1] at hA
    left
    refine ⟨by rcases h1 with h | h <;> simp [h], ?_⟩
    cases hh : isLast f x.path
    · rw [hh] at hA; simp at hA
    · rfl
  · rw [if_neg h1] at hA
    by_cases h2 : x.act = 2 ∨ x.act = 3 ∨ x.act = 5
    · rw [if_pos h2] at hA
      right; left
      refine ⟨by simp; omega, by simp; omega, by rcases h2 with h | h | h <;> simp [h], ?_⟩
      cases hh : isLast f x.path
      · rfl
      · rw [hh] at hA; simp at hA
    · right; right
      refine ⟨?_, ?_, ?_, ?_, ?_⟩ <;> (simp; omega)
end Go.Proofs.YteolonjmgojoeaaGreatDoor
