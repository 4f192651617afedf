/- files, Haves of a tree without files. -/
import Derived.Test.YteolonjmgojoeaaGreatDoorShelf
import Derived.Test.YteolonjmgojoeaaGreatDoorMgw3
import Derived.Maps.OwnSet
namespace Go.Proofs.YteolonjmgojoeaaGreatDoor
open Go.RowKit
set_option linter.unusedVariables false
set_option linter.unusedSimpArgs false

theorem FMap.nil_ {κ α : Type} [BEq κ] [LawfulBEq κ] {kv : κ → Value} {enc : α → Value} {w : World} {B : Nat} (h : FMap kv enc w B (fun _ => none)) : IsMap kv w B [] := by
  obtain ⟨m, hm, hx⟩ := h
  cases m with
  | nil => exact hm
  | cons p m =>
    have := hx p.1
    unfold aget at this
    rw [List.find?_cons] at this
    simp at this
theorem IsMap.block_nil {κ : Type} {kv : κ → Value} {w : World} {B : Nat} (h : IsMap kv w B []) : ∃ clock, w.heap[B]? = some (.map #[] clock) := by
  obtain ⟨es, clock, hB, hp, -⟩ := h
  have : es = #[] := by
    unfold pairsOf at hp
    simpa using hp
  subst this
  exact ⟨clock, hB⟩
theorem len_nil {P : Program} {w : World} {B clock : Nat} {t k e : TypeId} (h : w.heap[B]? = some (.map #[] clock)) (ht : P.underlying t = some (.map k e)) (ty : TypeId) : (Builtin.len_ #[t] ty #[.map (some B)]).run P w = .ok (.int .i64 0) w := by
  simp [Builtin.len_, run_underlying ht, MapKept.run_getObj_map h, goInt, Result.andThen]
set_option maxHeartbeats 2000000 in
theorem sortFiles_none (A : Option Addr) (c : Nat) (f : Value) (w : World) :
    Calls Tryz.prog 70 #[.slice A 0 c, f] w fun e w' => e = .returned (.tuple #[]) ∧ w = w' := by
  have HI : Hid (Calls Tryz.prog 100 #[.slice A 0 c, .int .i64 0, .int .i64 0, f] w fun e w' => e = .returned (.tuple #[]) ∧ w = w') := Lib.hid (by
    go_enter Tryz.func100, Tryz.ntmps100
    go_wp2_with fail
    go_loop [8] (fun v => v = .int .i64 1) (fun _ => 1)
    case atStart => rfl
    case round =>
      subst hrel
      go_wp2_with fail
      go_end0
      exact ⟨rfl, rfl⟩)
  have HP : Hid (∀ lim, Calls Tryz.prog 88 #[.slice A 0 c, .int .i64 0, .int .i64 0, .int .i64 lim, f] w fun e w' => e = .returned (.tuple #[]) ∧ w = w') := Lib.hid (fun lim => by
    go_enter Tryz.func88, Tryz.ntmps88
    go_wp2_with fail
    go_loop [1, 2, 3] (fun a b v => a = .int .i64 0 ∧ b = .int .i64 0 ∧ v = .int .i64 lim) (fun _ _ _ => 1)
    case atStart => exact ⟨rfl, rfl, rfl⟩
    case round =>
      obtain ⟨rfl, rfl, rfl⟩ := hrel
      go_wp2_with fail
      refine HI.out.mono ?_
      rintro e w' ⟨rfl, rfl⟩
      go_wp2_with fail
      refine bodyPost_ret (results_none rfl _ _ _) rfl ?_
      exact ⟨rfl, rfl⟩)
  have HL := Lib.hid (Tryz.bits_Len 0 w (by decide) (by decide))
  go_enter Tryz.func70, Tryz.ntmps70
  go_wp2_with fail
  refine HL.out.mono ?_
  rintro e w' ⟨rfl, rfl⟩
  go_wp2_with fail
  refine (HP.out _).mono ?_
  rintro e w' ⟨rfl, rfl⟩
  go_wp2_with fail
  go_end0
  exact ⟨rfl, rfl⟩
theorem run_mk0 (W : World) : (Instr.makeSlice 84 (.int .i64 0) (.int .i64 0)).run Tryz.prog W = .ok (.slice (some ⟨W.heap.size, 0, none⟩) 0 0) (W.alloc (.cells #[] 88)) :=
  run_mk (z := .pointer none) (bytes := 8) (size := 1) Tryz.underlying84 (by kernel_rfl) (by decide) (zs := [.pointer none]) rfl rfl 0 .i64 .i64 (Nat.zero_le _) (Nat.zero_le _) W
set_option maxRecDepth 100000 in
set_option maxHeartbeats 2000000 in
theorem files_none (t bl bp bs ba : Nat) (n : Int) (w : World) (hT : IsTree w t n bl bp bs ba) (h2 : FMap Value.string ptrV w bp (fun _ => none)) :
    Calls Tryz.prog 46 #[.pointer (some ⟨t, 0, none⟩)] w fun e w' => (∃ A c, e = .returned (.slice A 0 c)) ∧ Below w.heap.size w w' := by
  obtain ⟨t0, t1, t2, t3, t4⟩ := hT.facts
  obtain ⟨clock, hB⟩ := h2.nil_.block_nil
  have hmk := run_mk0
  have hln : (Builtin.len_ #[35] 3 #[.map (some bp)]).run Tryz.prog w = .ok (.int .i64 0) w := len_nil hB Tryz.underlying35 _
  have hA : Below w.heap.size w (w.alloc (.cells #[] 88)) := (Below.refl _ _).alloc (Nat.le_refl _) _
  have hTA : IsTree (w.alloc (.cells #[] 88)) t n bl bp bs ba := hT.below hA hT.lt
  obtain ⟨s0, s1, s2, s3, s4⟩ := hTA.facts
  obtain ⟨w3, hrg, hR3, hb3, hs3⟩ := (h2.nil_.alloc (.cells #[] 88)).range (P := Tryz.prog) Tryz.underlying35
  rw [show (w.alloc (.cells #[] 88)).heap.size = w.heap.size + 1 by simp] at hrg hR3
  have hnx : (Instr.next (.pointer (some ⟨w.heap.size + 1, 0, none⟩)) false 0).run Tryz.prog w3 = .ok (.tuple #[.bool false]) w3 := by
    rcases hR3.next (P := Tryz.prog) 0 with ⟨-, h⟩ | ⟨a, p, b, -, h, -⟩
    · exact h
    · exact absurd h (by simp)
  have HS := Lib.hid (sortFiles_none (some ⟨w.heap.size, 0, none⟩) 0 (.func (.func 71) #[] #[]) w3)
  have HB3 := Lib.hid (below_next hA hb3)
  clear hR3 hb3 hs3 hA
  go_enter Tryz.func46, Tryz.ntmps46
  go_wp2_with fail
  go_loop [3] (fun v => v = .slice (some ⟨w.heap.size, 0, none⟩) 0 0) (fun _ => 1)
  case atStart => rfl
  case round =>
    subst hrel
    go_wp2_with fail
    refine HS.out.mono ?_
    rintro e w' ⟨rfl, rfl⟩
    go_wp2_with fail
    go_ret
    exact ⟨⟨_, _, rfl⟩, HB3.out⟩
set_option maxRecDepth 100000 in
set_option maxHeartbeats 2000000 in
theorem haves_none (t bl bp bs ba : Nat) (n : Int) (w : World) (hT : IsTree w t n bl bp bs ba) (h2 : FMap Value.string ptrV w bp (fun _ => none)) :
    Calls Tryz.prog 21 #[.pointer (some ⟨t, 0, none⟩)] w fun e w' => e = .returned (.slice none 0 0) ∧ Below w.heap.size w w' := by
  have HF := Lib.hid (files_none t bl bp bs ba n w hT h2)
  go_enter Tryz.func21, Tryz.ntmps21
  go_wp2_with fail
  refine HF.out.mono ?_
  rintro e w1 ⟨⟨A, c, rfl⟩, hb⟩
  have HB := Lib.hid hb
  clear hb
  go_wp2_with fail
  go_loop [3, 9] (fun l v => l = .slice none 0 0 ∧ v = .int .i64 0) (fun _ _ => 1)
  case atStart => exact ⟨rfl, rfl⟩
  case round =>
    obtain ⟨rfl, rfl⟩ := hrel
    go_wp2_with fail
    go_ret
    exact ⟨rfl, HB.out⟩
end Go.Proofs.YteolonjmgojoeaaGreatDoor
