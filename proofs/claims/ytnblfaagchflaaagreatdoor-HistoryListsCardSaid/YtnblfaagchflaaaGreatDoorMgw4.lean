/- The comparisons: cmp.Compare, cmp.Or, path.Compare, comparePaths, compareRecords, isLive. -/
import Derived.Test.YtnblfaagchflaaaGreatDoorMzLeafH
import Derived.Test.YtnblfaagchflaaaGreatDoorMgw3
import Derived.Deep.RegionHeld3
import Derived.Deep.MidRow
import Derived.StillTailTactics
import Derived.IntWalk
namespace Go.Proofs.YtnblfaagchflaaaGreatDoor
open Go.RowKit
set_option linter.unusedVariables false
set_option linter.unusedSimpArgs false

set_option maxHeartbeats 1000000 in
theorem cmpInt_any (a b : Int) (w : World) : Calls Tryz.prog 25 #[.int .i64 a, .int .i64 b] w fun e w' => e = .returned (.int .i64 (cmpI a b)) ∧ w = w' := by
  have n1 : (a != a) = false := by simp
  have n2 : (b != b) = false := by simp
  by_cases h1 : a < b
  · have H : Hid (cmpI a b = -1) := Lib.hid (by unfold cmpI; rw [if_pos h1])
    go_enter Tryz.func25, Tryz.ntmps25
    go_wp2
    go_ret
    exact ⟨ret_int H.out.symm, rfl⟩
  · by_cases h2 : b < a
    · have H : Hid (cmpI a b = 1) := Lib.hid (by unfold cmpI; rw [if_neg h1, if_pos h2])
      go_enter Tryz.func25, Tryz.ntmps25
      go_wp2
      go_ret
      exact ⟨ret_int H.out.symm, rfl⟩
    · have H : Hid (cmpI a b = 0) := Lib.hid (by unfold cmpI; rw [if_neg h1, if_neg h2])
      go_enter Tryz.func25, Tryz.ntmps25
      go_wp2
      go_ret
      exact ⟨ret_int H.out.symm, rfl⟩

set_option maxHeartbeats 1000000 in
theorem cmpByte_any (a b : Int) (w : World) : Calls Tryz.prog 24 #[.int .u8 a, .int .u8 b] w fun e w' => e = .returned (.int .i64 (cmpI a b)) ∧ w = w' := by
  have n1 : (a != a) = false := by simp
  have n2 : (b != b) = false := by simp
  by_cases h1 : a < b
  · have H : Hid (cmpI a b = -1) := Lib.hid (by unfold cmpI; rw [if_pos h1])
    go_enter Tryz.func24, Tryz.ntmps24
    go_wp2
    go_ret
    exact ⟨ret_int H.out.symm, rfl⟩
  · by_cases h2 : b < a
    · have H : Hid (cmpI a b = 1) := Lib.hid (by unfold cmpI; rw [if_neg h1, if_pos h2])
      go_enter Tryz.func24, Tryz.ntmps24
      go_wp2
      go_ret
      exact ⟨ret_int H.out.symm, rfl⟩
    · have H : Hid (cmpI a b = 0) := Lib.hid (by unfold cmpI; rw [if_neg h1, if_neg h2])
      go_enter Tryz.func24, Tryz.ntmps24
      go_wp2
      go_ret
      exact ⟨ret_int H.out.symm, rfl⟩

set_option maxHeartbeats 1000000 in
theorem isLive_any (a : Int) (w : World) : Calls Tryz.prog 19 #[.int .i64 a] w fun e w' => e = .returned (.bool (liveA a)) ∧ w = w' := by
  by_cases h1 : a = 3
  · subst h1
    go_enter Tryz.func19, Tryz.ntmps19
    go_wp2
    go_ret
    exact ⟨rfl, rfl⟩
  · have n1 : (a != 3) = true := by simpa using h1
    have H : Hid (liveA a = (a != 5)) := Lib.hid (by unfold liveA; rw [n1]; rfl)
    go_enter Tryz.func19, Tryz.ntmps19
    go_wp2
    go_ret
    exact ⟨ret_bool H.out.symm, rfl⟩

/-- The first that is not zero. -/
def orL : List Int → Int
  | [] => 0
  | a :: l => orI a (orL l)
theorem orL_drop {l : List Int} {k : Nat} (hk : k < l.length) (h : orL l = orL (l.drop k)) (h0 : l[k] = 0) : orL l = orL (l.drop (k + 1)) := by
  rw [h, List.drop_eq_getElem_cons hk]; simp [orL, orI, h0]
theorem orL_at {l : List Int} {k : Nat} (hk : k < l.length) (h : orL l = orL (l.drop k)) (h0 : l[k] ≠ 0) : orL l = l[k] := by
  rw [h, List.drop_eq_getElem_cons hk]; simp [orL, orI, h0]
set_option maxHeartbeats 1000000 in
theorem or_any (l : List Int) (g : Nat) (w : World) (hB : Blk w g 3 (l.map fun n => .int .i64 n)) (hl : l.length ≤ 1000) :
    Calls Tryz.prog 77 #[.slice (some ⟨g, 0, none⟩) l.length l.length] w fun e w' => e = .returned (.int .i64 (orL l)) ∧ w = w' := by
  have HB := Lib.hid hB
  clear hB
  go_enter Tryz.func77, Tryz.ntmps77
  go_wp2
  go_loop [8] (fun i => ∃ k : Nat, k ≤ l.length ∧ i = .int .i64 k ∧ orL l = orL (l.drop k)) (fun i => l.length - (intOf i).toNat)
  case atStart => exact ⟨0, Nat.zero_le _, rfl, rfl⟩
  case round =>
    obtain ⟨k, hk, rfl, ho⟩ := hrel
    have HO := Lib.hid ho
    clear ho
    by_cases hlt : k < l.length
    · have hc : w.cell? ⟨g, k, none⟩ = some (.int .i64 (l[k])) := by
        rw [HB.out.cell]; simp [hlt]
      by_cases h0 : l[k] = 0
      · rw [h0] at hc
        have HN := Lib.hid (orL_drop hlt HO.out h0)
        clear h0
        go_wp2
        go_round
        case rel => exact ⟨k + 1, by omega, by go_num, HN.out⟩
        case measure => simp [intOf]; omega
      · have n : (l[k] != 0) = true := by simpa using h0
        have HN := Lib.hid (orL_at hlt HO.out h0)
        clear h0
        go_wp2
        go_ret
        exact ⟨ret_int HN.out.symm, rfl⟩
    · have HN : Hid (orL l = 0) := Lib.hid (by rw [HO.out, List.drop_of_length_le (by omega)]; rfl)
      go_wp2
      go_ret
      exact ⟨ret_int HN.out.symm, rfl⟩

/-! path.Compare. -/
theorem drop_cons (s : ByteArray) (k : Nat) (h : k < s.size) : s.data.toList.drop k = s[k] :: s.data.toList.drop (k + 1) := by
  rw [List.drop_eq_getElem_cons (by simpa using h)]; rfl
theorem cmp_next {a b : ByteArray} {k : Nat} (ha : k < a.size) (hb : k < b.size) (h : a[k] = b[k]) : cmpL (a.data.toList.drop k) (b.data.toList.drop k) = cmpL (a.data.toList.drop (k + 1)) (b.data.toList.drop (k + 1)) := by
  rw [drop_cons a k ha, drop_cons b k hb, cmpL, if_pos h]
theorem cmp_here {a b : ByteArray} {k : Nat} (ha : k < a.size) (hb : k < b.size) (h : a[k] ≠ b[k]) : cmpL (a.data.toList.drop k) (b.data.toList.drop k) = if a[k] = 47 then -1 else if b[k] = 47 then 1 else cmpI a[k].toNat b[k].toNat := by
  rw [drop_cons a k ha, drop_cons b k hb, cmpL, if_neg h]
  by_cases h1 : a[k] = 47
  · rw [if_pos h1, if_pos h1]
  · rw [if_neg h1, if_neg h1]
    by_cases h2 : b[k] = 47
    · rw [if_pos h2, if_pos h2]
    · rw [if_neg h2, if_neg h2]
      unfold cmpI
      have hne : a[k].toNat ≠ b[k].toNat := fun e => h (UInt8.toNat_inj.1 e)
      by_cases h3 : a[k] < b[k]
      · rw [if_pos h3, if_pos (by rw [UInt8.lt_iff_toNat_lt] at h3; omega)]
      · rw [if_neg h3]
        rw [UInt8.lt_iff_toNat_lt] at h3
        rw [if_neg (by omega), if_pos (by omega)]
theorem cmp_end {a b : ByteArray} {k : Nat} (ha : k ≤ a.size) (hb : k ≤ b.size) (h : ¬ (k < a.size ∧ k < b.size)) : cmpL (a.data.toList.drop k) (b.data.toList.drop k) = cmpI a.size b.size := by
  have la : a.data.toList.length = a.size := rfl
  have lb : b.data.toList.length = b.size := rfl
  unfold cmpI
  by_cases h1 : k < a.size
  · have hb' : b.data.toList.drop k = [] := List.drop_of_length_le (by omega)
    rw [hb', drop_cons a k h1, cmpL, if_neg (by omega), if_pos (by omega)]
  · have ha' : a.data.toList.drop k = [] := List.drop_of_length_le (by omega)
    by_cases h2 : k < b.size
    · rw [ha', drop_cons b k h2, cmpL, if_pos (by omega)]
    · have hb' : b.data.toList.drop k = [] := List.drop_of_length_le (by omega)
      rw [ha', hb', cmpL, if_neg (by omega), if_neg (by omega)]
def errP (b : Bool) : Int := errOf 20 b
theorem ret2 {k j : IntKind} {a b c d : Int} (h1 : a = b) (h2 : c = d) : Ending.returned (.tuple #[.int k a, .int j c]) = .returned (.tuple #[.int k b, .int j d]) := by rw [h1, h2]
def Quiet (w w' : World) : Prop := ∃ n, w' = w.drewN n
theorem Quiet.refl (w : World) : Quiet w w := ⟨0, rfl⟩
theorem Quiet.more {w w' : World} (h : Quiet w w') (n : Nat) : Quiet w (w'.drewN n) := by
  obtain ⟨m, rfl⟩ := h
  exact ⟨m + n, by rw [World.drewN_drewN]⟩
theorem quiet_left {P : Program} {f : FuncId} {args : Array Value} {w : World} {n : Nat} {v : Value}
    (h : Calls P f args (w.drewN n) fun e w' => e = .returned v ∧ w.drewN n = w') : Calls P f args (w.drewN n) fun e w'' => e = .returned v ∧ ∃ m, w'' = w.drewN m :=
  h.mono fun _ _ ⟨he, hm⟩ => ⟨he, n, hm.symm⟩
theorem u8_ne {a b : UInt8} (h : a ≠ b) : ((a.toNat : Int) == (b.toNat : Int)) = false := by
  rw [beq_eq_false_iff_ne]; intro e; exact h (UInt8.toNat_inj.1 (by omega))
theorem u8_47 {a : UInt8} (h : a ≠ 47) : ((a.toNat : Int) == 47) = false := u8_ne (b := 47) h

set_option maxHeartbeats 4000000 in
theorem compare_any (a b : ByteArray) (w : World) (ha : a.size ≤ 140737488355328) (hb : b.size ≤ 140737488355328) :
    Calls Tryz.prog 9 #[.string a, .string b] w fun e w' => e = .returned (.tuple #[.int .i64 (cmpP a b), .int .i64 (errP (validS a && validS b))]) ∧ Quiet w w' := by
  have VA := Lib.hid (valid_any a w ha)
  have VB := Lib.hid (valid_any b w hb)
  cases h1 : validB a.data.toList
  · rw [h1] at VA
    have H : Hid (cmpP a b = 0 ∧ errP (validS a && validS b) = 20) := Lib.hid (by unfold cmpP validS; rw [h1]; exact ⟨rfl, rfl⟩)
    clear h1
    go_enter Tryz.func9, Tryz.ntmps9
    go_wp2_with fail
    refine VA.out.mono ?_
    rintro e w' ⟨rfl, rfl⟩
    go_wp2_with fail
    go_ret2
    exact ⟨ret2 H.out.1.symm H.out.2.symm, Quiet.refl _⟩
  · rw [h1] at VA
    cases h2 : validB b.data.toList
    · rw [h2] at VB
      have H : Hid (cmpP a b = 0 ∧ errP (validS a && validS b) = 20) := Lib.hid (by unfold cmpP validS; rw [h1, h2]; exact ⟨rfl, rfl⟩)
      clear h1 h2
      go_enter Tryz.func9, Tryz.ntmps9
      go_wp2_with fail
      refine VA.out.mono ?_
      rintro e w' ⟨rfl, rfl⟩
      go_wp2_with fail
      refine VB.out.mono ?_
      rintro e w' ⟨rfl, rfl⟩
      go_wp2_with fail
      go_ret2
      exact ⟨ret2 H.out.1.symm H.out.2.symm, Quiet.refl _⟩
    · rw [h2] at VB
      have H : Hid (cmpP a b = cmpL a.data.toList b.data.toList ∧ errP (validS a && validS b) = 0) := Lib.hid (by unfold cmpP validS; rw [h1, h2]; exact ⟨rfl, rfl⟩)
      clear h1 h2
      by_cases hm : b.size < a.size
      all_goals
        go_enter Tryz.func9, Tryz.ntmps9
        go_wp2_with fail
        refine VA.out.mono ?_
        rintro e w' ⟨rfl, rfl⟩
        go_wp2_with fail
        refine VB.out.mono ?_
        rintro e w' ⟨rfl, rfl⟩
        go_wp2_with fail
        clear VA VB
        go_loopw [20] (fun i wr => ∃ k : Nat, k ≤ a.size ∧ k ≤ b.size ∧ i = .int .i64 k ∧ Hid (cmpL a.data.toList b.data.toList = cmpL (a.data.toList.drop k) (b.data.toList.drop k)) ∧ Hid (Quiet w wr)) (fun i _ => a.size - (intOf i).toNat)
        case atStart => exact ⟨0, by omega, by omega, rfl, Lib.hid rfl, Lib.hid (Quiet.refl _)⟩
        case round =>
          obtain ⟨k, hk1, hk2, rfl, HE, HQ⟩ := hrel
          by_cases hlt : k < a.size ∧ k < b.size
          · obtain ⟨l1, l2⟩ := hlt
            by_cases he : a[k] = b[k]
            · have HN := Lib.hid (HE.out.trans (cmp_next l1 l2 he))
              have q : ((a[k].toNat : Int) == (b[k].toNat : Int)) = true := by rw [he]; simp
              clear he
              go_wp2_with fail
              go_quiet (fail)
              go_wp2_with fail
              go_roundw
              case rel => exact ⟨k + 1, by omega, by omega, by go_num, HN, Lib.hid (HQ.out.more nq)⟩
              case measure => simp [intOf]; omega
            · have HN := Lib.hid (HE.out.trans (cmp_here l1 l2 he))
              have q := u8_ne he
              clear he
              by_cases h47 : a[k] = 47
              · rw [if_pos h47] at HN
                have q1 : ((a[k].toNat : Int) == 47) = true := by rw [h47]; rfl
                clear h47
                go_wp2_with fail
                go_quiet (fail)
                go_wp2_with fail
                go_ret2
                exact ⟨ret2 (H.out.1.trans HN.out).symm H.out.2.symm, HQ.out.more nq⟩
              · rw [if_neg h47] at HN
                have q1 := u8_47 h47
                clear h47
                by_cases h47 : b[k] = 47
                · rw [if_pos h47] at HN
                  have q2 : ((b[k].toNat : Int) == 47) = true := by rw [h47]; rfl
                  clear h47
                  go_wp2_with fail
                  go_quiet (fail)
                  go_wp2_with fail
                  go_ret2
                  exact ⟨ret2 (H.out.1.trans HN.out).symm H.out.2.symm, HQ.out.more nq⟩
                · rw [if_neg h47] at HN
                  have q2 := u8_47 h47
                  clear h47
                  go_wp2_with fail
                  go_quiet (fail)
                  go_wp2_with fail
                  have HQ2 := Lib.hid (HQ.out.more nq)
                  generalize wr.drewN nq = w2 at HQ2 ⊢
                  go_quiet ((go_at_call 24; exact quiet_left (cmpByte_any _ _ _)))
                  go_wp2_with fail
                  go_ret2
                  exact ⟨ret2 (H.out.1.trans HN.out).symm H.out.2.symm, HQ2.out.more nq⟩
          · have HN := Lib.hid (HE.out.trans (cmp_end hk1 hk2 hlt))
            have hge : ¬ k < a.size ∨ ¬ k < b.size := by omega
            clear hlt
            go_wp2_with fail
            refine (cmpInt_any _ _ _).mono ?_
            rintro e w' ⟨rfl, rfl⟩
            go_wp2_with fail
            go_ret2
            exact ⟨ret2 (H.out.1.trans HN.out).symm H.out.2.symm, HQ.out⟩
end Go.Proofs.YtnblfaagchflaaaGreatDoor
/- comparePaths and compareRecords. -/
namespace Go.Proofs.YtnblfaagchflaaaGreatDoor
open Go.RowKit
set_option linter.unusedVariables false
set_option linter.unusedSimpArgs false

theorem Quiet.below {w w' : World} (h : Quiet w w') (B : Nat) : Below B w w' := by
  obtain ⟨n, rfl⟩ := h
  exact below_drewN (Below.refl _ _) n
set_option maxHeartbeats 1000000 in
theorem comparePaths_any (a b : ByteArray) (w : World) (ha : a.size ≤ 140737488355328) (hb : b.size ≤ 140737488355328) :
    Calls Tryz.prog 22 #[.string a, .string b] w fun e w' => e = .returned (.int .i64 (cmpP a b)) ∧ Quiet w w' := by
  have H := Lib.hid (compare_any a b w ha hb)
  go_enter Tryz.func22, Tryz.ntmps22
  go_wp2_with fail
  refine H.out.mono ?_
  rintro e w' ⟨rfl, hq⟩
  have HQ := Lib.hid hq
  clear hq
  go_wp2_with fail
  go_ret
  exact ⟨rfl, HQ.out⟩

theorem and_of {p q : Prop} (h : p) (hq : p → q) : p ∧ q := ⟨h, hq h⟩
theorem or4_any (a b c d : Int) (g : Nat) (w : World) (hB : Blk w g 3 [.int .i64 a, .int .i64 b, .int .i64 c, .int .i64 d]) :
    Calls Tryz.prog 77 #[.slice (some ⟨g, 0, none⟩) 4 4] w fun e w' => e = .returned (.int .i64 (orI a (orI b (orI c (orI d 0))))) ∧ w = w' := or_any [a, b, c, d] g w hB (by simp)
theorem box6 {w : World} {g : Nat} {e : TypeId} {a b c d x y : Value} (h : Blk w g e [a, b, c, d, x, y]) :
    w.cell? ⟨g, 0, none⟩ = some a ∧ w.cell? ⟨g, 1, none⟩ = some b ∧ w.cell? ⟨g, 2, none⟩ = some c ∧ w.cell? ⟨g, 3, none⟩ = some d ∧ w.cell? ⟨g, 4, none⟩ = some x ∧ w.cell? ⟨g, 5, none⟩ = some y :=
  ⟨h.cell 0, h.cell 1, h.cell 2, h.cell 3, h.cell 4, h.cell 5⟩

set_option maxRecDepth 100000 in
set_option maxHeartbeats 4000000 in
theorem compareRecords_main (a0 : ByteArray) (a1 a2 : Int) (a3 : ByteArray) (a4 a5 : Int) (b0 : ByteArray) (b1 b2 : Int) (b3 : ByteArray) (b4 b5 : Int) (w : World)
    (h1 : a0.size ≤ 140737488355328) (h2 : a3.size ≤ 140737488355328) (h3 : b0.size ≤ 140737488355328) (h4 : b3.size ≤ 140737488355328) :
    Calls Tryz.prog 43 #[.agg #[.string a0, .int .i64 a1, .int .i64 a2, .string a3, .int .i64 a4, .int .i64 a5], .agg #[.string b0, .int .i64 b1, .int .i64 b2, .string b3, .int .i64 b4, .int .i64 b5]] w
      fun e w' => e = .returned (.int .i64 (orI (cmpP a3 b3) (orI (cmpI a4 b4) (orI (cmpP a0 b0) (orI (cmpI a1 b1) 0))))) ∧ Below w.heap.size w w' := by
  obtain ⟨W, hW⟩ : ∃ W, W = (w.alloc (.cells #[.string a0, .int .i64 a1, .int .i64 a2, .string a3, .int .i64 a4, .int .i64 a5] 57)).alloc (.cells #[.string b0, .int .i64 b1, .int .i64 b2, .string b3, .int .i64 b4, .int .i64 b5] 57) := ⟨_, rfl⟩
  have hbW : Below w.heap.size w W := by rw [hW]; exact ((Below.refl _ _).alloc (Nat.le_refl _) _).alloc (by simp) _
  have hA : Blk W w.heap.size 57 [.string a0, .int .i64 a1, .int .i64 a2, .string a3, .int .i64 a4, .int .i64 a5] := by rw [hW]; exact (blk_new _ _ _).alloc _
  have hB : Blk W (w.heap.size + 1) 57 [.string b0, .int .i64 b1, .int .i64 b2, .string b3, .int .i64 b4, .int .i64 b5] := by
    rw [hW]
    have := blk_new (w.alloc (.cells #[.string a0, .int .i64 a1, .int .i64 a2, .string a3, .int .i64 a4, .int .i64 a5] 57)) [.string b0, .int .i64 b1, .int .i64 b2, .string b3, .int .i64 b4, .int .i64 b5] 57
    simpa using this
  have hlt : w.heap.size + 1 < W.heap.size := hB.lt
  have HW := Lib.hid hW
  clear hW
  go_enter Tryz.func43, Tryz.ntmps43
  go_wp2_with fail
  rw [← HW.out]
  have hc : ∀ w', Below W.heap.size W w' → w'.cell? ⟨w.heap.size, 0, none⟩ = some (.string a0) ∧ w'.cell? ⟨w.heap.size, 1, none⟩ = some (.int .i64 a1) ∧ w'.cell? ⟨w.heap.size, 3, none⟩ = some (.string a3) ∧ w'.cell? ⟨w.heap.size, 4, none⟩ = some (.int .i64 a4) ∧
      w'.cell? ⟨w.heap.size + 1, 0, none⟩ = some (.string b0) ∧ w'.cell? ⟨w.heap.size + 1, 1, none⟩ = some (.int .i64 b1) ∧ w'.cell? ⟨w.heap.size + 1, 3, none⟩ = some (.string b3) ∧ w'.cell? ⟨w.heap.size + 1, 4, none⟩ = some (.int .i64 b4) := fun w' hb => by
    obtain ⟨x0, x1, -, x3, x4, -⟩ := box6 (hA.below hb hA.lt)
    obtain ⟨y0, y1, -, y3, y4, -⟩ := box6 (hB.below hb hB.lt)
    exact ⟨x0, x1, x3, x4, y0, y1, y3, y4⟩
  have HC := Lib.hid hc
  clear hc
  go_region_held3 (fun w' => Below W.heap.size W w' ∧ w'.cell? ⟨w.heap.size, 0, none⟩ = some (.string a0) ∧ w'.cell? ⟨w.heap.size, 1, none⟩ = some (.int .i64 a1) ∧ w'.cell? ⟨w.heap.size, 3, none⟩ = some (.string a3) ∧ w'.cell? ⟨w.heap.size, 4, none⟩ = some (.int .i64 a4) ∧
      w'.cell? ⟨w.heap.size + 1, 0, none⟩ = some (.string b0) ∧ w'.cell? ⟨w.heap.size + 1, 1, none⟩ = some (.int .i64 b1) ∧ w'.cell? ⟨w.heap.size + 1, 3, none⟩ = some (.string b3) ∧ w'.cell? ⟨w.heap.size + 1, 4, none⟩ = some (.int .i64 b4))
    ((refine and_of ?_ (HC.out _); first | exact (Below.refl _ _).drew | assumption | exact hS6.alloc hS6.size _))
    (first
      | (go_at_call 22; (with_reducible refine (comparePaths_any a3 b3 _ h2 h4).mono ?_); rintro e w5 ⟨rfl, hq5⟩; have hS5 : Below W.heap.size W w5 := (Below.refl _ _).drew.trans (hq5.below _); have HC5 := HC.out _ hS5; clear hq5)
      | (go_at_call 22; (with_reducible refine (comparePaths_any a0 b0 _ h1 h3).mono ?_); rintro e w6 ⟨rfl, hq6⟩; have hS6 : Below W.heap.size W w6 := hS5.trans (hq6.below _); have HC6 := HC.out _ hS6; clear hq6)
      | (go_at_call 25; (with_reducible refine (cmpInt_any _ _ _).mono ?_); rintro e w5 ⟨rfl, rfl⟩)
      | (go_at_call 77; (with_reducible refine (or4_any _ _ _ _ w6.heap.size _ (blk_new w6 _ _)).mono ?_); rintro e w7 ⟨rfl, rfl⟩))
  go_wp2_with fail
  go_ret
  exact ⟨rfl, below_next hbW (hS6.alloc hS6.size _)⟩
theorem orI_zero (a : Int) : orI a 0 = a := by unfold orI; split <;> omega
def Rcd.small (r : Rcd) : Prop := r.frm.size ≤ 140737488355328 ∧ r.to.size ≤ 140737488355328
theorem compareRecords_any (a b : Rcd) (w : World) (ha : a.small) (hb : b.small) :
    Calls Tryz.prog 43 #[a.val, b.val] w fun e w' => e = .returned (.int .i64 (cmpR a b)) ∧ Below w.heap.size w w' := by
  have h := compareRecords_main a.frm a.first a.last a.to a.num a.how b.frm b.first b.last b.to b.num b.how w ha.1 ha.2 hb.1 hb.2
  rw [orI_zero] at h
  exact h
end Go.Proofs.YtnblfaagchflaaaGreatDoor
/- Revisions, edits and records in memory; the examination's struct. -/
namespace Go.Proofs.YtnblfaagchflaaaGreatDoor
open Go.RowKit
set_option linter.unusedVariables false
set_option linter.unusedSimpArgs false

theorem flat_len {α : Type} (f : α → List Value) (n : Nat) (hf : ∀ x, (f x).length = n) (l : List α) : (l.flatMap f).length = l.length * n := by
  induction l with
  | nil => simp
  | cons x l ih => simp only [List.flatMap_cons, List.length_append, ih, hf, List.length_cons, Nat.succ_mul]; omega
theorem flat_get {α : Type} (f : α → List Value) (n : Nat) (hf : ∀ x, (f x).length = n) (l : List α) (k j : Nat) (hk : k < l.length) (hj : j < n) : (l.flatMap f)[k * n + j]? = (f l[k])[j]? := by
  induction l generalizing k with
  | nil => simp at hk
  | cons x l ih =>
    simp only [List.flatMap_cons]
    cases k with
    | zero => rw [List.getElem?_append_left (by rw [hf]; omega)]; simp
    | succ k =>
      rw [List.getElem?_append_right (by rw [hf, Nat.succ_mul]; omega), hf, show (k + 1) * n + j - n = k * n + j by rw [Nat.succ_mul]; omega]
      simpa using ih k (by simpa using hk)

def Revs (w : World) (v : Value) (l : List Rev) : Prop := Row w 12 v l.length (l.flatMap Rev.cells)
def Edts (w : World) (v : Value) (l : List Edt) : Prop := Row w 12 v l.length (l.flatMap Edt.cells)
def Rcds (w : World) (v : Value) (l : List Rcd) : Prop := Row w 6 v l.length (l.flatMap Rcd.cells)
section
variable {w w' : World} {v : Value}
theorem Revs.below {l : List Rev} (h : Revs w v l) (hb : Below w.heap.size w w') : Revs w' v l := Row.below h hb
theorem Edts.below {l : List Edt} (h : Edts w v l) (hb : Below w.heap.size w w') : Edts w' v l := Row.below h hb
theorem Rcds.below {l : List Rcd} (h : Rcds w v l) (hb : Below w.heap.size w w') : Rcds w' v l := Row.below h hb
theorem Revs.keep {l : List Rev} (h : Revs w v l) (hs : w.heap.size ≤ w'.heap.size) (hk : ∀ p : Addr, p.block < w.heap.size → w'.cell? p = w.cell? p) : Revs w' v l := Row.keep h hs hk
theorem Revs.nil_ (w : World) : Revs w (.slice none 0 0) [] := Row.nil_ w 12
theorem Rcds.nil_ (w : World) : Rcds w (.slice none 0 0) [] := Row.nil_ w 6
end
/-- The k-th element's cells. -/
theorem row_at {α : Type} {f : α → List Value} {n : Nat} (hf : ∀ x, (f x).length = n) {w : World} {A : Option Addr} {c : Nat} {l : List α} (h : Row w n (.slice A l.length c) l.length (l.flatMap f)) {k : Nat} (hk : k < l.length) :
    ∃ ad, A = some ad ∧ ad.block < w.heap.size ∧ ∀ j v, (f l[k])[j]? = some v → w.cell? (if j = 0 then ad.add (k * n) else ⟨(ad.add (k * n)).block, (ad.add (k * n)).off + j, none⟩) = some v := by
  obtain ⟨ad, e, hb, hc⟩ := Row.at_ h hk
  refine ⟨ad, e, hb, fun j v hv => ?_⟩
  have hj : j < n := by rw [← hf l[k]]; exact (List.getElem?_eq_some_iff.1 hv).1
  have := hc j v (by rw [flat_get f n hf l k j hk hj]; exact hv)
  cases j with
  | zero => simpa using this
  | succ j => rw [if_neg (by omega), add_lit_, add_add']; exact this
def RevAt (w : World) (a : Addr) (x : Rev) : Prop := w.cell? a = some (.string x.path) ∧ w.cell? ⟨a.block, a.off + 1, none⟩ = some (.int .i64 x.num) ∧ w.cell? ⟨a.block, a.off + 2, none⟩ = some (.int .i64 x.chg) ∧ w.cell? ⟨a.block, a.off + 3, none⟩ = some (.int .i64 x.act) ∧ w.cell? ⟨a.block, a.off + 4, none⟩ = some (.int .i64 x.ty.base) ∧ w.cell? ⟨a.block, a.off + 5, none⟩ = some (.bool x.ty.k) ∧ w.cell? ⟨a.block, a.off + 6, none⟩ = some (.bool x.ty.l) ∧ w.cell? ⟨a.block, a.off + 7, none⟩ = some (.bool x.ty.x) ∧ w.cell? ⟨a.block, a.off + 8, none⟩ = some (.int .u64 x.sum) ∧ w.cell? ⟨a.block, a.off + 9, none⟩ = some (.int .i64 x.size) ∧ w.cell? ⟨a.block, a.off + 10, none⟩ = some (.string x.frm) ∧ w.cell? ⟨a.block, a.off + 11, none⟩ = some (.int .i64 x.fnum)
theorem Revs.at_ {w : World} {A : Option Addr} {c : Nat} {l : List Rev} (h : Revs w (.slice A l.length c) l) {k : Nat} (hk : k < l.length) :
    ∃ ad, A = some ad ∧ ad.block < w.heap.size ∧ RevAt w (ad.add (k * 12)) l[k] := by
  obtain ⟨ad, e, hb, hc⟩ := row_at (f := Rev.cells) (n := 12) (fun _ => rfl) h hk
  exact ⟨ad, e, hb, hc 0 _ rfl, hc 1 _ rfl, hc 2 _ rfl, hc 3 _ rfl, hc 4 _ rfl, hc 5 _ rfl, hc 6 _ rfl, hc 7 _ rfl, hc 8 _ rfl, hc 9 _ rfl, hc 10 _ rfl, hc 11 _ rfl⟩
def EdtAt (w : World) (a : Addr) (x : Edt) : Prop := w.cell? a = some (.string x.path) ∧ w.cell? ⟨a.block, a.off + 1, none⟩ = some (.int .i64 x.act) ∧ w.cell? ⟨a.block, a.off + 2, none⟩ = some (.int .i64 x.ty.base) ∧ w.cell? ⟨a.block, a.off + 3, none⟩ = some (.bool x.ty.k) ∧ w.cell? ⟨a.block, a.off + 4, none⟩ = some (.bool x.ty.l) ∧ w.cell? ⟨a.block, a.off + 5, none⟩ = some (.bool x.ty.x) ∧ w.cell? ⟨a.block, a.off + 6, none⟩ = some (.int .u64 x.sum) ∧ w.cell? ⟨a.block, a.off + 7, none⟩ = some (.int .i64 x.size) ∧ w.cell? ⟨a.block, a.off + 8, none⟩ = some (.int .i64 x.base) ∧ w.cell? ⟨a.block, a.off + 9, none⟩ = some (.string x.frm) ∧ w.cell? ⟨a.block, a.off + 10, none⟩ = some (.int .i64 x.fnum) ∧ w.cell? ⟨a.block, a.off + 11, none⟩ = some (.int .i64 x.fence)
theorem Edts.at_ {w : World} {A : Option Addr} {c : Nat} {l : List Edt} (h : Edts w (.slice A l.length c) l) {k : Nat} (hk : k < l.length) :
    ∃ ad, A = some ad ∧ ad.block < w.heap.size ∧ EdtAt w (ad.add (k * 12)) l[k] := by
  obtain ⟨ad, e, hb, hc⟩ := row_at (f := Edt.cells) (n := 12) (fun _ => rfl) h hk
  exact ⟨ad, e, hb, hc 0 _ rfl, hc 1 _ rfl, hc 2 _ rfl, hc 3 _ rfl, hc 4 _ rfl, hc 5 _ rfl, hc 6 _ rfl, hc 7 _ rfl, hc 8 _ rfl, hc 9 _ rfl, hc 10 _ rfl, hc 11 _ rfl⟩
def RcdAt (w : World) (a : Addr) (x : Rcd) : Prop := w.cell? a = some (.string x.frm) ∧ w.cell? ⟨a.block, a.off + 1, none⟩ = some (.int .i64 x.first) ∧ w.cell? ⟨a.block, a.off + 2, none⟩ = some (.int .i64 x.last) ∧ w.cell? ⟨a.block, a.off + 3, none⟩ = some (.string x.to) ∧ w.cell? ⟨a.block, a.off + 4, none⟩ = some (.int .i64 x.num) ∧ w.cell? ⟨a.block, a.off + 5, none⟩ = some (.int .i64 x.how)
theorem Rcds.at_ {w : World} {A : Option Addr} {c : Nat} {l : List Rcd} (h : Rcds w (.slice A l.length c) l) {k : Nat} (hk : k < l.length) :
    ∃ ad, A = some ad ∧ ad.block < w.heap.size ∧ RcdAt w (ad.add (k * 6)) l[k] := by
  obtain ⟨ad, e, hb, hc⟩ := row_at (f := Rcd.cells) (n := 6) (fun _ => rfl) h hk
  exact ⟨ad, e, hb, hc 0 _ rfl, hc 1 _ rfl, hc 2 _ rfl, hc 3 _ rfl, hc 4 _ rfl, hc 5 _ rfl⟩
/-- The struct of an examination, in block g. -/
def Chk (w : World) (g : Nat) (dv dr : Value) (n : Int) (cl tx : ByteArray) (ev rv : Value) (bl be bn : Nat) : Prop :=
  Blk w g 122 [dv, dr, .int .i64 n, .string cl, .string tx, ev, rv, .map (some bl), .map (some be), .map (some bn)]
theorem box10 {w : World} {g : Nat} {dv dr ev rv : Value} {n : Int} {cl tx : ByteArray} {bl be bn : Nat} (h : Chk w g dv dr n cl tx ev rv bl be bn) :
    w.cell? ⟨g, 0, none⟩ = some dv ∧ w.cell? ⟨g, 1, none⟩ = some dr ∧ w.cell? ⟨g, 2, none⟩ = some (.int .i64 n) ∧ w.cell? ⟨g, 5, none⟩ = some ev ∧ w.cell? ⟨g, 6, none⟩ = some rv ∧
    w.cell? ⟨g, 7, none⟩ = some (.map (some bl)) ∧ w.cell? ⟨g, 8, none⟩ = some (.map (some be)) ∧ w.cell? ⟨g, 9, none⟩ = some (.map (some bn)) :=
  ⟨Blk.cell h 0, Blk.cell h 1, Blk.cell h 2, Blk.cell h 5, Blk.cell h 6, Blk.cell h 7, Blk.cell h 8, Blk.cell h 9⟩

/-! size. -/
theorem sizeE_end {revs : List Rev} {c : Chg} (h1 : ¬ (c.edits.length = 0 ∨ 64 < c.edits.length ∨ 64 < c.recs.length)) (h2 : ¬ (c.num < 1 ∨ 1073741824 < c.num)) (h3 : ∀ r ∈ revs, r.chg < c.num) : sizeE revs c = 0 := by
  unfold sizeE
  rw [if_neg h1, if_neg h2, if_neg]
  intro h
  obtain ⟨r, hr, hd⟩ := List.any_eq_true.1 h
  have := h3 r hr
  simp at hd; omega
theorem sizeE_at {revs : List Rev} {c : Chg} {r : Rev} (h1 : ¬ (c.edits.length = 0 ∨ 64 < c.edits.length ∨ 64 < c.recs.length)) (h2 : ¬ (c.num < 1 ∨ 1073741824 < c.num)) (hr : r ∈ revs) (h3 : c.num ≤ r.chg) : sizeE revs c = 112 := by
  unfold sizeE
  rw [if_neg h1, if_neg h2, if_pos]
  exact List.any_eq_true.2 ⟨r, hr, by simpa using h3⟩

set_option maxRecDepth 100000 in
set_option maxHeartbeats 4000000 in
theorem size_any (revs : List Rev) (c : Chg) (g : Nat) (dv dr ev rv : Value) (bl be bn : Nat) (w : World) (hk : Chk w g dv dr c.num c.client c.text ev rv bl be bn) (hR : Revs w dv revs) (hE : Edts w ev c.edits) (hC : Rcds w rv c.recs) :
    Calls Tryz.prog 70 #[.pointer (some ⟨g, 0, none⟩)] w fun e w' => e = .returned (.int .i64 (sizeE revs c)) ∧ Below w.heap.size w w' := by
  obtain ⟨Ar, cr, rfl, hcr, hmr, -⟩ := id hR
  obtain ⟨Ae, ce, rfl, hce, hme, -⟩ := id hE
  obtain ⟨Ac, cc, rfl, hcc, hmc, -⟩ := id hC
  obtain ⟨k0, k1, k2, k5, k6, k7, k8, k9⟩ := box10 hk
  have HR := Lib.hid hR
  have HK := Lib.hid hk
  clear hR hE hC hk
  unfold maxLen at hmr hme hmc
  by_cases h1 : c.edits.length = 0 ∨ 64 < c.edits.length ∨ 64 < c.recs.length
  · have H : Hid (sizeE revs c = 110) := Lib.hid (by unfold sizeE; rw [if_pos h1])
    by_cases a1 : c.edits.length = 0
    · have q1 : ((c.edits.length : Int) == 0) = true := by rw [a1]; rfl
      clear h1 a1
      go_enter Tryz.func70, Tryz.ntmps70
      go_wp2_with fail
      go_quiet (fail)
      go_wp2_with fail
      go_ret
      exact ⟨ret_int H.out.symm, below_drewN (Below.refl _ _) _⟩
    · have q1 : ((c.edits.length : Int) == 0) = false := by rw [beq_eq_false_iff_ne]; omega
      by_cases a2 : 64 < c.edits.length
      · clear h1 a1
        go_enter Tryz.func70, Tryz.ntmps70
        go_wp2_with fail
        go_quiet (fail)
        go_wp2_with fail
        go_ret
        exact ⟨ret_int H.out.symm, below_drewN (Below.refl _ _) _⟩
      · have a3 : 64 < c.recs.length := by omega
        clear h1 a1
        go_enter Tryz.func70, Tryz.ntmps70
        go_wp2_with fail
        go_quiet (fail)
        go_wp2_with fail
        go_ret
        exact ⟨ret_int H.out.symm, below_drewN (Below.refl _ _) _⟩
  · have q1 : ((c.edits.length : Int) == 0) = false := by rw [beq_eq_false_iff_ne]; omega
    have a2 : ¬ 64 < c.edits.length := by omega
    have a3 : ¬ 64 < c.recs.length := by omega
    have H1 := Lib.hid h1
    clear h1
    by_cases h2 : c.num < 1 ∨ 1073741824 < c.num
    · have H : Hid (sizeE revs c = 112) := Lib.hid (by unfold sizeE; rw [if_neg H1.out, if_pos h2])
      by_cases b1 : c.num < 1
      · clear h2
        go_enter Tryz.func70, Tryz.ntmps70
        go_wp2_with fail
        go_quiet (fail)
        go_wp2_with fail
        go_ret
        exact ⟨ret_int H.out.symm, below_drewN (Below.refl _ _) _⟩
      · have b2 : 1073741824 < c.num := by omega
        clear h2
        go_enter Tryz.func70, Tryz.ntmps70
        go_wp2_with fail
        go_quiet (fail)
        go_wp2_with fail
        go_ret
        exact ⟨ret_int H.out.symm, below_drewN (Below.refl _ _) _⟩
    · have b1 : ¬ c.num < 1 := by omega
      have b2 : ¬ 1073741824 < c.num := by omega
      have H2 := Lib.hid h2
      clear h2
      go_enter Tryz.func70, Tryz.ntmps70
      go_wp2_with fail
      go_quiet (fail)
      go_wp2_with fail
      have hb0 : Below w.heap.size w (w.drewN nq) := below_drewN (Below.refl _ _) _
      generalize w.drewN nq = W at hb0 ⊢
      go_loopw [47] (fun i wr => ∃ k : Nat, k ≤ revs.length ∧ i = .int .i64 k ∧ (∀ r ∈ revs.take k, r.chg < c.num) ∧ Below w.heap.size w wr) (fun i _ => revs.length - (intOf i).toNat)
      case atStart => exact ⟨0, Nat.zero_le _, rfl, by simp, hb0⟩
      case round =>
        obtain ⟨k, hk, rfl, hall, hbl⟩ := hrel
        have HA := Lib.hid hall
        clear hall
        by_cases hlt : k < revs.length
        · obtain ⟨ad, rfl, hab, hld⟩ := Revs.at_ (HR.out.below hbl) hlt
          have hmem : revs[k] ∈ revs := List.getElem_mem _
          have htk : revs.take (k + 1) = revs.take k ++ [revs[k]] := List.take_succ_eq_append_getElem hlt
          have HT := Lib.hid htk
          clear htk
          generalize revs[k] = r at hld hmem HT
          obtain ⟨x0, x1, x2, x3, x4, x5, x6, x7, x8, x9, x10, x11⟩ := hld
          have hb2 := hbl.alloc hbl.size (.cells #[.string r.path, .int .i64 r.num, .int .i64 r.chg, .int .i64 r.act, .int .i64 r.ty.base, .bool r.ty.k, .bool r.ty.l, .bool r.ty.x, .int .u64 r.sum, .int .i64 r.size, .string r.frm, .int .i64 r.fnum] 40)
          by_cases hc : c.num ≤ r.chg
          · have H : Hid (sizeE revs c = 112) := Lib.hid (sizeE_at H1.out H2.out hmem hc)
            go_wp2_with fail
            go_ret
            exact ⟨ret_int H.out.symm, hb2⟩
          · go_wp2_with fail
            go_roundw
            case rel => exact ⟨k + 1, by omega, by go_num, by rw [HT.out]; intro x hx; rcases List.mem_append.1 hx with hx | hx
                                                              · exact HA.out x hx
                                                              · rw [List.mem_singleton.1 hx]; omega, hb2⟩
            case measure => simp [intOf]; omega
        · have H : Hid (sizeE revs c = 0) := Lib.hid (sizeE_end H1.out H2.out (by have := HA.out; rwa [List.take_of_length_le (by omega)] at this))
          go_wp2_with fail
          go_ret
          exact ⟨ret_int H.out.symm, hbl⟩
end Go.Proofs.YtnblfaagchflaaaGreatDoor
/- The three maps of an examination; lineOf, live. -/
namespace Go.Proofs.YtnblfaagchflaaaGreatDoor
open Go.RowKit
set_option linter.unusedVariables false
set_option linter.unusedSimpArgs false

theorem toList_inj {a b : ByteArray} : a.toList = b.toList ↔ a = b := by
  constructor
  · intro h
    rw [ByteArray.toList_eq, ByteArray.toList_eq] at h
    cases a with | mk x => cases b with | mk y =>
    congr 1; exact Array.toList_inj.1 h
  · intro h; rw [h]
theorem equal_fil (a b : Fil) (w : World) : (Op.equal 90 (filV a) (filV b)).run Tryz.prog w = .ok (a == b) w := by
  obtain ⟨a0, a1⟩ := a
  obtain ⟨b0, b1⟩ := b
  show (Op.equalIn 10000 90 _ _).run Tryz.prog w = _
  unfold filV
  rw [run_equalIn_agg w 9999 90 _ _ (by kernel_rfl) (by kernel_rfl)]
  simp [go_sem, Op.eqFields, toList_inj]
  by_cases h1 : a0 = b0 <;> by_cases h2 : a1 = b1 <;> simp [h1, h2]
theorem check_fil (b : Bool) (a : Fil) (w : World) : (Instr.checkKey b 10000 90 (filV a)).run Tryz.prog w = .ok () w := by
  unfold filV
  rw [Instr.checkKey]
  simp [run_underlying Tryz.underlying90, go_sem]
  rw [check_string Tryz.underlying9 b _ w 9998, Result.andThen_ok]
  exact check_int Tryz.underlying3 b _ w 9998
theorem bits_fil (a : Fil) : Instr.sameBits 10000 (filV a) (filV a) = true := by
  unfold filV
  rw [Instr.sameBits]
  simp [bits_string, bits_int]
theorem keyOk_fil : KeyOk Tryz.prog 90 filV :=
  ⟨find_of_ask Tryz.underlying90 (fun _ _ => rfl) equal_fil, check_fil, fun a b h => by
    have : b = a := (eq_of_beq h).symm
    subst this
    exact bits_fil b⟩
theorem keyOk_str : KeyOk Tryz.prog 9 Value.string := keyOk_string Tryz.underlying9

def LastMap (w : World) (B : Nat) (f : ByteArray → Option Rev) : Prop := FMap Value.string Rev.val w B f
def EditMap (w : World) (B : Nat) (f : ByteArray → Option Edt) : Prop := FMap Value.string Edt.val w B f
def LineMap (w : World) (B : Nat) (f : Fil → Option Fil) : Prop := FMap filV filV w B f
theorem zero_rev (w : World) : (zeroValue 40).run Tryz.prog w = .ok zeroRev.val w := by kernel_rfl
theorem zero_edt (w : World) : (zeroValue 55).run Tryz.prog w = .ok zeroEdt.val w := by kernel_rfl
theorem zero_fil (w : World) : (zeroValue 90).run Tryz.prog w = .ok (filV zeroFil) w := by kernel_rfl
section
variable {w : World} {B : Nat}
theorem LastMap.look {f : ByteArray → Option Rev} (h : LastMap w B f) (p : ByteArray) : (Instr.lookup 63 (.map (some B)) (.string p) false).run Tryz.prog w = .ok (.agg #[.string (lastR f p).path, .int .i64 (lastR f p).num, .int .i64 (lastR f p).chg, .int .i64 (lastR f p).act, .int .i64 (lastR f p).ty.base, .bool (lastR f p).ty.k, .bool (lastR f p).ty.l, .bool (lastR f p).ty.x, .int .u64 (lastR f p).sum, .int .i64 (lastR f p).size, .string (lastR f p).frm, .int .i64 (lastR f p).fnum]) w := by
  rw [FMap.lookup h keyOk_str Tryz.underlying63 (zero_rev w) p false]
  unfold lookV lastR
  cases f p <;> rfl
theorem LastMap.look2 {f : ByteArray → Option Rev} (h : LastMap w B f) (p : ByteArray) : (Instr.lookup 63 (.map (some B)) (.string p) true).run Tryz.prog w = .ok (.tuple #[.agg #[.string (lastR f p).path, .int .i64 (lastR f p).num, .int .i64 (lastR f p).chg, .int .i64 (lastR f p).act, .int .i64 (lastR f p).ty.base, .bool (lastR f p).ty.k, .bool (lastR f p).ty.l, .bool (lastR f p).ty.x, .int .u64 (lastR f p).sum, .int .i64 (lastR f p).size, .string (lastR f p).frm, .int .i64 (lastR f p).fnum], .bool (f p).isSome]) w := by
  rw [FMap.lookup h keyOk_str Tryz.underlying63 (zero_rev w) p true]
  unfold lookV lastR
  cases f p <;> rfl
def editR (f : ByteArray → Option Edt) (p : ByteArray) : Edt := (f p).getD zeroEdt
theorem EditMap.look {f : ByteArray → Option Edt} (h : EditMap w B f) (p : ByteArray) : (Instr.lookup 119 (.map (some B)) (.string p) false).run Tryz.prog w = .ok (.agg #[.string (editR f p).path, .int .i64 (editR f p).act, .int .i64 (editR f p).ty.base, .bool (editR f p).ty.k, .bool (editR f p).ty.l, .bool (editR f p).ty.x, .int .u64 (editR f p).sum, .int .i64 (editR f p).size, .int .i64 (editR f p).base, .string (editR f p).frm, .int .i64 (editR f p).fnum, .int .i64 (editR f p).fence]) w := by
  rw [FMap.lookup h keyOk_str Tryz.underlying119 (zero_edt w) p false]
  unfold lookV editR
  cases f p <;> rfl
theorem EditMap.look2 {f : ByteArray → Option Edt} (h : EditMap w B f) (p : ByteArray) : (Instr.lookup 119 (.map (some B)) (.string p) true).run Tryz.prog w = .ok (.tuple #[.agg #[.string (editR f p).path, .int .i64 (editR f p).act, .int .i64 (editR f p).ty.base, .bool (editR f p).ty.k, .bool (editR f p).ty.l, .bool (editR f p).ty.x, .int .u64 (editR f p).sum, .int .i64 (editR f p).size, .int .i64 (editR f p).base, .string (editR f p).frm, .int .i64 (editR f p).fnum, .int .i64 (editR f p).fence], .bool (f p).isSome]) w := by
  rw [FMap.lookup h keyOk_str Tryz.underlying119 (zero_edt w) p true]
  unfold lookV editR
  cases f p <;> rfl
def lineR (f : Fil → Option Fil) (p : Fil) : Fil := (f p).getD zeroFil
theorem LineMap.look {f : Fil → Option Fil} (h : LineMap w B f) (p : ByteArray) (n : Int) : (Instr.lookup 120 (.map (some B)) (.agg #[.string p, .int .i64 n]) false).run Tryz.prog w = .ok (.agg #[.string (lineR f (p, n)).1, .int .i64 (lineR f (p, n)).2]) w := by
  have := FMap.lookup h keyOk_fil Tryz.underlying120 (zero_fil w) (p, n) false
  unfold lookV at this
  unfold lineR
  cases hf : f (p, n) <;> (rw [hf] at this; exact this)
theorem LineMap.look2 {f : Fil → Option Fil} (h : LineMap w B f) (p : ByteArray) (n : Int) : (Instr.lookup 120 (.map (some B)) (.agg #[.string p, .int .i64 n]) true).run Tryz.prog w = .ok (.tuple #[.agg #[.string (lineR f (p, n)).1, .int .i64 (lineR f (p, n)).2], .bool (f (p, n)).isSome]) w := by
  have := FMap.lookup h keyOk_fil Tryz.underlying120 (zero_fil w) (p, n) true
  unfold lookV at this
  unfold lineR
  cases hf : f (p, n) <;> (rw [hf] at this; exact this)
end

/-! lineOf. -/
theorem box12 {w : World} {g : Nat} {e : TypeId} {a0 a1 a2 a3 a4 a5 a6 a7 a8 a9 a10 a11 : Value} (h : Blk w g e [a0, a1, a2, a3, a4, a5, a6, a7, a8, a9, a10, a11]) :
    w.cell? ⟨g, 0, none⟩ = some a0 ∧ w.cell? ⟨g, 1, none⟩ = some a1 ∧ w.cell? ⟨g, 2, none⟩ = some a2 ∧ w.cell? ⟨g, 3, none⟩ = some a3 ∧ w.cell? ⟨g, 4, none⟩ = some a4 ∧ w.cell? ⟨g, 5, none⟩ = some a5 ∧
    w.cell? ⟨g, 6, none⟩ = some a6 ∧ w.cell? ⟨g, 7, none⟩ = some a7 ∧ w.cell? ⟨g, 8, none⟩ = some a8 ∧ w.cell? ⟨g, 9, none⟩ = some a9 ∧ w.cell? ⟨g, 10, none⟩ = some a10 ∧ w.cell? ⟨g, 11, none⟩ = some a11 :=
  ⟨h.cell 0, h.cell 1, h.cell 2, h.cell 3, h.cell 4, h.cell 5, h.cell 6, h.cell 7, h.cell 8, h.cell 9, h.cell 10, h.cell 11⟩
theorem box2 {w : World} {g : Nat} {e : TypeId} {a b : Value} (h : Blk w g e [a, b]) : w.cell? ⟨g, 0, none⟩ = some a ∧ w.cell? ⟨g, 1, none⟩ = some b ∧ w.frozen? ⟨g, 0, none⟩ = false ∧ w.frozen? ⟨g, 1, none⟩ = false :=
  ⟨h.cell 0, h.cell 1, h.frozen 0, h.frozen 1⟩
set_option maxRecDepth 100000 in
set_option maxHeartbeats 4000000 in
theorem lineOf_main (f : Fil → Option Fil) (r : Rev) (g : Nat) (dv dr ev rv : Value) (n : Int) (cl tx : ByteArray) (bl be bn : Nat) (w : World) (hk : Chk w g dv dr n cl tx ev rv bl be bn) (hL : LineMap w bn f) (hn : 0 < r.num) (hn2 : r.num ≤ 1000000) :
    Calls Tryz.prog 69 #[.pointer (some ⟨g, 0, none⟩), .agg #[.string r.path, .int .i64 r.num, .int .i64 r.chg, .int .i64 r.act, .int .i64 r.ty.base, .bool r.ty.k, .bool r.ty.l, .bool r.ty.x, .int .u64 r.sum, .int .i64 r.size, .string r.frm, .int .i64 r.fnum]] w
      fun e w' => e = .returned (.agg #[.string (lineV f r).1, .int .i64 (lineV f r).2]) ∧ Below w.heap.size w w' := by
  obtain ⟨W, hW⟩ : ∃ W, W = (w.alloc (.cells #[.string r.path, .int .i64 r.num, .int .i64 r.chg, .int .i64 r.act, .int .i64 r.ty.base, .bool r.ty.k, .bool r.ty.l, .bool r.ty.x, .int .u64 r.sum, .int .i64 r.size, .string r.frm, .int .i64 r.fnum] 40)).alloc (.cells #[.string ⟨#[]⟩, .int .i64 0] 90) := ⟨_, rfl⟩
  have hbW : Below w.heap.size w W := by rw [hW]; exact ((Below.refl _ _).alloc (Nat.le_refl _) _).alloc (by simp) _
  have hR : Blk W w.heap.size 40 [.string r.path, .int .i64 r.num, .int .i64 r.chg, .int .i64 r.act, .int .i64 r.ty.base, .bool r.ty.k, .bool r.ty.l, .bool r.ty.x, .int .u64 r.sum, .int .i64 r.size, .string r.frm, .int .i64 r.fnum] := by rw [hW]; exact (blk_new w _ _).alloc _
  have hF : Blk W (w.heap.size + 1) 90 [.string ⟨#[]⟩, .int .i64 0] := by
    rw [hW]
    have := blk_new (w.alloc (.cells #[.string r.path, .int .i64 r.num, .int .i64 r.chg, .int .i64 r.act, .int .i64 r.ty.base, .bool r.ty.k, .bool r.ty.l, .bool r.ty.x, .int .u64 r.sum, .int .i64 r.size, .string r.frm, .int .i64 r.fnum] 40)) [.string ⟨#[]⟩, .int .i64 0] 90
    simpa using this
  have hK : Chk W g dv dr n cl tx ev rv bl be bn := Blk.below hk hbW (Blk.lt hk)
  have hLW : LineMap W bn f := FMap.below hL hbW
  have HW := Lib.hid hW
  clear hW
  by_cases h1 : r.act = 1
  · have H : Hid (lineV f r = (r.path, r.num)) := Lib.hid (by unfold lineV; rw [if_pos h1])
    have q1 : (r.act == 1) = true := by rw [h1]; rfl
    clear h1 hbW
    go_enter Tryz.func69, Tryz.ntmps69
    go_wp2_with fail
    refine bodyPost_ret (v := .agg #[.string r.path, .int .i64 r.num]) (by simp [results, Tryz.results69, go_sem]) rfl ⟨?_, ((Below.refl _ _).alloc (Nat.le_refl _) _).alloc (by simp) _⟩
    rw [H.out]
  · have q1 : (r.act == 1) = false := by simpa using h1
    obtain ⟨c0, c1, c2, c3, c4, c5, c6, c7, c8, c9, c10, c11⟩ := box12 hR
    obtain ⟨f0, f1, f2, f3⟩ := box2 hF
    obtain ⟨k0, k1, k2, k5, k6, k7, k8, k9⟩ := box10 hK
    by_cases h4 : r.act = 4
    · have H : Hid (lineV f r = lineR f (r.frm, r.fnum)) := Lib.hid (by unfold lineV lineR; rw [if_neg h1, if_pos h4])
      have q4 : (r.act == 4) = true := by rw [h4]; rfl
      have hlk := LineMap.look (w := W.drew) hLW r.frm r.fnum
      clear h1 h4
      generalize lineR f (r.frm, r.fnum) = o at H hlk
      go_enter Tryz.func69, Tryz.ntmps69
      go_wp2_with fail
      rw [← HW.out]
      go_still_tail 10, (by kernel_rfl)
      change wpList _ _ _ _ _ W.drew
      have hB2 : Below w.heap.size w W.drew := hbW.drew
      have hF2 : Blk W.drew (w.heap.size + 1) 90 [.string ⟨#[]⟩, .int .i64 0] := hF
      clear hlk
      generalize W.drew = W2 at hB2 hF2 ⊢
      obtain ⟨f0, f1, f2, f3⟩ := box2 hF2
      go_wp2_with fail
      have hF3 := (hF2.set_ 0 (.string o.1)).set_ 1 (.int .i64 o.2)
      have hB3 := (hB2.setCell (p := ⟨w.heap.size + 1, 0, none⟩) (by simp) (.string o.1)).setCell (p := ⟨w.heap.size + 1, 1, none⟩) (by simp) (.int .i64 o.2)
      generalize ((W2.setCell ⟨w.heap.size + 1, 0, none⟩ (.string o.1)).setCell ⟨w.heap.size + 1, 1, none⟩ (.int .i64 o.2)) = W3 at hF3 hB3 ⊢
      obtain ⟨e0, e1, -, -⟩ := box2 hF3
      refine bodyPost_ret (v := .agg #[.string o.1, .int .i64 o.2]) (by simp [results, Tryz.results69, go_sem, e0, e1]) rfl ⟨?_, hB3⟩
      rw [H.out]
    · have H : Hid (lineV f r = lineR f (r.path, r.num - 1)) := Lib.hid (by unfold lineV lineR; rw [if_neg h1, if_neg h4])
      have q4 : (r.act == 4) = false := by simpa using h4
      have hlk := LineMap.look (w := W.drew) hLW r.path (r.num - 1)
      clear h1 h4
      generalize lineR f (r.path, r.num - 1) = o at H hlk
      go_enter Tryz.func69, Tryz.ntmps69
      go_wp2_with fail
      rw [← HW.out]
      have hwr : IntKind.i64.wrap (r.num - 1) = r.num - 1 := IntWalk.i64_in _ (by omega)
      go_still_tail 11, (by kernel_rfl)
      change wpList _ _ _ _ _ W.drew
      clear hwr
      have hB2 : Below w.heap.size w W.drew := hbW.drew
      have hF2 : Blk W.drew (w.heap.size + 1) 90 [.string ⟨#[]⟩, .int .i64 0] := hF
      clear hlk
      generalize W.drew = W2 at hB2 hF2 ⊢
      obtain ⟨f0, f1, f2, f3⟩ := box2 hF2
      go_wp2_with fail
      have hF3 := (hF2.set_ 0 (.string o.1)).set_ 1 (.int .i64 o.2)
      have hB3 := (hB2.setCell (p := ⟨w.heap.size + 1, 0, none⟩) (by simp) (.string o.1)).setCell (p := ⟨w.heap.size + 1, 1, none⟩) (by simp) (.int .i64 o.2)
      generalize ((W2.setCell ⟨w.heap.size + 1, 0, none⟩ (.string o.1)).setCell ⟨w.heap.size + 1, 1, none⟩ (.int .i64 o.2)) = W3 at hF3 hB3 ⊢
      obtain ⟨e0, e1, -, -⟩ := box2 hF3
      refine bodyPost_ret (v := .agg #[.string o.1, .int .i64 o.2]) (by simp [results, Tryz.results69, go_sem, e0, e1]) rfl ⟨?_, hB3⟩
      rw [H.out]
end Go.Proofs.YtnblfaagchflaaaGreatDoor
/- live, unchanged, revision, room. -/
namespace Go.Proofs.YtnblfaagchflaaaGreatDoor
open Go.RowKit
set_option linter.unusedVariables false
set_option linter.unusedSimpArgs false

theorem isLast_eq (f : ByteArray → Option Rev) (p : ByteArray) : isLast f p = ((f p).isSome && liveA (lastR f p).act) := by
  unfold isLast lastR; cases f p <;> rfl
theorem frz12 {w : World} {g : Nat} {e : TypeId} {a0 a1 a2 a3 a4 a5 a6 a7 a8 a9 a10 a11 : Value} (h : Blk w g e [a0, a1, a2, a3, a4, a5, a6, a7, a8, a9, a10, a11]) :
    w.frozen? ⟨g, 0, none⟩ = false ∧ w.frozen? ⟨g, 1, none⟩ = false ∧ w.frozen? ⟨g, 2, none⟩ = false ∧ w.frozen? ⟨g, 3, none⟩ = false ∧ w.frozen? ⟨g, 4, none⟩ = false ∧ w.frozen? ⟨g, 5, none⟩ = false ∧
    w.frozen? ⟨g, 6, none⟩ = false ∧ w.frozen? ⟨g, 7, none⟩ = false ∧ w.frozen? ⟨g, 8, none⟩ = false ∧ w.frozen? ⟨g, 9, none⟩ = false ∧ w.frozen? ⟨g, 10, none⟩ = false ∧ w.frozen? ⟨g, 11, none⟩ = false :=
  ⟨h.frozen 0, h.frozen 1, h.frozen 2, h.frozen 3, h.frozen 4, h.frozen 5, h.frozen 6, h.frozen 7, h.frozen 8, h.frozen 9, h.frozen 10, h.frozen 11⟩
theorem set12 {w : World} {g : Nat} {e : TypeId} {a0 a1 a2 a3 a4 a5 a6 a7 a8 a9 a10 a11 : Value} (h : Blk w g e [a0, a1, a2, a3, a4, a5, a6, a7, a8, a9, a10, a11]) (r : Rev) :
    Blk ((((((((((((w.setCell ⟨g, 0, none⟩ (.string r.path)).setCell ⟨g, 1, none⟩ (.int .i64 r.num)).setCell ⟨g, 2, none⟩ (.int .i64 r.chg)).setCell ⟨g, 3, none⟩ (.int .i64 r.act)).setCell ⟨g, 4, none⟩ (.int .i64 r.ty.base)).setCell ⟨g, 5, none⟩ (.bool r.ty.k)).setCell ⟨g, 6, none⟩ (.bool r.ty.l)).setCell ⟨g, 7, none⟩ (.bool r.ty.x)).setCell ⟨g, 8, none⟩ (.int .u64 r.sum)).setCell ⟨g, 9, none⟩ (.int .i64 r.size)).setCell ⟨g, 10, none⟩ (.string r.frm)).setCell ⟨g, 11, none⟩ (.int .i64 r.fnum)) g e [.string r.path, .int .i64 r.num, .int .i64 r.chg, .int .i64 r.act, .int .i64 r.ty.base, .bool r.ty.k, .bool r.ty.l, .bool r.ty.x, .int .u64 r.sum, .int .i64 r.size, .string r.frm, .int .i64 r.fnum] :=
  ((((((((((((h.set_ 0 _).set_ 1 _).set_ 2 _).set_ 3 _).set_ 4 _).set_ 5 _).set_ 6 _).set_ 7 _).set_ 8 _).set_ 9 _).set_ 10 _).set_ 11 _)
theorem below12 {B : Nat} {w0 w : World} {g : Nat} (h : Below B w0 w) (hg : B ≤ g) (r : Rev) : Below B w0 ((((((((((((w.setCell ⟨g, 0, none⟩ (.string r.path)).setCell ⟨g, 1, none⟩ (.int .i64 r.num)).setCell ⟨g, 2, none⟩ (.int .i64 r.chg)).setCell ⟨g, 3, none⟩ (.int .i64 r.act)).setCell ⟨g, 4, none⟩ (.int .i64 r.ty.base)).setCell ⟨g, 5, none⟩ (.bool r.ty.k)).setCell ⟨g, 6, none⟩ (.bool r.ty.l)).setCell ⟨g, 7, none⟩ (.bool r.ty.x)).setCell ⟨g, 8, none⟩ (.int .u64 r.sum)).setCell ⟨g, 9, none⟩ (.int .i64 r.size)).setCell ⟨g, 10, none⟩ (.string r.frm)).setCell ⟨g, 11, none⟩ (.int .i64 r.fnum)) :=
  ((((((((((((h.setCell hg _).setCell hg _).setCell hg _).setCell hg _).setCell hg _).setCell hg _).setCell hg _).setCell hg _).setCell hg _).setCell hg _).setCell hg _).setCell hg _)

set_option maxRecDepth 100000 in
set_option maxHeartbeats 4000000 in
theorem live_any (f : ByteArray → Option Rev) (p : ByteArray) (g : Nat) (dv dr ev rv : Value) (n : Int) (cl tx : ByteArray) (bl be bn : Nat) (w : World) (hk : Chk w g dv dr n cl tx ev rv bl be bn) (hL : LastMap w bl f) :
    Calls Tryz.prog 128 #[.pointer (some ⟨g, 0, none⟩), .string p] w
      fun e w' => e = .returned (.tuple #[.agg #[.string (lastR f p).path, .int .i64 (lastR f p).num, .int .i64 (lastR f p).chg, .int .i64 (lastR f p).act, .int .i64 (lastR f p).ty.base, .bool (lastR f p).ty.k, .bool (lastR f p).ty.l, .bool (lastR f p).ty.x, .int .u64 (lastR f p).sum, .int .i64 (lastR f p).size, .string (lastR f p).frm, .int .i64 (lastR f p).fnum], .bool (isLast f p)]) ∧ Below w.heap.size w w' := by
  have hbW : Below w.heap.size w (w.alloc (.cells #[.string ⟨#[]⟩, .int .i64 0, .int .i64 0, .int .i64 0, .int .i64 0, .bool false, .bool false, .bool false, .int .u64 0, .int .i64 0, .string ⟨#[]⟩, .int .i64 0] 40)) := (Below.refl _ _).alloc (Nat.le_refl _) _
  have hK : Chk (w.alloc (.cells #[.string ⟨#[]⟩, .int .i64 0, .int .i64 0, .int .i64 0, .int .i64 0, .bool false, .bool false, .bool false, .int .u64 0, .int .i64 0, .string ⟨#[]⟩, .int .i64 0] 40)) g dv dr n cl tx ev rv bl be bn := Blk.below hk hbW (Blk.lt hk)
  have hlk := LastMap.look2 (w := w.alloc (.cells #[.string ⟨#[]⟩, .int .i64 0, .int .i64 0, .int .i64 0, .int .i64 0, .bool false, .bool false, .bool false, .int .u64 0, .int .i64 0, .string ⟨#[]⟩, .int .i64 0] 40)) (FMap.below hL hbW) p
  obtain ⟨-, -, -, -, -, k7, -, -⟩ := box10 hK
  clear hK
  have HL := Lib.hid (isLast_eq f p)
  have hgl := Blk.lt hk
  generalize lastR f p = r at hlk HL ⊢
  generalize (f p).isSome = b at hlk HL
  obtain ⟨W, hW⟩ : ∃ W, W = (w.alloc (.cells #[.string ⟨#[]⟩, .int .i64 0, .int .i64 0, .int .i64 0, .int .i64 0, .bool false, .bool false, .bool false, .int .u64 0, .int .i64 0, .string ⟨#[]⟩, .int .i64 0] 40)).alloc (.cells #[.string r.path, .int .i64 r.num, .int .i64 r.chg, .int .i64 r.act, .int .i64 r.ty.base, .bool r.ty.k, .bool r.ty.l, .bool r.ty.x, .int .u64 r.sum, .int .i64 r.size, .string r.frm, .int .i64 r.fnum] 40) := ⟨_, rfl⟩
  have hbW2 : Below w.heap.size w W := by rw [hW]; exact hbW.alloc hbW.size _
  have hZ : Blk W w.heap.size 40 [.string ⟨#[]⟩, .int .i64 0, .int .i64 0, .int .i64 0, .int .i64 0, .bool false, .bool false, .bool false, .int .u64 0, .int .i64 0, .string ⟨#[]⟩, .int .i64 0] := by rw [hW]; exact (blk_new w _ _).alloc _
  have hR : Blk W (w.heap.size + 1) 40 [.string r.path, .int .i64 r.num, .int .i64 r.chg, .int .i64 r.act, .int .i64 r.ty.base, .bool r.ty.k, .bool r.ty.l, .bool r.ty.x, .int .u64 r.sum, .int .i64 r.size, .string r.frm, .int .i64 r.fnum] := by
    rw [hW]
    have := blk_new (w.alloc (.cells #[.string ⟨#[]⟩, .int .i64 0, .int .i64 0, .int .i64 0, .int .i64 0, .bool false, .bool false, .bool false, .int .u64 0, .int .i64 0, .string ⟨#[]⟩, .int .i64 0] 40)) [.string r.path, .int .i64 r.num, .int .i64 r.chg, .int .i64 r.act, .int .i64 r.ty.base, .bool r.ty.k, .bool r.ty.l, .bool r.ty.x, .int .u64 r.sum, .int .i64 r.size, .string r.frm, .int .i64 r.fnum] 40
    simpa using this
  have HW := Lib.hid hW
  clear hW
  obtain ⟨c0, c1, c2, c3, c4, c5, c6, c7, c8, c9, c10, c11⟩ := box12 hR
  obtain ⟨z0, z1, z2, z3, z4, z5, z6, z7, z8, z9, z10, z11⟩ := box12 hZ
  obtain ⟨y0, y1, y2, y3, y4, y5, y6, y7, y8, y9, y10, y11⟩ := frz12 hZ
  cases b
  · go_enter Tryz.func128, Tryz.ntmps128
    go_wp2_with fail
    rw [← HW.out]
    clear hlk k7 hbW
    go_region
    have hZ2 := set12 hZ r
    have hB2 := below12 hbW2 (Nat.le_refl w.heap.size) r
    generalize ((((((((((((W.setCell ⟨w.heap.size, 0, none⟩ (.string r.path)).setCell ⟨w.heap.size, 1, none⟩ (.int .i64 r.num)).setCell ⟨w.heap.size, 2, none⟩ (.int .i64 r.chg)).setCell ⟨w.heap.size, 3, none⟩ (.int .i64 r.act)).setCell ⟨w.heap.size, 4, none⟩ (.int .i64 r.ty.base)).setCell ⟨w.heap.size, 5, none⟩ (.bool r.ty.k)).setCell ⟨w.heap.size, 6, none⟩ (.bool r.ty.l)).setCell ⟨w.heap.size, 7, none⟩ (.bool r.ty.x)).setCell ⟨w.heap.size, 8, none⟩ (.int .u64 r.sum)).setCell ⟨w.heap.size, 9, none⟩ (.int .i64 r.size)).setCell ⟨w.heap.size, 10, none⟩ (.string r.frm)).setCell ⟨w.heap.size, 11, none⟩ (.int .i64 r.fnum)) = W3 at hZ2 hB2 ⊢
    go_wp2_with fail
    obtain ⟨e0, e1, e2, e3, e4, e5, e6, e7, e8, e9, e10, e11⟩ := box12 hZ2
    refine bodyPost_ret (v := .tuple #[.agg #[.string r.path, .int .i64 r.num, .int .i64 r.chg, .int .i64 r.act, .int .i64 r.ty.base, .bool r.ty.k, .bool r.ty.l, .bool r.ty.x, .int .u64 r.sum, .int .i64 r.size, .string r.frm, .int .i64 r.fnum], .bool false]) (by simp [results, Tryz.results128, go_sem, e0, e1, e2, e3, e4, e5, e6, e7, e8, e9, e10, e11]) rfl ⟨?_, hB2.drew⟩
    rw [HL.out]; rfl
  · go_enter Tryz.func128, Tryz.ntmps128
    go_wp2_with fail
    rw [← HW.out]
    clear hlk k7 hbW
    go_region_with (go_at_call 19; refine (isLive_any _ _).mono ?_; rintro e w' ⟨rfl, rfl⟩)
    all_goals
      have hZ2 := set12 hZ r
      have hB2 := below12 hbW2 (Nat.le_refl w.heap.size) r
      generalize ((((((((((((W.setCell ⟨w.heap.size, 0, none⟩ (.string r.path)).setCell ⟨w.heap.size, 1, none⟩ (.int .i64 r.num)).setCell ⟨w.heap.size, 2, none⟩ (.int .i64 r.chg)).setCell ⟨w.heap.size, 3, none⟩ (.int .i64 r.act)).setCell ⟨w.heap.size, 4, none⟩ (.int .i64 r.ty.base)).setCell ⟨w.heap.size, 5, none⟩ (.bool r.ty.k)).setCell ⟨w.heap.size, 6, none⟩ (.bool r.ty.l)).setCell ⟨w.heap.size, 7, none⟩ (.bool r.ty.x)).setCell ⟨w.heap.size, 8, none⟩ (.int .u64 r.sum)).setCell ⟨w.heap.size, 9, none⟩ (.int .i64 r.size)).setCell ⟨w.heap.size, 10, none⟩ (.string r.frm)).setCell ⟨w.heap.size, 11, none⟩ (.int .i64 r.fnum)) = W3 at hZ2 hB2 ⊢
      go_wp2_with fail
      obtain ⟨e0, e1, e2, e3, e4, e5, e6, e7, e8, e9, e10, e11⟩ := box12 hZ2
      refine bodyPost_ret (v := .tuple #[.agg #[.string r.path, .int .i64 r.num, .int .i64 r.chg, .int .i64 r.act, .int .i64 r.ty.base, .bool r.ty.k, .bool r.ty.l, .bool r.ty.x, .int .u64 r.sum, .int .i64 r.size, .string r.frm, .int .i64 r.fnum], .bool (liveA r.act)]) (by simp [results, Tryz.results128, go_sem, e0, e1, e2, e3, e4, e5, e6, e7, e8, e9, e10, e11]) rfl ⟨?_, hB2.drew⟩
      rw [HL.out]; rfl
end Go.Proofs.YtnblfaagchflaaaGreatDoor
