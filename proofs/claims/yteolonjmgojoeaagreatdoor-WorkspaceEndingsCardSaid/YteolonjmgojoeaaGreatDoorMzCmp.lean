/- The comparisons: cmp.Compare, cmp.Or, path.Compare, comparePaths, compareRecords, isLive. -/
import Derived.Test.YteolonjmgojoeaaGreatDoorMzLeafH
namespace Go.Proofs.YteolonjmgojoeaaGreatDoor
open Go.RowKit
set_option linter.unusedVariables false
set_option linter.unusedSimpArgs false

set_option maxHeartbeats 1000000 in
theorem cmpInt_any (a b : Int) (w : World) : Calls Tryz.prog 41 #[.int .i64 a, .int .i64 b] w fun e w' => e = .returned (.int .i64 (cmpI a b)) ∧ w = w' := by
  have n1 : (a != a) = false := by simp
  have n2 : (b != b) = false := by simp
  by_cases h1 : a < b
  · have H : Hid (cmpI a b = -1) := Lib.hid (by unfold cmpI; rw [if_pos h1])
    go_enter Tryz.func41, Tryz.ntmps41
    go_wp2
    go_ret
    exact ⟨ret_int H.out.symm, rfl⟩
  · by_cases h2 : b < a
    · have H : Hid (cmpI a b = 1) := Lib.hid (by unfold cmpI; rw [if_neg h1, if_pos h2])
      go_enter Tryz.func41, Tryz.ntmps41
      go_wp2
      go_ret
      exact ⟨ret_int H.out.symm, rfl⟩
    · have H : Hid (cmpI a b = 0) := Lib.hid (by unfold cmpI; rw [if_neg h1, if_neg h2])
      go_enter Tryz.func41, Tryz.ntmps41
      go_wp2
      go_ret
      exact ⟨ret_int H.out.symm, rfl⟩

set_option maxHeartbeats 1000000 in
theorem cmpByte_any (a b : Int) (w : World) : Calls Tryz.prog 86 #[.int .u8 a, .int .u8 b] w fun e w' => e = .returned (.int .i64 (cmpI a b)) ∧ w = w' := by
  have n1 : (a != a) = false := by simp
  have n2 : (b != b) = false := by simp
  by_cases h1 : a < b
  · have H : Hid (cmpI a b = -1) := Lib.hid (by unfold cmpI; rw [if_pos h1])
    go_enter Tryz.func86, Tryz.ntmps86
    go_wp2
    go_ret
    exact ⟨ret_int H.out.symm, rfl⟩
  · by_cases h2 : b < a
    · have H : Hid (cmpI a b = 1) := Lib.hid (by unfold cmpI; rw [if_neg h1, if_pos h2])
      go_enter Tryz.func86, Tryz.ntmps86
      go_wp2
      go_ret
      exact ⟨ret_int H.out.symm, rfl⟩
    · have H : Hid (cmpI a b = 0) := Lib.hid (by unfold cmpI; rw [if_neg h1, if_neg h2])
      go_enter Tryz.func86, Tryz.ntmps86
      go_wp2
      go_ret
      exact ⟨ret_int H.out.symm, rfl⟩

set_option maxHeartbeats 1000000 in
theorem isLive_any (a : Int) (w : World) : Calls Tryz.prog 83 #[.int .i64 a] w fun e w' => e = .returned (.bool (liveA a)) ∧ w = w' := by
  by_cases h1 : a = 3
  · subst h1
    go_enter Tryz.func83, Tryz.ntmps83
    go_wp2
    go_ret
    exact ⟨rfl, rfl⟩
  · have n1 : (a != 3) = true := by simpa using h1
    have H : Hid (liveA a = (a != 5)) := Lib.hid (by unfold liveA; rw [n1]; rfl)
    go_enter Tryz.func83, Tryz.ntmps83
    go_wp2
    go_ret
    exact ⟨ret_bool H.out.symm, rfl⟩

/-- The first that is not zero. -/
def orL : List Int → Int
  | [] => 0
  | a :: l => orI a (orL l)
theorem orL_drop {l : List Int} {k : Nat} (hk : k < l.length) (h : orL l = orL (l.drop k)) (h0 : l[k] = 0) : orL l = orL (l.drop (k + 1)) := by
  rw [h, List.drop_eq_getElem_cons hk]; simp [orL, orI, h0]
theorem orL_at {l : List Int} {k : Nat} (hk : k < l.length) (h : orL l = orL (l.drop k)) (h0 : l[k] ≠ 0) : orL l = l[k] := by
  rw [h, List.drop_eq_getElem_cons hk]; simp [orL, orI, h0]
set_option maxHeartbeats 1000000 in
theorem or_any (l : List Int) (g : Nat) (w : World) (hB : Blk w g 3 (l.map fun n => .int .i64 n)) (hl : l.length ≤ 1000) :
    Calls Tryz.prog 39 #[.slice (some ⟨g, 0, none⟩) l.length l.length] w fun e w' => e = .returned (.int .i64 (orL l)) ∧ w = w' := by
  have HB := Lib.hid hB
  clear hB
  go_enter Tryz.func39, Tryz.ntmps39
  go_wp2
  go_loop [8] (fun i => ∃ k : Nat, k ≤ l.length ∧ i = .int .i64 k ∧ orL l = orL (l.drop k)) (fun i => l.length - (intOf i).toNat)
  case atStart => exact ⟨0, Nat.zero_le _, rfl, rfl⟩
  case round =>
    obtain ⟨k, hk, rfl, ho⟩ := hrel
    have HO := Lib.hid ho
    clear ho
    by_cases hlt : k < l.length
    · have hc : w.cell? ⟨g, k, none⟩ = some (.int .i64 (l[k])) := by
        rw [HB.out.cell]; simp [hlt]
      by_cases h0 : l[k] = 0
      · rw [h0] at hc
        have HN := Lib.hid (orL_drop hlt HO.out h0)
        clear h0
        go_wp2
        go_round
        case rel => exact ⟨k + 1, by omega, by go_num, HN.out⟩
        case measure => simp [intOf]; omega
      · have n : (l[k] != 0) = true := by simpa using h0
        have HN := Lib.hid (orL_at hlt HO.out h0)
        clear h0
        go_wp2
        go_ret
        exact ⟨ret_int HN.out.symm, rfl⟩
    · have HN : Hid (orL l = 0) := Lib.hid (by rw [HO.out, List.drop_of_length_le (by omega)]; rfl)
      go_wp2
      go_ret
      exact ⟨ret_int HN.out.symm, rfl⟩

/-! path.Compare. -/
theorem drop_cons (s : ByteArray) (k : Nat) (h : k < s.size) : s.data.toList.drop k = s[k] :: s.data.toList.drop (k + 1) := by
  rw [List.drop_eq_getElem_cons (by simpa using h)]; rfl
theorem cmp_next {a b : ByteArray} {k : Nat} (ha : k < a.size) (hb : k < b.size) (h : a[k] = b[k]) : cmpL (a.data.toList.drop k) (b.data.toList.drop k) = cmpL (a.data.toList.drop (k + 1)) (b.data.toList.drop (k + 1)) := by
  rw [drop_cons a k ha, drop_cons b k hb, cmpL, if_pos h]
theorem cmp_here {a b : ByteArray} {k : Nat} (ha : k < a.size) (hb : k < b.size) (h : a[k] ≠ b[k]) : cmpL (a.data.toList.drop k) (b.data.toList.drop k) = if a[k] = 47 then -1 else if b[k] = 47 then 1 else cmpI a[k].toNat b[k].toNat := by
  rw [drop_cons a k ha, drop_cons b k hb, cmpL, if_neg h]
  by_cases h1 : a[k] = 47
  · rw [if_pos h1, if_pos h1]
  · rw [if_neg h1, if_neg h1]
    by_cases h2 : b[k] = 47
    · rw [if_pos h2, if_pos h2]
    · rw [if_neg h2, if_neg h2]
      unfold cmpI
      have hne : a[k].toNat ≠ b[k].toNat := fun e => h (UInt8.toNat_inj.1 e)
      by_cases h3 : a[k] < b[k]
      · rw [if_pos h3, if_pos (by rw [UInt8.lt_iff_toNat_lt] at h3; omega)]
      · rw [if_neg h3]
        rw [UInt8.lt_iff_toNat_lt] at h3
        rw [if_neg (by omega), if_pos (by omega)]
theorem cmp_end {a b : ByteArray} {k : Nat} (ha : k ≤ a.size) (hb : k ≤ b.size) (h : ¬ (k < a.size ∧ k < b.size)) : cmpL (a.data.toList.drop k) (b.data.toList.drop k) = cmpI a.size b.size := by
  have la : a.data.toList.length = a.size := rfl
  have lb : b.data.toList.length = b.size := rfl
  unfold cmpI
  by_cases h1 : k < a.size
  · have hb' : b.data.toList.drop k = [] := List.drop_of_length_le (by omega)
    rw [hb', drop_cons a k h1, cmpL, if_neg (by omega), if_pos (by omega)]
  · have ha' : a.data.toList.drop k = [] := List.drop_of_length_le (by omega)
    by_cases h2 : k < b.size
    · rw [ha', drop_cons b k h2, cmpL, if_pos (by omega)]
    · have hb' : b.data.toList.drop k = [] := List.drop_of_length_le (by omega)
      rw [ha', hb', cmpL, if_neg (by omega), if_neg (by omega)]
def errP (b : Bool) : Int := errOf 20 b
theorem ret2 {k j : IntKind} {a b c d : Int} (h1 : a = b) (h2 : c = d) : Ending.returned (.tuple #[.int k a, .int j c]) = .returned (.tuple #[.int k b, .int j d]) := by rw [h1, h2]
def Quiet (w w' : World) : Prop := ∃ n, w' = w.drewN n
theorem Quiet.refl (w : World) : Quiet w w := ⟨0, rfl⟩
theorem Quiet.more {w w' : World} (h : Quiet w w') (n : Nat) : Quiet w (w'.drewN n) := by
  obtain ⟨m, rfl⟩ := h
  exact ⟨m + n, by rw [World.drewN_drewN]⟩
theorem quiet_left {P : Program} {f : FuncId} {args : Array Value} {w : World} {n : Nat} {v : Value}
    (h : Calls P f args (w.drewN n) fun e w' => e = .returned v ∧ w.drewN n = w') : Calls P f args (w.drewN n) fun e w'' => e = .returned v ∧ ∃ m, w'' = w.drewN m :=
  h.mono fun _ _ ⟨he, hm⟩ => ⟨he, n, hm.symm⟩
theorem u8_ne {a b : UInt8} (h : a ≠ b) : ((a.toNat : Int) == (b.toNat : Int)) = false := by
  rw [beq_eq_false_iff_ne]; intro e; exact h (UInt8.toNat_inj.1 (by omega))
theorem u8_47 {a : UInt8} (h : a ≠ 47) : ((a.toNat : Int) == 47) = false := u8_ne (b := 47) h

set_option maxHeartbeats 4000000 in
theorem compare_any (a b : ByteArray) (w : World) (ha : a.size ≤ 140737488355328) (hb : b.size ≤ 140737488355328) :
    Calls Tryz.prog 62 #[.string a, .string b] w fun e w' => e = .returned (.tuple #[.int .i64 (cmpP a b), .int .i64 (errP (validS a && validS b))]) ∧ Quiet w w' := by
  have VA := Lib.hid (valid_any a w ha)
  have VB := Lib.hid (valid_any b w hb)
  cases h1 : validB a.data.toList
  · rw [h1] at VA
    have H : Hid (cmpP a b = 0 ∧ errP (validS a && validS b) = 20) := Lib.hid (by unfold cmpP validS; rw [h1]; exact ⟨rfl, rfl⟩)
    clear h1
    go_enter Tryz.func62, Tryz.ntmps62
    go_wp2_with fail
    refine VA.out.mono ?_
    rintro e w' ⟨rfl, rfl⟩
    go_wp2_with fail
    go_ret2
    exact ⟨ret2 H.out.1.symm H.out.2.symm, Quiet.refl _⟩
  · rw [h1] at VA
    cases h2 : validB b.data.toList
    · rw [h2] at VB
      have H : Hid (cmpP a b = 0 ∧ errP (validS a && validS b) = 20) := Lib.hid (by unfold cmpP validS; rw [h1, h2]; exact ⟨rfl, rfl⟩)
      clear h1 h2
      go_enter Tryz.func62, Tryz.ntmps62
      go_wp2_with fail
      refine VA.out.mono ?_
      rintro e w' ⟨rfl, rfl⟩
      go_wp2_with fail
      refine VB.out.mono ?_
      rintro e w' ⟨rfl, rfl⟩
      go_wp2_with fail
      go_ret2
      exact ⟨ret2 H.out.1.symm H.out.2.symm, Quiet.refl _⟩
    · rw [h2] at VB
      have H : Hid (cmpP a b = cmpL a.data.toList b.data.toList ∧ errP (validS a && validS b) = 0) := Lib.hid (by unfold cmpP validS; rw [h1, h2]; exact ⟨rfl, rfl⟩)
      clear h1 h2
      by_cases hm : b.size < a.size
      all_goals
        go_enter Tryz.func62, Tryz.ntmps62
        go_wp2_with fail
        refine VA.out.mono ?_
        rintro e w' ⟨rfl, rfl⟩
        go_wp2_with fail
        refine VB.out.mono ?_
        rintro e w' ⟨rfl, rfl⟩
        go_wp2_with fail
        clear VA VB
        go_loopw [20] (fun i wr => ∃ k : Nat, k ≤ a.size ∧ k ≤ b.size ∧ i = .int .i64 k ∧ Hid (cmpL a.data.toList b.data.toList = cmpL (a.data.toList.drop k) (b.data.toList.drop k)) ∧ Hid (Quiet w wr)) (fun i _ => a.size - (intOf i).toNat)
        case atStart => exact ⟨0, by omega, by omega, rfl, Lib.hid rfl, Lib.hid (Quiet.refl _)⟩
        case round =>
          obtain ⟨k, hk1, hk2, rfl, HE, HQ⟩ := hrel
          by_cases hlt : k < a.size ∧ k < b.size
          · obtain ⟨l1, l2⟩ := hlt
            by_cases he : a[k] = b[k]
            · have HN := Lib.hid (HE.out.trans (cmp_next l1 l2 he))
              have q : ((a[k].toNat : Int) == (b[k].toNat : Int)) = true := by rw [he]; simp
              clear he
              go_wp2_with fail
              go_quiet (fail)
              go_wp2_with fail
              go_roundw
              case rel => exact ⟨k + 1, by omega, by omega, by go_num, HN, Lib.hid (HQ.out.more nq)⟩
              case measure => simp [intOf]; omega
            · have HN := Lib.hid (HE.out.trans (cmp_here l1 l2 he))
              have q := u8_ne he
              clear he
              by_cases h47 : a[k] = 47
              · rw [if_pos h47] at HN
                have q1 : ((a[k].toNat : Int) == 47) = true := by rw [h47]; rfl
                clear h47
                go_wp2_with fail
                go_quiet (fail)
                go_wp2_with fail
                go_ret2
                exact ⟨ret2 (H.out.1.trans HN.out).symm H.out.2.symm, HQ.out.more nq⟩
              · rw [if_neg h47] at HN
                have q1 := u8_47 h47
                clear h47
                by_cases h47 : b[k] = 47
                · rw [if_pos h47] at HN
                  have q2 : ((b[k].toNat : Int) == 47) = true := by rw [h47]; rfl
                  clear h47
                  go_wp2_with fail
                  go_quiet (fail)
                  go_wp2_with fail
                  go_ret2
                  exact ⟨ret2 (H.out.1.trans HN.out).symm H.out.2.symm, HQ.out.more nq⟩
                · rw [if_neg h47] at HN
                  have q2 := u8_47 h47
                  clear h47
                  go_wp2_with fail
                  go_quiet (fail)
                  go_wp2_with fail
                  have HQ2 := Lib.hid (HQ.out.more nq)
                  generalize wr.drewN nq = w2 at HQ2 ⊢
                  go_quiet ((go_at_call 86; exact quiet_left (cmpByte_any _ _ _)))
                  go_wp2_with fail
                  go_ret2
                  exact ⟨ret2 (H.out.1.trans HN.out).symm H.out.2.symm, HQ2.out.more nq⟩
          · have HN := Lib.hid (HE.out.trans (cmp_end hk1 hk2 hlt))
            have hge : ¬ k < a.size ∨ ¬ k < b.size := by omega
            clear hlt
            go_wp2_with fail
            refine (cmpInt_any _ _ _).mono ?_
            rintro e w' ⟨rfl, rfl⟩
            go_wp2_with fail
            go_ret2
            exact ⟨ret2 (H.out.1.trans HN.out).symm H.out.2.symm, HQ.out⟩
end Go.Proofs.YteolonjmgojoeaaGreatDoor
