/- isTarget and Target: which texts may be the bytes of a link. -/
import Derived.Test.YtfifalpacagacaaDoorAny3
namespace Go.Proofs.YtfifalpacagacaaDoor
open Go.RowKit
set_option linter.unusedVariables false

/-- A text that holds neither a byte 0 nor a byte 10. -/
def anyB (s : ByteArray) : Bool := Lib.containsAny s.data.toList [0, 10]
def targetB (s : ByteArray) : Bool := !s.data.toList.isEmpty && (decide (s.size ≤ 200) && !anyB s)

theorem noAny_of_high {s : ByteArray} {i n : Nat} (h : Lib.NoAny s.data.toList [0, 10] i) (hh : ∀ j, i ≤ j → j < i + n → 128 ≤ (s.get! j).toNat) : Lib.NoAny s.data.toList [0, 10] (i + n) := fun j b hj hb => by
  by_cases hji : j < i
  · exact h j b hji hb
  · have := hh j (by omega) hj
    rw [get_list s j b hb] at this
    have h0 : b ≠ 0 := fun e => by subst e; exact absurd this (by decide)
    have h10 : b ≠ 10 := fun e => by subst e; exact absurd this (by decide)
    simp [h0, h10]

set_option maxHeartbeats 2000000 in
set_option maxRecDepth 1000000 in
theorem indexAny_short (s : ByteArray) (w : World) (h8 : s.size ≤ 8) :
    Calls Tryd.prog 83 #[.string s, .string nul10] w fun e w' => e = .returned (.int .i64 (Lib.indexAny s.data.toList [0, 10])) ∧ Below w.heap.size w w' := by
  unfold nul10
  have h8z : decide ((8 : Int) < (s.size : Int)) = false := decide_eq_false (by omega)
  go_enter Tryd.func83, Tryd.ntmps83
  go_wp2_with (go_at_call 101; refine (Tryd.strings_shouldUseASCIISet _ _).mono ?_; rintro e w' ⟨rfl, hw⟩; rw [hw, h8z])
  go_loopg [4] s.size (fun g _ wx => ∃ i : Nat, i + g = s.size ∧ Lib.NoAny s.data.toList [0, 10] i ∧ wx.heap[w.heap.size]? = some (.stringIter s i) ∧ Below w.heap.size w wx)
  case atStart => exact ⟨0, by omega, Lib.NoAny.zero _ _, World.iter_heap _ _ _, below_iter _ _ _⟩
  case round =>
    obtain ⟨i, hig, hno, hit, hbl⟩ := hrel
    have HN := Lib.hid hno
    have HI := Lib.hid hit
    clear hno hit
    by_cases hi : i < s.size
    · have HI2 := Lib.hid (Lib.iterAt_heap wr w.heap.size s i (i + (Utf8.decode s i).2) HI.out)
      have hbl2 := Lib.below_iterAt hbl (Nat.le_refl _) s (i + (Utf8.decode s i).2)
      have hnx := fun ty => Lib.run_next_any_at (P := Tryd.prog) wr w.heap.size s i ty HI.out hi
      have hget : s.data.toList[i]? = some s[i] := Lib.data_getElem? s i hi
      by_cases hx : s[i].toNat < 128
      · have hdec := decode_ascii s i hi hx
        rw [hdec] at hnx HI2 hbl2
        clear hdec
        simp only at hnx HI2 hbl2
        generalize wr.iterAt w.heap.size s (i + 1) = w2 at hnx HI2 hbl2
        generalize s[i] = x at hget hx hnx
        have HX := Lib.hid hget
        clear hget
        have hcon := Lib.contains_iff_indexByte [0, 10] x
        have hback : ((x.toNat : Int)).toNat.toUInt8 = x := by simp
        cases hin : ([0, 10] : List UInt8).contains x
        · rw [hin] at hcon
          have hlt : ¬ ((0 : Int) ≤ Lib.indexByte [0, 10] x) := of_decide_eq_false hcon.symm
          have HC := Lib.hid hin
          clear hcon hin
          go_wp2_with fail
          refine (Tryd.strings_IndexRune_ascii _ _ _ (by omega) (by omega)).mono ?_
          rintro e w' ⟨rfl, rfl⟩
          rw [hback]
          go_wp2_with fail
          go_roundg (gk - 1)
          case measure => omega
          case rel => exact ⟨i + 1, by omega, HN.out.succ HX.out HC.out, HI2.out, hbl2⟩
        · rw [hin] at hcon
          have hge : (0 : Int) ≤ Lib.indexByte [0, 10] x := of_decide_eq_true hcon.symm
          have HC := Lib.hid hin
          clear hcon hin
          go_wp2_with fail
          refine (Tryd.strings_IndexRune_ascii _ _ _ (by omega) (by omega)).mono ?_
          rintro e w' ⟨rfl, rfl⟩
          rw [hback]
          go_wp2_with fail
          go_ret
          exact ⟨by rw [Lib.indexAny_hit HN.out HX.out HC.out]; rfl, hbl2⟩
      · obtain ⟨d1, d2, d3, d4, d5, d6⟩ := decode_wide s i hi (by rw [get_list s i _ hget]; omega)
        have HD := Lib.hid d6
        have HV := Lib.hid d3
        clear d6 d3 hget
        generalize (Utf8.decode s i).2 = n at *
        generalize (Utf8.decode s i).1 = c at *
        generalize wr.iterAt w.heap.size s (i + n) = w2 at hnx HI2 hbl2
        go_wp2_with fail
        refine (indexRune_high c _ d1 d2 HV.out).mono ?_
        rintro e w3 ⟨rfl, hb3⟩
        have hlt2 : w.heap.size < w2.heap.size := (Array.getElem?_eq_some_iff.1 HI2.out).1
        go_wp2_with fail
        go_roundg (gk - n)
        case measure => omega
        case rel => exact ⟨i + n, by omega, noAny_of_high HN.out HD.out, (hb3.block _ hlt2).trans HI2.out, hbl2.trans (hb3.mono (by omega))⟩
    · have hnx := fun ty => Lib.run_next_end_at (P := Tryd.prog) wr w.heap.size s i ty HI.out hi
      go_wp2_with fail
      go_ret
      obtain rfl : i = s.size := by omega
      exact ⟨by rw [Lib.indexAny_none (by rw [← Lib.size_eq]; exact HN.out)]; rfl, hbl⟩

end Go.Proofs.YtfifalpacagacaaDoor
