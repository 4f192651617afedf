/- WorkspaceEndings: the walk. -/
import Derived.Test.YteolonjmgojoeaaGreatDoorMzEn
namespace Go.Proofs.YteolonjmgojoeaaGreatDoor
open Go.RowKit
set_option linter.unusedVariables false
set_option linter.unusedSimpArgs false

set_option maxRecDepth 100000 in
set_option maxHeartbeats 4000000 in
theorem workspaceEndings_walk (n : Int) (w : World) : Calls Tryz.prog 3 #[.int .i64 n] w fun e w' => e = .returned (.bool true) ∧ Below w.heap.size w w' := by
  have HNW := Lib.hid (wsNew_any n w)
  have HRN := Lib.hid (fun X => refNew36_any n X)
  have HKN := Lib.hid (fun X => known_any X)
  cases hok : endOk n with
  | false =>
    have HE := Lib.hid (endE_no hok)
    have HOK := Lib.hid hok
    clear hok
    rw [HE.out] at HRN
    go_enter Tryz.func3, Tryz.ntmps3
    go_wp2_with fail
    refine HNW.out.mono ?_
    rintro e w1 ⟨hb1, ⟨h0, rfl⟩ | ⟨h0, -⟩⟩
    · have HB1 := Lib.hid hb1
      clear hb1 h0
      go_wp2_with fail
      refine (HRN.out _).mono ?_
      rintro e w2 ⟨⟨v, rfl⟩, hb2⟩
      have HB2 := Lib.hid (below_next HB1.out hb2)
      clear hb2
      have HB3 := Lib.hid (HB2.out.alloc HB2.out.size (.cells #[.int .i64 v, .slice none 0 0, .slice none 0 0, .slice none 0 0] 30))
      go_wp2_with fail
      refine (HKN.out _).mono ?_
      rintro e w3 ⟨rfl, hb3⟩
      have HB4 := Lib.hid (below_next HB3.out hb3)
      clear hb3
      go_wp2_with fail
      go_ret
      exact ⟨rfl, HB4.out⟩
    · rw [HOK.out] at h0; cases h0
  | true =>
    have HE : Hid (endE n = 0) := Lib.hid (by unfold endE; rw [hok]; rfl)
    have HOK := Lib.hid hok
    clear hok
    rw [HE.out] at HRN
    go_enter Tryz.func3, Tryz.ntmps3
    go_wp2_with fail
    refine HNW.out.mono ?_
    rintro e w1 ⟨hb1, ⟨h0, -⟩ | ⟨h0, rfl, -⟩⟩
    · rw [HOK.out] at h0; cases h0
    · have HB1 := Lib.hid hb1
      clear hb1 h0
      go_wp2_with fail
      refine (HRN.out _).mono ?_
      rintro e w2 ⟨⟨v, rfl⟩, hb2⟩
      have HB2 := Lib.hid (below_next HB1.out hb2)
      clear hb2
      have HB3 := Lib.hid (HB2.out.alloc HB2.out.size (.cells #[.int .i64 v, .slice none 0 0, .slice none 0 0, .slice none 0 0] 30))
      go_wp2_with fail
      refine (HKN.out _).mono ?_
      rintro e w3 ⟨rfl, hb3⟩
      have HB4 := Lib.hid (below_next HB3.out hb3)
      clear hb3
      go_wp2_with fail
      go_ret
      exact ⟨rfl, HB4.out⟩
end Go.Proofs.YteolonjmgojoeaaGreatDoor
