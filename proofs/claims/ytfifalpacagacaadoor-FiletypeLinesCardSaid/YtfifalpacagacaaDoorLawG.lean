/- The walk of FiletypeLines. -/
import Derived.Test.YtfifalpacagacaaDoorBackP
import Derived.Test.YtfifalpacagacaaDoorLawE
import Derived.Test.YtfifalpacagacaaDoorRest
namespace Go.Proofs.YtfifalpacagacaaDoor
open Go.RowKit
set_option linter.unusedVariables false
set_option linter.unusedSimpArgs false

set_option maxRecDepth 100000 in
set_option maxHeartbeats 4000000 in
theorem lines_main (b : Int) (k l x : Bool) (bs : List UInt8) (v : Value) (ending : Int) (w : World) (he : Env w) (hb : Bytes w v bs) :
    Calls Tryd.prog 11 #[.agg #[.int .i64 b, .bool k, .bool l, .bool x], v, .int .i64 ending] w fun e w' => e = .returned (.bool true) ∧ Below w.heap.size w w' := by
  have hA0 : Below w.heap.size w (w.alloc (.cells #[.int .i64 b, .bool k, .bool l, .bool x] 27)) := (Below.refl _ _).alloc (Nat.le_refl _) _
  have HB := Lib.hid hb
  obtain ⟨A, c, rfl, hc, hm, -⟩ := hb
  unfold maxLen at hm
  by_cases hlong : 2000 < bs.length
  · have d1 : decide ((2000 : Int) < (bs.length : Int)) = true := by simp; omega
    have d2 : decide (2000 < bs.length) = true := by simp; omega
    go_enter Tryd.func11, Tryd.ntmps11
    go_wp2_with fail
    refine (awake_any _ ?_).mono ?_
    · first | exact he.below hA0 | exact he
    rintro e w1 ⟨rfl, hb1⟩
    go_wp2_with fail
    go_ret
    first | exact ⟨rfl, hA0.trans (hb1.mono (by simp))⟩ | exact ⟨rfl, hb1⟩
  · have d1 : decide ((2000 : Int) < (bs.length : Int)) = false := by simp; omega
    have d2 : decide (2000 < bs.length) = false := by simp; omega
    have HC := Lib.hid (local_any b k l x bs (.slice A bs.length c) ending _ (he.below hA0) (HB.out.below hA0) (by omega))
    go_enter Tryd.func11, Tryd.ntmps11
    go_wp2_with fail
    refine HC.out.mono ?_
    rintro e w1 ⟨v1, rfl, hv1, hb1⟩
    clear HC
    have hT1 := (blk_new w [.int .i64 b, .bool k, .bool l, .bool x] 27).below hb1 (by simp)
    have hbw1 : Below w.heap.size w w1 := hA0.trans (hb1.mono (by simp))
    have hlT := hT1.lt
    obtain ⟨y0, y1, y2, y3, z0, z1, z2, z3⟩ := box4 hT1
    have HV1 := Lib.hid hv1
    obtain ⟨A1, c1, rfl, hc1, hm1, -⟩ := hv1
    have HC := Lib.hid (canon_any b k l x bs (.slice A bs.length c) ending _ (he.below hbw1) (HB.out.below hbw1) (by omega))
    go_wp2_with fail
    refine HC.out.mono ?_
    rintro e w2 ⟨v2, rfl, hv2, hb2⟩
    clear HC y0 y1 y2 y3 z0 z1 z2 z3
    have hbw2 := below_next hbw1 hb2
    have HV2 := Lib.hid hv2
    have HV1' := Lib.hid (HV1.out.below hb2)
    have HA2 := Lib.hid (HB.out.below hbw2)
    obtain ⟨A2, c2, rfl, hc2, hm2, -⟩ := hv2
    clear HV1
    unfold maxLen at hm1 hm2
    by_cases hr : readyE b k x bs ending = 0
    · have e1 : transR b k x ending [10] [13, 10] bs = transL b ending [10] [13, 10] bs := if_pos hr
      have e2 : transR b k x ending [13, 10] [10] bs = transL b ending [13, 10] [10] bs := if_pos hr
      have HL := Lib.hid (trans_len b ending bs)
      have HR := Lib.hid (trans_rest b ending bs)
      rw [e1] at HV1' hc1 ⊢
      rw [e2] at HV2 hc2 ⊢
      rw [hr]
      clear e1 e2 hr
      generalize transL b ending [10] [13, 10] bs = Ll at *
      generalize transL b ending [13, 10] [10] bs = Cl at *
      obtain ⟨hL1, hL2, hL3⟩ := HL.out
      have HRl : Hid (∀ w', Below w2.heap.size w2 w' → Calls Tryd.prog 33 #[.slice A1 Ll.length c1] w' fun e w'' => e = .returned (.string (baL (restL bs))) ∧ Below w'.heap.size w' w'') := Lib.hid (fun w' hw' => by
        rw [← HR.out.2]; exact rest_any Ll _ w' (HV1'.out.below hw') (by omega))
      have HRs : Hid (∀ w', Below w2.heap.size w2 w' → Calls Tryd.prog 33 #[.slice A2 Cl.length c2] w' fun e w'' => e = .returned (.string (baL (restL bs))) ∧ Below w'.heap.size w' w'') := Lib.hid (fun w' hw' => by
        rw [← HR.out.1]; exact rest_any Cl _ w' (HV2.out.below hw') (by omega))
      have HRb : Hid (∀ w', Below w2.heap.size w2 w' → Calls Tryd.prog 33 #[.slice A bs.length c] w' fun e w'' => e = .returned (.string (baL (restL bs))) ∧ Below w'.heap.size w' w'') := Lib.hid (fun w' hw' => rest_any bs _ w' (HA2.out.below hw') (by omega))
      have d3 : decide ((Cl.length : Int) ≤ (bs.length : Int)) = true := by simp; omega
      have d4 : decide (Cl.length ≤ bs.length) = true := by simp; omega
      have d5 : decide ((bs.length : Int) ≤ (Ll.length : Int)) = true := by simp; omega
      have d6 : decide (bs.length ≤ Ll.length) = true := by simp; omega
      go_wp2_with fail
      refine (HRl.out _ (Below.refl _ _)).mono ?_
      rintro e w11 ⟨rfl, hS1⟩
      go_wp2_with fail
      refine (HRb.out _ hS1).mono ?_
      rintro e w12 ⟨rfl, hb12⟩
      have hS2 := below_next hS1 hb12
      go_wp2_with fail
      refine (HRs.out _ hS2).mono ?_
      rintro e w13 ⟨rfl, hb13⟩
      have hS3 := below_next hS2 hb13
      go_wp2_with fail
      refine (HRb.out _ hS3).mono ?_
      rintro e w14 ⟨rfl, hb14⟩
      have hS4 := below_next hS3 hb14
      go_wp2_with fail
      refine (awake_any _ ((he.below hbw2).below hS4)).mono ?_
      rintro e w15 ⟨rfl, hb15⟩
      have hS5 := below_next hS4 hb15
      go_wp2_with fail
      go_ret
      exact ⟨rfl, below_next hbw2 hS5⟩
    · have q1 : (readyE b k x bs ending == 0) = false := by simpa using hr
      have q2 : (readyE b k x bs ending != 0) = true := by simpa using hr
      clear hr
      generalize readyE b k x bs ending = r at *
      go_wp2_with fail
      refine (awake_any _ (he.below hbw2)).mono ?_
      rintro e w3 ⟨rfl, hb3⟩
      go_wp2_with fail
      go_ret
      exact ⟨rfl, below_next hbw2 hb3⟩
theorem filetypeLines_walk (t : Ty) (bs : List UInt8) (v : Value) (ending : Int) (w : World) (he : Env w) (hb : Bytes w v bs) :
    Calls Tryd.prog 11 #[t.val, v, .int .i64 ending] w fun e w' => e = .returned (.bool true) ∧ Below w.heap.size w w' := lines_main t.base t.k t.l t.x bs v ending w he hb
end Go.Proofs.YtfifalpacagacaaDoor
