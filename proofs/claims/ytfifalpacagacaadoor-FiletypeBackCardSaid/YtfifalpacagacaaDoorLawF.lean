/- The walks of FiletypeBack and FiletypeLines. -/
import Derived.Test.YtfifalpacagacaaDoorBackP
import Derived.Test.YtfifalpacagacaaDoorLawE
import Derived.Test.YtfifalpacagacaaDoorRest
namespace Go.Proofs.YtfifalpacagacaaDoor
open Go.RowKit
set_option linter.unusedVariables false
set_option linter.unusedSimpArgs false

set_option maxRecDepth 100000 in
set_option maxHeartbeats 4000000 in
theorem back_main (b : Int) (k l x : Bool) (bs : List UInt8) (v : Value) (ending : Int) (w : World) (he : Env w) (hb : Bytes w v bs) :
    Calls Tryd.prog 10 #[.agg #[.int .i64 b, .bool k, .bool l, .bool x], v, .int .i64 ending] w fun e w' => e = .returned (.bool true) ∧ Below w.heap.size w w' := by
  have hA0 : Below w.heap.size w (w.alloc (.cells #[.int .i64 b, .bool k, .bool l, .bool x] 27)) := (Below.refl _ _).alloc (Nat.le_refl _) _
  have HB := Lib.hid hb
  obtain ⟨A, c, rfl, hc, hm, -⟩ := hb
  unfold maxLen at hm
  by_cases hlong : 2000 < bs.length
  · have d1 : decide ((2000 : Int) < (bs.length : Int)) = true := by simp; omega
    have d2 : decide (2000 < bs.length) = true := by simp; omega
    go_enter Tryd.func10, Tryd.ntmps10
    go_wp2_with fail
    refine (awake_any _ (he.below hA0)).mono ?_
    rintro e w1 ⟨rfl, hb1⟩
    go_wp2_with fail
    go_ret
    exact ⟨rfl, hA0.trans (hb1.mono (by simp))⟩
  · have d1 : decide ((2000 : Int) < (bs.length : Int)) = false := by simp; omega
    have d2 : decide (2000 < bs.length) = false := by simp; omega
    have HC := Lib.hid (local_any b k l x bs (.slice A bs.length c) ending _ (he.below hA0) (HB.out.below hA0) (by omega))
    go_enter Tryd.func10, Tryd.ntmps10
    go_wp2_with fail
    refine HC.out.mono ?_
    rintro e w1 ⟨v', rfl, hv', hb1⟩
    have hT1 := (blk_new w [.int .i64 b, .bool k, .bool l, .bool x] 27).below hb1 (by simp)
    have hbw1 : Below w.heap.size w w1 := hA0.trans (hb1.mono (by simp))
    have hlT := hT1.lt
    obtain ⟨y0, y1, y2, y3, z0, z1, z2, z3⟩ := box4 hT1
    have HV := Lib.hid hv'
    obtain ⟨A', c', rfl, hc', hm', -⟩ := hv'
    by_cases hr : readyE b k x bs ending = 0
    · have HTR := Lib.hid (show transR b k x ending [10] [13, 10] bs = transL b ending [10] [13, 10] bs from if_pos hr)
      have HL := Lib.hid (trans_len b ending bs)
      have HEnd := Lib.hid (ready_ending hr)
      have HR1 := Lib.hid (ready_trans [10] [13, 10] hr)
      have HR2 := Lib.hid (ready_trans [13, 10] [10] hr)
      have HR0 := Lib.hid hr
      rw [HTR.out] at HV hc'
      unfold maxLen at hm'
      rw [HTR.out, hr]
      have HC1 := Lib.hid (canon_any b k l x _ (.slice A' (transL b ending [10] [13, 10] bs).length c') ending w1 (he.below hbw1) HV.out (by have := HL.out.2.2; omega))
      generalize hLd : transL b ending [10] [13, 10] bs = Ll at *
      have HLd := Lib.hid hLd
      clear hLd hr HC
      go_wp2_with fail
      refine HC1.out.mono ?_
      rintro e w2 ⟨v2, rfl, hv2, hb2⟩
      have hR : transR b k x ending [13, 10] [10] Ll = bs := by
        rw [show transR b k x ending [13, 10] [10] Ll = transL b ending [13, 10] [10] Ll from if_pos HR1.out, ← HLd.out, trans_back]
      rw [hR] at hv2
      rw [HR1.out]
      have hbw2 := below_next hbw1 hb2
      have hT2 := hT1.below hb2 hlT
      clear y0 y1 y2 y3 z0 z1 z2 z3
      obtain ⟨y0, y1, y2, y3, z0, z1, z2, z3⟩ := box4 hT2
      have hs2 := str_run hv2
      have hs2' := str_run (HB.out.below hbw2)
      have HV2 := Lib.hid hv2
      obtain ⟨A2, c2, rfl, -⟩ := hv2
      have HA2 := Lib.hid (HB.out.below hbw2)
      go_wp2_with fail
      clear hs2 hs2' HC1
      go_loop [11, 51] (fun p i => ∃ j : Nat, j ≤ bs.length ∧ i = .int .i64 j ∧ p = .bool (!lone false (bs.take j))) (fun _ i => bs.length - (intOf i).toNat)
      case atStart => exact ⟨0, Nat.zero_le _, rfl, rfl⟩
      case round =>
        obtain ⟨j, hj, rfl, rfl⟩ := hrel
        by_cases hlt : j < bs.length
        · have HST := Lib.hid (lone_step hlt)
          obtain ⟨ad, rfl, -, hcell⟩ := HA2.out.at_ hlt
          by_cases h10 : bs[j] = 10
          · rw [h10] at hcell
            generalize hp : (!lone false (bs.take j)) = p at *
            have HP := Lib.hid hp
            clear hp
            by_cases h0 : j = 0
            · have q0 : ((j : Int) == 0) = true := by simp [h0]
              have H0 := Lib.hid h0
              clear h0
              go_wp2_with fail
              go_round
              case rel => exact ⟨j + 1, by omega, by go_num, by rw [HST.out, h10, H0.out]; rfl⟩
              case measure => simp [intOf]; omega
            · obtain ⟨m, hm1⟩ : ∃ m : Nat, j = m + 1 := ⟨j - 1, by omega⟩
              have q0 : ((j : Int) == 0) = false := by simp [h0]
              have e0 : (j : Int) - 1 = (m : Int) := by omega
              have hmlt : m < bs.length := by omega
              have HPV := Lib.hid (show last13 false (bs.take j) = (bs[m] == 13) by rw [hm1]; exact last13_take hmlt)
              have HM := Lib.hid hm1
              obtain ⟨ad', e1, -, hcell'⟩ := HA2.out.at_ hmlt
              cases e1
              clear hm1 h0
              by_cases h13 : bs[m] = 13
              · rw [h13] at hcell'
                go_wp2_with fail
                go_round
                case rel => exact ⟨j + 1, by omega, by go_num, by rw [HST.out, HPV.out, h13, ← HP.out]; simp⟩
                case measure => simp [intOf]; omega
              · have q3 : ((bs[m].toNat : Int) == 13) = false := by
                  have : bs[m].toNat ≠ 13 := fun e => h13 (UInt8.toNat_inj.1 e)
                  simp; omega
                have q4 : ((bs[m].toNat : Int) != 13) = true := by simp [bne, q3]
                have HQ5 := Lib.hid (show (bs[m] == 13) = false by simpa using h13)
                clear h13
                go_wp2_with fail
                go_round
                case rel => exact ⟨j + 1, by omega, by go_num, by rw [HST.out, h10, HPV.out, HQ5.out]; simp⟩
                case measure => simp [intOf]; omega
          · have q1 : ((bs[j].toNat : Int) == 10) = false := by
              have : bs[j].toNat ≠ 10 := fun e => h10 (UInt8.toNat_inj.1 e)
              simp; omega
            have HQ := Lib.hid (show (bs[j] == 10) = false by simpa using h10)
            generalize hp : (!lone false (bs.take j)) = p at *
            have HP := Lib.hid hp
            clear hp h10
            go_wp2_with fail
            go_round
            case rel => exact ⟨j + 1, by omega, by go_num, by rw [HST.out, HQ.out, ← HP.out]; simp⟩
            case measure => simp [intOf]; omega
        · obtain rfl : j = bs.length := by omega
          rw [List.take_length]
          have HSame := Lib.hid (trans_forth (b := b) (l := bs) HEnd.out)
          have HC2 := Lib.hid (canon_any b k l x bs (.slice A bs.length c) ending w2 (he.below hbw2) HA2.out (by omega))
          generalize hp : lone false bs = p at *
          have HP := Lib.hid hp
          clear hp
          go_wp2_with fail
          refine HC2.out.mono ?_
          rintro e w3 ⟨v3, rfl, hv3, hb3⟩
          rw [HR0.out]
          rw [show transR b k x ending [13, 10] [10] bs = transL b ending [13, 10] [10] bs from if_pos HR0.out] at hv3
          have hbw3 := below_next hbw2 hb3
          have hT3 := hT2.below hb3 (by have := hb2.size; omega)
          clear y0 y1 y2 y3 z0 z1 z2 z3
          obtain ⟨y0, y1, y2, y3, z0, z1, z2, z3⟩ := box4 hT3
          have HV3 := Lib.hid hv3
          have HC3 := Lib.hid (local_any b k l x _ v3 ending w3 (he.below hbw3) hv3 (by have := HL.out.1; omega))
          obtain ⟨A3, c3, rfl, -⟩ := hv3
          generalize hCd : transL b ending [13, 10] [10] bs = Cl at *
          have HCd := Lib.hid hCd
          clear hCd HC2
          go_wp2_with fail
          refine HC3.out.mono ?_
          rintro e w4 ⟨v4, rfl, hv4, hb4⟩
          rw [HR2.out]
          rw [show transR b k x ending [10] [13, 10] Cl = transL b ending [10] [13, 10] Cl from if_pos HR2.out] at hv4
          have hbw4 := below_next hbw3 hb4
          have hT4 := hT3.below hb4 (by have := hb2.size; have := hb3.size; omega)
          clear y0 y1 y2 y3 z0 z1 z2 z3
          obtain ⟨y0, y1, y2, y3, z0, z1, z2, z3⟩ := box4 hT4
          have HV4 := Lib.hid hv4
          obtain ⟨A4, c4, rfl, -⟩ := hv4
          generalize transL b ending [10] [13, 10] Cl = Ml at *
          have hs4 := str_run HV4.out
          have hs5 := str_run (HB.out.below hbw4)
          clear HC3
          by_cases h1 : b = 1
          · have g1 : (b == 1) = true := by simpa using h1
            have g2 : (b != 1) = false := by simpa using h1
            have HH := Lib.hid h1
            clear h1
            by_cases h2 : ending = 1
            · have g3 : (ending == 1) = true := by simpa using h2
              obtain rfl : Ml = bs := HSame.out.2 (by simp [sameB, g3])
              clear h2
              go_wp2_with fail
              refine (awake_any _ (he.below hbw4)).mono ?_
              rintro e w5 ⟨rfl, hb5⟩
              go_wp2_with fail
              go_ret
              exact ⟨rfl, below_next hbw4 hb5⟩
            · have g3 : (ending == 1) = false := by simpa using h2
              cases p
              · obtain rfl : Ml = bs := HSame.out.2 (by simp [sameB, HP.out])
                go_wp2_with fail
                refine (awake_any _ (he.below hbw4)).mono ?_
                rintro e w5 ⟨rfl, hb5⟩
                go_wp2_with fail
                go_ret
                exact ⟨rfl, below_next hbw4 hb5⟩
              · have hne : Ml ≠ bs := fun e => by
                  have := HSame.out.1 e
                  simp [sameB, HP.out, g2, g3] at this
                have g6 : (Ml == bs) = false := by simpa using hne
                have g5 : ((baL Ml).toList == (baL bs).toList) = false := by rw [baL_toList, baL_toList]; exact g6
                have g4 : (baL Ml == baL bs) = false := by rw [ba_beq]; simpa using hne
                clear hne
                go_wp2_with fail
                refine (awake_any _ (he.below hbw4)).mono ?_
                rintro e w5 ⟨rfl, hb5⟩
                go_wp2_with fail
                go_ret
                exact ⟨rfl, below_next hbw4 hb5⟩
          · have g1 : (b == 1) = false := by simpa using h1
            have g2 : (b != 1) = true := by simpa using h1
            obtain rfl : Ml = bs := HSame.out.2 (by simp [sameB, g2])
            clear h1
            go_wp2_with fail
            refine (awake_any _ (he.below hbw4)).mono ?_
            rintro e w5 ⟨rfl, hb5⟩
            go_wp2_with fail
            go_ret
            exact ⟨rfl, below_next hbw4 hb5⟩
    · have q1 : (readyE b k x bs ending == 0) = false := by simpa using hr
      have q2 : (readyE b k x bs ending != 0) = true := by simpa using hr
      clear hr
      generalize readyE b k x bs ending = r at *
      go_wp2_with fail
      refine (awake_any _ (he.below hbw1)).mono ?_
      rintro e w3 ⟨rfl, hb3⟩
      go_wp2_with fail
      go_ret
      exact ⟨rfl, below_next hbw1 hb3⟩
theorem filetypeBack_walk (t : Ty) (bs : List UInt8) (v : Value) (ending : Int) (w : World) (he : Env w) (hb : Bytes w v bs) :
    Calls Tryd.prog 10 #[t.val, v, .int .i64 ending] w fun e w' => e = .returned (.bool true) ∧ Below w.heap.size w w' := back_main t.base t.k t.l t.x bs v ending w he hb
end Go.Proofs.YtfifalpacagacaaDoor
