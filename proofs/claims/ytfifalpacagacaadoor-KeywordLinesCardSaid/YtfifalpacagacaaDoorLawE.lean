/- The reference's Ready, Canon, Local; the walks of FiletypeStores and FiletypeLocals. -/
import Derived.Test.YtfifalpacagacaaDoorTrans
import Derived.Test.YtfifalpacagacaaDoorAwake
import Derived.Deep.RegionHeld3
namespace Go.Proofs.YtfifalpacagacaaDoor
open Go.RowKit
set_option linter.unusedVariables false
set_option linter.unusedSimpArgs false

set_option maxRecDepth 100000 in
set_option maxHeartbeats 4000000 in
theorem refReady_any (b : Int) (k l x : Bool) (bs : List UInt8) (v : Value) (ending : Int) (w : World) (hb : Bytes w v bs) (hl : bs.length ≤ 100000) :
    Calls Tryd.prog 34 #[.agg #[.int .i64 b, .bool k, .bool l, .bool x], v, .int .i64 ending] w fun e w' => e = .returned (.int .i64 (readyE b k x bs ending)) ∧ Below w.heap.size w w' := by
  have HC := Lib.hid (fun W => refCheck_any b k l x W)
  have hA0 : Below w.heap.size w (w.alloc (.cells #[.int .i64 b, .bool k, .bool l, .bool x] 27)) := (Below.refl _ _).alloc (Nat.le_refl _) _
  obtain ⟨A, c, rfl, -⟩ := id hb
  cases hok : tyOk b k x
  · rw [hok] at HC
    have HR := Lib.hid (ready_bad (l := bs) (ending := ending) hok)
    clear hok
    go_enter Tryd.func34, Tryd.ntmps34
    go_wp2_with fail
    refine (HC.out _).mono ?_
    rintro e w1 ⟨rfl, hb1⟩
    go_wp2_with fail
    go_ret
    exact ⟨ret_int HR.out.symm, hA0.trans (hb1.mono (by simp))⟩
  · rw [hok] at HC
    by_cases hend : ending = 1 ∨ ending = 2
    · by_cases h3 : b = 3
      · subst h3
        cases ht : targetB (baL bs)
        · have HR := Lib.hid (ready_link hok hend ht)
          have HT := Lib.hid (fun W => refTarget_any (baL bs) W (by rw [baL_size]; unfold maxLen; omega))
          rw [ht] at HT
          have HB := Lib.hid hb
          clear hok ht hb
          rcases hend with rfl | rfl
          all_goals
            go_enter Tryd.func34, Tryd.ntmps34
            go_wp2_with fail
            refine (HC.out _).mono ?_
            rintro e w1 ⟨rfl, hb1⟩
            have hT1 := (blk_new w [.int .i64 3, .bool k, .bool l, .bool x] 27).below hb1 (by simp)
            have hbw1 : Below w.heap.size w w1 := hA0.trans (hb1.mono (by simp))
            obtain ⟨y0, y1, y2, y3, z0, z1, z2, z3⟩ := box4 hT1
            have hstr := str_run (HB.out.below hbw1)
            go_wp2_with fail
            refine (HT.out _).mono ?_
            rintro e w2 ⟨rfl, rfl⟩
            go_wp2_with fail
            go_ret
            exact ⟨ret_int HR.out.symm, hbw1⟩
        · have HR := Lib.hid (ready_ok (l := bs) hok hend (.inr ht))
          have HT := Lib.hid (fun W => refTarget_any (baL bs) W (by rw [baL_size]; unfold maxLen; omega))
          rw [ht] at HT
          have HB := Lib.hid hb
          clear hok ht hb
          rcases hend with rfl | rfl
          all_goals
            go_enter Tryd.func34, Tryd.ntmps34
            go_wp2_with fail
            refine (HC.out _).mono ?_
            rintro e w1 ⟨rfl, hb1⟩
            have hT1 := (blk_new w [.int .i64 3, .bool k, .bool l, .bool x] 27).below hb1 (by simp)
            have hbw1 : Below w.heap.size w w1 := hA0.trans (hb1.mono (by simp))
            obtain ⟨y0, y1, y2, y3, z0, z1, z2, z3⟩ := box4 hT1
            have hstr := str_run (HB.out.below hbw1)
            go_wp2_with fail
            refine (HT.out _).mono ?_
            rintro e w2 ⟨rfl, rfl⟩
            go_wp2_with fail
            go_ret
            exact ⟨ret_int HR.out.symm, hbw1⟩
      · have HR := Lib.hid (ready_ok (l := bs) hok hend (.inl h3))
        have q3 : (b == 3) = false := by simpa using h3
        clear hok h3
        rcases hend with rfl | rfl
        all_goals
          go_enter Tryd.func34, Tryd.ntmps34
          go_wp2_with fail
          refine (HC.out _).mono ?_
          rintro e w1 ⟨rfl, hb1⟩
          have hT1 := (blk_new w [.int .i64 b, .bool k, .bool l, .bool x] 27).below hb1 (by simp)
          have hbw1 : Below w.heap.size w w1 := hA0.trans (hb1.mono (by simp))
          obtain ⟨y0, y1, y2, y3, z0, z1, z2, z3⟩ := box4 hT1
          go_wp2_with fail
          go_ret
          exact ⟨ret_int HR.out.symm, hbw1⟩
    · have HR := Lib.hid (ready_end (l := bs) hok (by omega : ending ≠ 1 ∧ ending ≠ 2))
      have q1 : (ending == 1) = false := by rw [beq_eq_false_iff_ne]; omega
      have q2 : (ending == 2) = false := by rw [beq_eq_false_iff_ne]; omega
      have q3 : (ending != 1) = true := by rw [bne_iff_ne]; omega
      have q4 : (ending != 2) = true := by rw [bne_iff_ne]; omega
      clear hok hend
      go_enter Tryd.func34, Tryd.ntmps34
      go_wp2_with fail
      refine (HC.out _).mono ?_
      rintro e w1 ⟨rfl, hb1⟩
      have hbw1 : Below w.heap.size w w1 := hA0.trans (hb1.mono (by simp))
      go_wp2_with fail
      go_ret
      exact ⟨ret_int HR.out.symm, hbw1⟩

theorem replStr (bs : List UInt8) (o nw : ByteArray) (w : World) (he : Env w) (hl : bs.length ≤ 100000) (h1 : 1 ≤ o.size) (h2 : nw.size ≤ 2) (hne : o.data.toList ≠ nw.data.toList) :
    Calls Tryd.prog 57 #[.string (baL bs), .string o, .string nw] w fun e w' => e = .returned (.string (baL (replR o.data.toList nw.data.toList bs))) ∧ Below w.heap.size w w' := by
  obtain ⟨m, hm⟩ := he
  have hcount : Lib.countB (baL bs) o ≤ 100000 := by
    have : Lib.countB (baL bs) o = Lib.count bs o.data.toList := rfl
    rw [this]
    have hone : o.data.toList ≠ [] := by intro e; have h3 : o.data.toList.length = o.size := rfl; rw [e] at h3; simp at h3; omega
    have := count_le_len (l := bs) hone
    omega
  refine (Tryd.strings_ReplaceAll (baL bs) o nw m w (by rw [baL_size]; omega) hm h1 (by
    rw [baL_size]
    have : Lib.countB (baL bs) o * nw.size ≤ 100000 * 2 := Nat.mul_le_mul hcount h2
    omega)).mono ?_
  rintro e w' ⟨rfl, hb⟩
  refine ⟨?_, hb⟩
  rw [baL_data, replaceAll_eq hne]
  rfl

set_option maxRecDepth 100000 in
set_option maxHeartbeats 4000000 in
theorem refCanon_any (b : Int) (k l x : Bool) (bs : List UInt8) (v : Value) (ending : Int) (w : World) (he : Env w) (hb : Bytes w v bs) (hl : bs.length ≤ 100000) :
    Calls Tryd.prog 35 #[.agg #[.int .i64 b, .bool k, .bool l, .bool x], v, .int .i64 ending] w fun e w' => e = .returned (.string (baL (transL b ending [13, 10] [10] bs))) ∧ Below w.heap.size w w' := by
  have hA0 : Below w.heap.size w (w.alloc (.cells #[.int .i64 b, .bool k, .bool l, .bool x] 27)) := (Below.refl _ _).alloc (Nat.le_refl _) _
  obtain ⟨A, c, rfl, -⟩ := id hb
  have hstr := str_run (hb.below hA0)
  have HS := Lib.hid (replStr bs ⟨#[13, 10]⟩ ⟨#[10]⟩ _ (he.below hA0) hl (by decide) (by decide) (by decide))
  clear hb
  by_cases h1 : b = 1
  · subst h1
    by_cases h2 : ending = 2
    · subst h2
      go_enter Tryd.func35, Tryd.ntmps35
      go_wp2_with fail
      refine HS.out.mono ?_
      rintro e w1 ⟨rfl, hb1⟩
      go_wp2_with fail
      go_ret
      exact ⟨rfl, hA0.trans (hb1.mono (by simp))⟩
    · have q1 : (ending == 2) = false := by simpa using h2
      have HR := Lib.hid (show transL 1 ending [13, 10] [10] bs = bs from if_neg (fun h => h2 h.2))
      clear h2
      go_enter Tryd.func35, Tryd.ntmps35
      go_wp2_with fail
      go_ret
      exact ⟨by rw [HR.out]; rfl, hA0⟩
  · have q1 : (b == 1) = false := by simpa using h1
    have HR := Lib.hid (show transL b ending [13, 10] [10] bs = bs from if_neg (fun h => h1 h.1))
    clear h1
    go_enter Tryd.func35, Tryd.ntmps35
    go_wp2_with fail
    go_ret
    exact ⟨by rw [HR.out]; rfl, hA0⟩

set_option maxRecDepth 100000 in
set_option maxHeartbeats 4000000 in
theorem refLocal_any (b : Int) (k l x : Bool) (bs : List UInt8) (v : Value) (ending : Int) (w : World) (he : Env w) (hb : Bytes w v bs) (hl : bs.length ≤ 100000) :
    Calls Tryd.prog 36 #[.agg #[.int .i64 b, .bool k, .bool l, .bool x], v, .int .i64 ending] w fun e w' => e = .returned (.string (baL (transL b ending [10] [13, 10] bs))) ∧ Below w.heap.size w w' := by
  have hA0 : Below w.heap.size w (w.alloc (.cells #[.int .i64 b, .bool k, .bool l, .bool x] 27)) := (Below.refl _ _).alloc (Nat.le_refl _) _
  obtain ⟨A, c, rfl, -⟩ := id hb
  have hstr := str_run (hb.below hA0)
  have HS := Lib.hid (replStr bs ⟨#[10]⟩ ⟨#[13, 10]⟩ _ (he.below hA0) hl (by decide) (by decide) (by decide))
  clear hb
  by_cases h1 : b = 1
  · subst h1
    by_cases h2 : ending = 2
    · subst h2
      go_enter Tryd.func36, Tryd.ntmps36
      go_wp2_with fail
      refine HS.out.mono ?_
      rintro e w1 ⟨rfl, hb1⟩
      go_wp2_with fail
      go_ret
      exact ⟨rfl, hA0.trans (hb1.mono (by simp))⟩
    · have q1 : (ending == 2) = false := by simpa using h2
      have HR := Lib.hid (show transL 1 ending [10] [13, 10] bs = bs from if_neg (fun h => h2 h.2))
      clear h2
      go_enter Tryd.func36, Tryd.ntmps36
      go_wp2_with fail
      go_ret
      exact ⟨by rw [HR.out]; rfl, hA0⟩
  · have q1 : (b == 1) = false := by simpa using h1
    have HR := Lib.hid (show transL b ending [10] [13, 10] bs = bs from if_neg (fun h => h1 h.1))
    clear h1
    go_enter Tryd.func36, Tryd.ntmps36
    go_wp2_with fail
    go_ret
    exact ⟨by rw [HR.out]; rfl, hA0⟩

set_option maxRecDepth 100000 in
set_option maxHeartbeats 4000000 in
theorem stores_main (b : Int) (k l x : Bool) (bs : List UInt8) (v : Value) (ending : Int) (w : World) (he : Env w) (hb : Bytes w v bs) :
    Calls Tryd.prog 12 #[.agg #[.int .i64 b, .bool k, .bool l, .bool x], v, .int .i64 ending] w fun e w' => e = .returned (.bool true) ∧ Below w.heap.size w w' := by
  have hA0 : Below w.heap.size w (w.alloc (.cells #[.int .i64 b, .bool k, .bool l, .bool x] 27)) := (Below.refl _ _).alloc (Nat.le_refl _) _
  have HB := Lib.hid hb
  obtain ⟨A, c, rfl, hc, hm, -⟩ := hb
  unfold maxLen at hm
  by_cases hlong : 2000 < bs.length
  · have d1 : decide ((2000 : Int) < (bs.length : Int)) = true := by simp; omega
    have d2 : decide (2000 < bs.length) = true := by simp; omega
    go_enter Tryd.func12, Tryd.ntmps12
    go_wp2_with fail
    refine (awake_any _ (he.below hA0)).mono ?_
    rintro e w1 ⟨rfl, hb1⟩
    go_wp2_with fail
    go_ret
    exact ⟨rfl, hA0.trans (hb1.mono (by simp))⟩
  · have d1 : decide ((2000 : Int) < (bs.length : Int)) = false := by simp; omega
    have d2 : decide (2000 < bs.length) = false := by simp; omega
    have hs0 := str_run (HB.out.below hA0)
    have HC := Lib.hid (canon_any b k l x bs (.slice A bs.length c) ending _ (he.below hA0) (HB.out.below hA0) (by omega))
    go_enter Tryd.func12, Tryd.ntmps12
    go_wp2_with fail
    refine HC.out.mono ?_
    rintro e w1 ⟨v', rfl, hv', hb1⟩
    have hT1 := (blk_new w [.int .i64 b, .bool k, .bool l, .bool x] 27).below hb1 (by simp)
    have hbw1 : Below w.heap.size w w1 := hA0.trans (hb1.mono (by simp))
    obtain ⟨y0, y1, y2, y3, z0, z1, z2, z3⟩ := box4 hT1
    have HV := Lib.hid hv'
    obtain ⟨A', c', rfl, -⟩ := hv'
    clear hs0
    go_wp2_with fail
    refine (refReady_any b k l x bs (.slice A bs.length c) ending _ (HB.out.below hbw1) (by omega)).mono ?_
    rintro e w2 ⟨rfl, hb2⟩
    have hbw2 := below_next hbw1 hb2
    have hT2 := hT1.below hb2 hT1.lt
    clear y0 y1 y2 y3 z0 z1 z2 z3
    obtain ⟨y0, y1, y2, y3, z0, z1, z2, z3⟩ := box4 hT2
    have hs2 := str_run (HB.out.below hbw2)
    have HV2 := Lib.hid (HV.out.below hb2)
    have HRC : Hid (∀ w', Below w2.heap.size w2 w' → Calls Tryd.prog 35 #[.agg #[.int .i64 b, .bool k, .bool l, .bool x], .slice A bs.length c, .int .i64 ending] w' fun e w'' => e = .returned (.string (baL (transL b ending [13, 10] [10] bs))) ∧ Below w'.heap.size w' w'') := Lib.hid (fun w' hw' => refCanon_any b k l x bs (.slice A bs.length c) ending w' ((he.below hbw2).below hw') ((HB.out.below hbw2).below hw') (by omega))
    by_cases hr : readyE b k x bs ending = 0
    · have HTR := Lib.hid (show transR b k x ending [13, 10] [10] bs = transL b ending [13, 10] [10] bs from if_pos hr)
      rw [hr]
      have hs3 : ∀ w', Below w2.heap.size w2 w' → (convert 22 9 (.slice A' (transL b ending [13, 10] [10] bs).length c')).run Tryd.prog w' = .ok (.string (baL (transL b ending [13, 10] [10] bs))) w' := fun w' hw' => by
        have := str_run (HV2.out.below hw')
        rw [HTR.out] at this
        exact this
      rw [HTR.out]
      clear hr
      generalize transL b ending [13, 10] [10] bs = R at *
      have hlT := hT2.lt
      go_wp2_with fail
      go_region_held3 (fun w' => Below w2.heap.size w2 w' ∧ w'.cell? ⟨w.heap.size, 0, none⟩ = some (.int .i64 b) ∧ w'.cell? ⟨w.heap.size, 1, none⟩ = some (.bool k) ∧ w'.cell? ⟨w.heap.size, 2, none⟩ = some (.bool l) ∧ w'.cell? ⟨w.heap.size, 3, none⟩ = some (.bool x))
        (first | exact ⟨(Below.refl _ _).drew, y0, y1, y2, y3⟩ | (refine ⟨?_, ?_, ?_, ?_, ?_⟩ <;> assumption))
        (first
          | (go_at_call 35; refine (HRC.out _ (Below.refl _ _).drew).mono ?_; rintro e w5 ⟨rfl, hb5⟩; have hS5 : Below w2.heap.size w2 w5 := (Below.refl _ _).drew.trans hb5; obtain ⟨y0, y1, y2, y3, z0, z1, z2, z3⟩ := box4 (hT2.below hS5 hlT))
          | (go_at_call 20; refine (awake_any _ ((he.below hbw2).below hS5)).mono ?_; rintro e w7 ⟨rfl, hb7⟩; have hS7 : Below w2.heap.size w2 w7 := below_next hS5 hb7; obtain ⟨y0, y1, y2, y3, z0, z1, z2, z3⟩ := box4 (hT2.below hS7 hlT)))
      go_wp2_with fail
      go_ret
      exact ⟨rfl, below_next hbw2 hS7⟩
    · have q1 : (readyE b k x bs ending == 0) = false := by simpa using hr
      have q2 : (readyE b k x bs ending != 0) = true := by simpa using hr
      have HTR := Lib.hid (show transR b k x ending [13, 10] [10] bs = [] from if_neg hr)
      rw [HTR.out]
      clear hr HRC
      generalize readyE b k x bs ending = r at *
      go_wp2_with fail
      refine (awake_any _ (he.below hbw2)).mono ?_
      rintro e w3 ⟨rfl, hb3⟩
      go_wp2_with fail
      go_ret
      exact ⟨rfl, below_next hbw2 hb3⟩
theorem filetypeStores_walk (t : Ty) (bs : List UInt8) (v : Value) (ending : Int) (w : World) (he : Env w) (hb : Bytes w v bs) :
    Calls Tryd.prog 12 #[t.val, v, .int .i64 ending] w fun e w' => e = .returned (.bool true) ∧ Below w.heap.size w w' := stores_main t.base t.k t.l t.x bs v ending w he hb

set_option maxRecDepth 100000 in
set_option maxHeartbeats 4000000 in
theorem locals_main (b : Int) (k l x : Bool) (bs : List UInt8) (v : Value) (ending : Int) (w : World) (he : Env w) (hb : Bytes w v bs) :
    Calls Tryd.prog 13 #[.agg #[.int .i64 b, .bool k, .bool l, .bool x], v, .int .i64 ending] w fun e w' => e = .returned (.bool true) ∧ Below w.heap.size w w' := by
  have hA0 : Below w.heap.size w (w.alloc (.cells #[.int .i64 b, .bool k, .bool l, .bool x] 27)) := (Below.refl _ _).alloc (Nat.le_refl _) _
  have HB := Lib.hid hb
  obtain ⟨A, c, rfl, hc, hm, -⟩ := hb
  unfold maxLen at hm
  by_cases hlong : 2000 < bs.length
  · have d1 : decide ((2000 : Int) < (bs.length : Int)) = true := by simp; omega
    have d2 : decide (2000 < bs.length) = true := by simp; omega
    go_enter Tryd.func13, Tryd.ntmps13
    go_wp2_with fail
    refine (awake_any _ (he.below hA0)).mono ?_
    rintro e w1 ⟨rfl, hb1⟩
    go_wp2_with fail
    go_ret
    exact ⟨rfl, hA0.trans (hb1.mono (by simp))⟩
  · have d1 : decide ((2000 : Int) < (bs.length : Int)) = false := by simp; omega
    have d2 : decide (2000 < bs.length) = false := by simp; omega
    have hs0 := str_run (HB.out.below hA0)
    have HC := Lib.hid (local_any b k l x bs (.slice A bs.length c) ending _ (he.below hA0) (HB.out.below hA0) (by omega))
    go_enter Tryd.func13, Tryd.ntmps13
    go_wp2_with fail
    refine HC.out.mono ?_
    rintro e w1 ⟨v', rfl, hv', hb1⟩
    have hT1 := (blk_new w [.int .i64 b, .bool k, .bool l, .bool x] 27).below hb1 (by simp)
    have hbw1 : Below w.heap.size w w1 := hA0.trans (hb1.mono (by simp))
    obtain ⟨y0, y1, y2, y3, z0, z1, z2, z3⟩ := box4 hT1
    have HV := Lib.hid hv'
    obtain ⟨A', c', rfl, -⟩ := hv'
    clear hs0
    go_wp2_with fail
    refine (refReady_any b k l x bs (.slice A bs.length c) ending _ (HB.out.below hbw1) (by omega)).mono ?_
    rintro e w2 ⟨rfl, hb2⟩
    have hbw2 := below_next hbw1 hb2
    have hT2 := hT1.below hb2 hT1.lt
    clear y0 y1 y2 y3 z0 z1 z2 z3
    obtain ⟨y0, y1, y2, y3, z0, z1, z2, z3⟩ := box4 hT2
    have hs2 := str_run (HB.out.below hbw2)
    have HV2 := Lib.hid (HV.out.below hb2)
    have HRC : Hid (∀ w', Below w2.heap.size w2 w' → Calls Tryd.prog 36 #[.agg #[.int .i64 b, .bool k, .bool l, .bool x], .slice A bs.length c, .int .i64 ending] w' fun e w'' => e = .returned (.string (baL (transL b ending [10] [13, 10] bs))) ∧ Below w'.heap.size w' w'') := Lib.hid (fun w' hw' => refLocal_any b k l x bs (.slice A bs.length c) ending w' ((he.below hbw2).below hw') ((HB.out.below hbw2).below hw') (by omega))
    by_cases hr : readyE b k x bs ending = 0
    · have HTR := Lib.hid (show transR b k x ending [10] [13, 10] bs = transL b ending [10] [13, 10] bs from if_pos hr)
      rw [hr]
      have hs3 : ∀ w', Below w2.heap.size w2 w' → (convert 22 9 (.slice A' (transL b ending [10] [13, 10] bs).length c')).run Tryd.prog w' = .ok (.string (baL (transL b ending [10] [13, 10] bs))) w' := fun w' hw' => by
        have := str_run (HV2.out.below hw')
        rw [HTR.out] at this
        exact this
      rw [HTR.out]
      clear hr
      generalize transL b ending [10] [13, 10] bs = R at *
      have hlT := hT2.lt
      go_wp2_with fail
      go_region_held3 (fun w' => Below w2.heap.size w2 w' ∧ w'.cell? ⟨w.heap.size, 0, none⟩ = some (.int .i64 b) ∧ w'.cell? ⟨w.heap.size, 1, none⟩ = some (.bool k) ∧ w'.cell? ⟨w.heap.size, 2, none⟩ = some (.bool l) ∧ w'.cell? ⟨w.heap.size, 3, none⟩ = some (.bool x))
        (first | exact ⟨(Below.refl _ _).drew, y0, y1, y2, y3⟩ | (refine ⟨?_, ?_, ?_, ?_, ?_⟩ <;> assumption))
        (first
          | (go_at_call 36; refine (HRC.out _ (Below.refl _ _).drew).mono ?_; rintro e w5 ⟨rfl, hb5⟩; have hS5 : Below w2.heap.size w2 w5 := (Below.refl _ _).drew.trans hb5; obtain ⟨y0, y1, y2, y3, z0, z1, z2, z3⟩ := box4 (hT2.below hS5 hlT))
          | (go_at_call 20; refine (awake_any _ ((he.below hbw2).below hS5)).mono ?_; rintro e w7 ⟨rfl, hb7⟩; have hS7 : Below w2.heap.size w2 w7 := below_next hS5 hb7; obtain ⟨y0, y1, y2, y3, z0, z1, z2, z3⟩ := box4 (hT2.below hS7 hlT)))
      go_wp2_with fail
      go_ret
      exact ⟨rfl, below_next hbw2 hS7⟩
    · have q1 : (readyE b k x bs ending == 0) = false := by simpa using hr
      have q2 : (readyE b k x bs ending != 0) = true := by simpa using hr
      have HTR := Lib.hid (show transR b k x ending [10] [13, 10] bs = [] from if_neg hr)
      rw [HTR.out]
      clear hr HRC
      generalize readyE b k x bs ending = r at *
      go_wp2_with fail
      refine (awake_any _ (he.below hbw2)).mono ?_
      rintro e w3 ⟨rfl, hb3⟩
      go_wp2_with fail
      go_ret
      exact ⟨rfl, below_next hbw2 hb3⟩
theorem filetypeLocals_walk (t : Ty) (bs : List UInt8) (v : Value) (ending : Int) (w : World) (he : Env w) (hb : Bytes w v bs) :
    Calls Tryd.prog 13 #[t.val, v, .int .i64 ending] w fun e w' => e = .returned (.bool true) ∧ Below w.heap.size w w' := locals_main t.base t.k t.l t.x bs v ending w he hb

end Go.Proofs.YtfifalpacagacaaDoor
