/- HistoryWhole: the walk. -/
import Derived.Test.YtmhmnchdhacdbaaMzWhR
namespace Go.Proofs.Ytmhmnchdhacdbaa
open Go.RowKit
set_option linter.unusedVariables false
set_option linter.unusedSimpArgs false

set_option maxHeartbeats 2000000 in
theorem run_eql_rev (x y : Rev) (W : World) : (binOp .eql 43 (.agg #[.string x.path, .int .i64 x.num, .int .i64 x.chg, .int .i64 x.act, .int .i64 x.ty.base, .bool x.ty.k, .bool x.ty.l, .bool x.ty.x, .int .u64 x.sum, .int .i64 x.size, .string x.frm, .int .i64 x.fnum]) (.agg #[.string y.path, .int .i64 y.num, .int .i64 y.chg, .int .i64 y.act, .int .i64 y.ty.base, .bool y.ty.k, .bool y.ty.l, .bool y.ty.x, .int .u64 y.sum, .int .i64 y.size, .string y.frm, .int .i64 y.fnum])).run Try.prog W = .ok (.bool (decide (x = y))) W := by
  obtain ⟨x1, x2, x3, x4, ⟨x5, x6, x7, x8⟩, x9, x10, x11, x12⟩ := x
  obtain ⟨y1, y2, y3, y4, ⟨y5, y6, y7, y8⟩, y9, y10, y11, y12⟩ := y
  rw [run_eql_struct, run_equalIn_agg W 9999 43 _ _ (by kernel_rfl) (by kernel_rfl)]
  simp [go_sem, Op.eqFields, toList_inj]
  by_cases h1 : x1 = y1
  case neg => simp [h1]
  rw [if_pos h1]
  by_cases h2 : x2 = y2
  case neg => simp [h2]
  rw [if_pos h2]
  by_cases h3 : x3 = y3
  case neg => simp [h3]
  rw [if_pos h3]
  by_cases h4 : x4 = y4
  case neg => simp [h4]
  rw [if_pos h4]
  by_cases h5 : x5 = y5
  case neg => simp [h5]
  rw [if_pos h5]
  by_cases h6 : x6 = y6
  case neg => simp [h6]
  rw [if_pos h6]
  by_cases h7 : x7 = y7
  case neg => simp [h7]
  rw [if_pos h7]
  by_cases h8 : x8 = y8
  case neg => simp [h8]
  rw [if_pos h8]
  by_cases h9 : x9 = y9
  case neg => simp [h9]
  rw [if_pos h9]
  by_cases h10 : x10 = y10
  case neg => simp [h10]
  rw [if_pos h10]
  by_cases h11 : x11 = y11
  case neg => simp [h11]
  rw [if_pos h11]
  by_cases h12 : x12 = y12
  case neg => simp [h12]
  rw [if_pos h12]
  simp [h1, h2, h3, h4, h5, h6, h7, h8, h9, h10, h11, h12]

/-- What the revision that an edit makes has to do with it. -/
structure MadeOf (r : Rev) (x : Edt) (n : Int) : Prop where
  chg : r.chg = n
  num : r.num = x.base + 1
  act : r.act = x.act
  ty : r.ty = x.ty
  sum : r.sum = x.sum
  size : r.size = x.size
  frm : r.frm = x.frm
  fnum : r.fnum = x.fnum
  base : 0 ≤ x.base ∧ x.base ≤ 1000000

set_option maxRecDepth 100000 in
set_option maxHeartbeats 8000000 in
theorem whole_any (ps : List ChV) (ch : Chg) (Ae Ac : Option Addr) (ce cc : Nat) (s : ByteArray) (n : Int) (v : Value) (w : World) (hP : Chgs w v ps) (hE : Edts w (.slice Ae ch.edits.length ce) ch.edits) (hC : Rcds w (.slice Ac ch.recs.length cc) ch.recs)
    (hz : sizeOk (ps ++ [(ch, .slice Ae ch.edits.length ce, .slice Ac ch.recs.length cc)])) (hr : ∀ p ∈ ps, ∀ r ∈ p.1.recs, r.last ≤ 9223372036854775807) (hrc : ∀ r ∈ ch.recs, r.last ≤ 9223372036854775807) :
    Calls Try.prog 5 #[v, .agg #[.int .i64 ch.num, .string ch.client, .string ch.text, .slice Ae ch.edits.length ce, .slice Ac ch.recs.length cc], .string s, .int .i64 n] w fun e w' => e = .returned (.bool true) ∧ Below w.heap.size w w' := by
  have HP := Lib.hid hP
  have HE := Lib.hid (show ChV.ok w (ch, .slice Ae ch.edits.length ce, .slice Ac ch.recs.length cc) from ⟨hE, hC⟩)
  have HZ := Lib.hid hz
  have HR := Lib.hid hr
  have HRC := Lib.hid hrc
  have hB := blk_new w [.int .i64 ch.num, .string ch.client, .string ch.text, .slice Ae ch.edits.length ce, .slice Ac ch.recs.length cc] 26
  have hA : Below w.heap.size w (w.alloc (.cells #[.int .i64 ch.num, .string ch.client, .string ch.text, .slice Ae ch.edits.length ce, .slice Ac ch.recs.length cc] 26)) := (Below.refl _ _).alloc (Nat.le_refl _) _
  clear hP hE hC hz hr hrc
  go_enter Try.func5, Try.ntmps5
  go_upto_region 1 with fail
  generalize w.alloc (.cells #[.int .i64 ch.num, .string ch.client, .string ch.text, .slice Ae ch.edits.length ce, .slice Ac ch.recs.length cc] 26) = W1 at hB hA ⊢
  have HB := Lib.hid hB
  have HA := Lib.hid hA
  clear hB hA
  refine wholeR1 _ (by kernel_rfl) _ w.heap.size v s ps (ch, .slice Ae ch.edits.length ce, .slice Ac ch.recs.length cc) W1 (HP.out.below HA.out) (ChV.ok_below HE.out HA.out) HB.out HZ.out _ _ _ _ _ _ _ _ _ _ _ _ _ _ _ _ _ _ _ _ _ _ _ _ _ _ _ _ _ _ _ _ _ _ _ _ _ _ _ _ _ _ _ _ _ _ _ _ _ _ _ _ _ _ _ _ _ _ _ _ _ _ _ _ _ _ _ _ _ _ _ _ _ _ _ _ _ _ _ _ _ _ _ _ _ _ _ _ _ _ _ _ _ _ _ _ _ _ _ _ _ _ _ _ _ _ _ _ _ _ _ _ _ _ _ _ _ _ _ _ _ _ _ _ _ _ _ _ _ _ _ _ _ _ _ _ _ _ _ _ _ _ _ _ _ _ _ _ _ _ _ _ _ _ _ _ _ _ _ _ _ _ _ _ _ _ _ _ _ _ _ _ _ _ _ _ ?_
  intro t20 t21 t22 t23 t24 t25 t26 t27 t28 t29 t30 b w2 H2
  cases b with
  | true =>
    have HB2 := Lib.hid H2.out.1
    clear H2
    go_wp2_with fail
    refine (awake_any w2).mono ?_
    rintro e w3 ⟨rfl, hb3⟩
    have HB3 := Lib.hid hb3
    clear hb3
    go_wp2_with fail
    go_ret
    exact ⟨rfl, below_next HA.out (below_next HB2.out HB3.out)⟩
  | false =>
    have HSM : Hid _ := smallL_init (by have := H2.out.2 rfl; rwa [List.map_append, List.map_cons, List.map_nil] at this)
    have HCW : Hid (ChgW ch) := small_chgW HSM.out.2.1 HSM.out.2.2 HRC.out
    have HB2 := Lib.hid H2.out.1
    clear H2
    have HPL := Lib.hid (play_any ps v w2 ((HP.out.below HA.out).below HB2.out) HSM.out.1 HR.out)
    go_wp2_with fail
    refine HPL.out.mono ?_
    rintro e w3 ⟨dv, dr, d, rfl, hb3, hd, hpl, hfd, hfr⟩
    obtain ⟨Ad, cd, rfl, -⟩ := id hd.1
    obtain ⟨Ar, cr, rfl, -⟩ := id hd.2.1
    have hlen : d.revs.length ≤ 512 := hd.2.2.len
    have hrlen : d.recs.length ≤ 512 := hd.2.2.rlen
    have hB4 := blk_new w3 [.slice Ad d.revs.length cd, .slice Ar d.recs.length cr] 31
    have hb4 : Below w2.heap.size w2 (w3.alloc (.cells #[.slice Ad d.revs.length cd, .slice Ar d.recs.length cr] 31)) := below_alloc' hb3 _
    have hd4 := hd.below ((Below.refl _ _).alloc (Nat.le_refl _) (.cells #[.slice Ad d.revs.length cd, .slice Ar d.recs.length cr] 31))
    have HPLY := Lib.hid hpl
    clear hb3 hd hpl HPL hfd hfr
    go_upto_region 4 with fail
    generalize w3.alloc (.cells #[.slice Ad d.revs.length cd, .slice Ar d.recs.length cr] 31) = W4 at hB4 hb4 hd4 ⊢
    generalize w3.heap.size = g9 at hB4 ⊢
    have hwb : Below W1.heap.size W1 W4 := below_next HB2.out hb4
    have hbC := HB.out.below hwb HB.out.lt
    obtain ⟨d0, d1, -, -⟩ := box2 hB4
    obtain ⟨c0, c1, c2, c3, c4⟩ := box5 hbC
    have hw4 : Below w.heap.size w W4 := below_next HA.out hwb
    have HAP := Lib.hid (append_any d ch (.slice Ad d.revs.length cd) (.slice Ar d.recs.length cr) (.slice Ae ch.edits.length ce) (.slice Ac ch.recs.length cc) W4 hd4.1 hd4.2.1 (HE.out.1.below hw4) (HE.out.2.below hw4) hd4.2.2 HCW.out)
    have HD4 := Lib.hid hd4
    have HB4 := Lib.hid hB4
    have HC4 := Lib.hid hbC
    have HW4 := Lib.hid hw4
    clear hB4 hb4 hd4 hwb hbC hw4
    go_wp2_with fail
    refine HAP.out.mono ?_
    rintro e V2 ⟨hb2, ⟨hn0, rfl⟩ | ⟨h0, dv', dr', rs, rfl, hR', hQ', hpm', hpw', hf1, hf2⟩⟩
    · clear d0 d1 c0 c1 c2 c3 c4
      have q : (appE d ch != 0) = true := by simpa using hn0
      have HBV := Lib.hid hb2
      have HAW := Lib.hid (fun X => awake_any X)
      clear hn0 hb2
      go_wp2_with fail
      refine (HAW.out _).mono ?_
      rintro e w6 ⟨rfl, hb6⟩
      have HB6 := Lib.hid hb6
      clear hb6
      go_wp2_with fail
      go_ret
      exact ⟨rfl, below_next HW4.out (below_next HBV.out (below_next ((Below.refl _ _).alloc (Nat.le_refl _) _) HB6.out))⟩
    · clear d0 d1 c0 c1 c2 c3 c4
      obtain ⟨A7, c7, rfl, -, hm7, -⟩ := id hR'
      obtain ⟨A8, c8, rfl, -, hm8, -⟩ := id hQ'
      have HL1 : Hid ((newRevs d ch).length = d.revs.length + ch.edits.length) := Lib.hid (by unfold newRevs; simp)
      have HL2 : Hid (rs.length = d.recs.length + ch.recs.length) := Lib.hid (by rw [hpm'.length_eq, List.length_append])
      obtain ⟨s1, s2, s3, -⟩ := sizeE_zero (appE_zero h0).1
      have HAT := Lib.hid (fun x (hx : x ∈ ch.edits) => whole_at h0 hx)
      have HOLD := Lib.hid (fun hm => whole_old (d := d) (c := ch) s (m := n) hm)
      have HNUM := Lib.hid (fun p => HD4.out.2.2.lastNum p)
      have hB5 := blk_new V2 [.slice A7 (newRevs d ch).length c7, .slice A8 rs.length c8] 31
      have hR5 := hR'.below ((Below.refl _ _).alloc (Nat.le_refl _) (.cells #[.slice A7 (newRevs d ch).length c7, .slice A8 rs.length c8] 31))
      have hb5 : Below W4.heap.size W4 (V2.alloc (.cells #[.slice A7 (newRevs d ch).length c7, .slice A8 rs.length c8] 31)) := below_alloc' hb2 _
      clear hR' hQ' hpm' hpw' hf1 hf2 h0 hb2 HAP
      go_upto_region 5 with fail
      generalize V2.alloc (.cells #[.slice A7 (newRevs d ch).length c7, .slice A8 rs.length c8] 31) = V3 at hB5 hR5 hb5 ⊢
      generalize V2.heap.size = g10 at hB5 ⊢
      obtain ⟨e0, e1, -, -⟩ := box2 hB5
      obtain ⟨d0, d1, -, -⟩ := box2 (HB4.out.below hb5 HB4.out.lt)
      obtain ⟨c0, c1, c2, c3, c4⟩ := box5 (HC4.out.below hb5 HC4.out.lt)
      have HB5 := Lib.hid hB5
      have HR5 := Lib.hid hR5
      have Hb5 := Lib.hid hb5
      clear hB5 hR5 hb5
      have q1 : (((newRevs d ch).length : Int) != (d.revs.length : Int) + (ch.edits.length : Int)) = false := by rw [bne_eq_false_iff_eq]; have := HL1.out; omega
      have q2 : ((rs.length : Int) != (d.recs.length : Int) + (ch.recs.length : Int)) = false := by rw [bne_eq_false_iff_eq]; have := HL2.out; omega
      go_wp2_with fail
      clear e0 e1 d0 d1 c0 c1 c2 c3 c4 q1 q2
      go_loopw [83] (fun s wr => ∃ k : Nat, s = .int .i64 k ∧ k ≤ ch.edits.length ∧ Hid (Below V3.heap.size V3 wr)) (fun s _ => ch.edits.length - (intOf s).toNat)
      case atStart => exact ⟨0, rfl, Nat.zero_le _, Below.refl _ _⟩
      case round =>
        obtain ⟨k, rfl, hk, HI⟩ := hrel
        by_cases hlt : k < ch.edits.length
        · have hwr : Below w.heap.size w wr := below_next HW4.out (below_next Hb5.out HI.out)
          obtain ⟨ad, rfl, hab, hld⟩ := Edts.at_ (HE.out.1.below hwr) hlt
          obtain ⟨hg, hbs⟩ := HAT.out _ (List.getElem_mem hlt)
          have hnm := HNUM.out (ch.edits[k]).path
          generalize ch.edits[k] = x at hld hg hbs hnm
          obtain ⟨r, hr⟩ : ∃ r, r = madeR (lastOf d.revs) ch.num x := ⟨_, rfl⟩
          rw [← hr] at hg
          have HMO : Hid (MadeOf r x ch.num) := Lib.hid (by
            subst hr
            exact ⟨rfl, by show _ + 1 = _; rw [hbs], rfl, rfl, rfl, rfl, rfl, rfl, by omega⟩)
          have HG := Lib.hid hg
          clear hr hg hbs hnm
          obtain ⟨x0, x1, x2, x3, x4, x5, x6, x7, x8, x9, x10, x11⟩ := hld
          have hX := blk_new wr [.string x.path, .int .i64 x.act, .int .i64 x.ty.base, .bool x.ty.k, .bool x.ty.l, .bool x.ty.x, .int .u64 x.sum, .int .i64 x.size, .int .i64 x.base, .string x.frm, .int .i64 x.fnum, .int .i64 x.fence] 45
          have hA1 := HI.out.alloc HI.out.size (.cells #[.string x.path, .int .i64 x.act, .int .i64 x.ty.base, .bool x.ty.k, .bool x.ty.l, .bool x.ty.x, .int .u64 x.sum, .int .i64 x.size, .int .i64 x.base, .string x.frm, .int .i64 x.fnum, .int .i64 x.fence] 45)
          have c3 : wr.cell? ⟨w.heap.size, 3, none⟩ = some (.slice (some ad) ch.edits.length ce) := (HC4.out.below (below_next Hb5.out HI.out) HC4.out.lt).cell 3
          go_upto_region 12 with fail
          clear x0 x1 x2 x3 x4 x5 x6 x7 x8 x9 x10 x11 c3 hwr
          generalize wr.alloc (.cells #[.string x.path, .int .i64 x.act, .int .i64 x.ty.base, .bool x.ty.k, .bool x.ty.l, .bool x.ty.x, .int .u64 x.sum, .int .i64 x.size, .int .i64 x.base, .string x.frm, .int .i64 x.fnum, .int .i64 x.fence] 45) = V4 at hX hA1 ⊢
          generalize wr.heap.size = g13 at hX ⊢
          obtain ⟨e0, e1, -, -⟩ := box2 (HB5.out.below hA1 HB5.out.lt)
          obtain ⟨c0, c1, c2, c3, c4⟩ := box5 (HC4.out.below (below_next Hb5.out hA1) HC4.out.lt)
          obtain ⟨y0, y1, y2, y3, y4, y5, y6, y7, y8, y9, y10, y11⟩ := box12 hX
          have HTA : Hid (Calls Try.prog 11 #[.agg #[.slice A7 (newRevs d ch).length c7, .slice A8 rs.length c8], .string x.path, .int .i64 ch.num] V4 fun e w' => e = .returned (.tuple #[.agg #[.string r.path, .int .i64 r.num, .int .i64 r.chg, .int .i64 r.act, .int .i64 r.ty.base, .bool r.ty.k, .bool r.ty.l, .bool r.ty.x, .int .u64 r.sum, .int .i64 r.size, .string r.frm, .int .i64 r.fnum], .bool true]) ∧ Below V4.heap.size V4 w') := Lib.hid (by
            have := at_any (newRevs d ch) x.path ch.num (.slice A7 (newRevs d ch).length c7) (.slice A8 rs.length c8) V4 (HR5.out.below hA1) (by have := HL1.out; omega)
            rw [HG.out] at this
            exact this)
          have HX := Lib.hid hX
          have HA1 := Lib.hid hA1
          clear hX hA1
          go_wp2_with fail
          refine HTA.out.mono ?_
          rintro e V5 ⟨rfl, hb5⟩
          clear e0 e1 c0 c1 c2 c3 c4 y0 y1 y2 y3 y4 y5 y6 y7 y8 y9 y10 y11
          have hY := blk_new V5 [.string r.path, .int .i64 r.num, .int .i64 r.chg, .int .i64 r.act, .int .i64 r.ty.base, .bool r.ty.k, .bool r.ty.l, .bool r.ty.x, .int .u64 r.sum, .int .i64 r.size, .string r.frm, .int .i64 r.fnum] 43
          have hA5 : Below V4.heap.size V4 (V5.alloc (.cells #[.string r.path, .int .i64 r.num, .int .i64 r.chg, .int .i64 r.act, .int .i64 r.ty.base, .bool r.ty.k, .bool r.ty.l, .bool r.ty.x, .int .u64 r.sum, .int .i64 r.size, .string r.frm, .int .i64 r.fnum] 43)) := below_alloc' hb5 _
          clear hb5
          go_upto_region 13 with fail
          generalize V5.alloc (.cells #[.string r.path, .int .i64 r.num, .int .i64 r.chg, .int .i64 r.act, .int .i64 r.ty.base, .bool r.ty.k, .bool r.ty.l, .bool r.ty.x, .int .u64 r.sum, .int .i64 r.size, .string r.frm, .int .i64 r.fnum] 43) = V6 at hY hA5 ⊢
          generalize V5.heap.size = g14 at hY ⊢
          obtain ⟨c0, c1, c2, c3, c4⟩ := box5 (HC4.out.below (below_next Hb5.out (below_next HA1.out hA5)) HC4.out.lt)
          obtain ⟨y0, y1, y2, y3, y4, y5, y6, y7, y8, y9, y10, y11⟩ := box12 (HX.out.below hA5 HX.out.lt)
          obtain ⟨z0, z1, z2, z3, z4, z5, z6, z7, z8, z9, z10, z11⟩ := box12 hY
          have q1 : (r.chg != ch.num) = false := by rw [bne_eq_false_iff_eq]; exact HMO.out.chg
          have q2 : (r.num != x.base + 1) = false := by rw [bne_eq_false_iff_eq]; exact HMO.out.num
          have q3 : (r.act != x.act) = false := by rw [bne_eq_false_iff_eq]; exact HMO.out.act
          have q4 := run_neq_ty r.ty x.ty
          rw [show (!decide (r.ty = x.ty)) = false by simp [HMO.out.ty]] at q4
          have q5 := run_neq_con r.sum r.size x.sum x.size
          rw [show (!(decide (r.sum = x.sum) && decide (r.size = x.size))) = false by simp [HMO.out.sum, HMO.out.size]] at q5
          have q6 := str_eqB r.frm x.frm
          rw [decide_eq_true HMO.out.frm] at q6
          have q7 : (r.fnum != x.fnum) = false := by rw [bne_eq_false_iff_eq]; exact HMO.out.fnum
          have b1 : 0 ≤ x.base := HMO.out.base.1
          have b2 : x.base ≤ 1000000 := HMO.out.base.2
          have HNX : Hid (Below V3.heap.size V3 V6) := Lib.hid (below_next HA1.out hA5)
          clear hY hA5
          go_wp2_with fail
          go_roundw
          case rel => exact ⟨k + 1, by go_num, by omega, HNX.out⟩
          case measure => simp [intOf]; omega
        · have hke : k = ch.edits.length := by omega
          have HWR : Hid (Below w.heap.size w wr) := Lib.hid (below_next HW4.out (below_next Hb5.out HI.out))
          have c0 : wr.cell? ⟨w.heap.size, 0, none⟩ = some (.int .i64 ch.num) := (HC4.out.below (below_next Hb5.out HI.out) HC4.out.lt).cell 0
          by_cases hc : ch.num ≤ n
          · have q : decide (ch.num ≤ n) = true := by simpa using hc
            clear hke
            go_wp2_with fail
            refine (awake_any wr).mono ?_
            rintro e w6 ⟨rfl, hb6⟩
            have HB6 := Lib.hid hb6
            clear hb6
            go_wp2_with fail
            go_ret
            exact ⟨rfl, below_next HWR.out HB6.out⟩
          · have q : decide (ch.num ≤ n) = false := by simpa using hc
            have HO := Lib.hid (HOLD.out (by omega))
            have HT1 := Lib.hid (at_any d.revs s n (.slice Ad d.revs.length cd) (.slice Ar d.recs.length cr) wr (HD4.out.1.below (below_next Hb5.out HI.out)) (by omega))
            obtain ⟨d0, d1, -, -⟩ := box2 (HB4.out.below (below_next Hb5.out HI.out) HB4.out.lt)
            clear hke
            go_wp2_with fail
            refine HT1.out.mono ?_
            rintro e V7 ⟨rfl, hb7⟩
            clear d0 d1 c0
            have HT2 := Lib.hid (fun X (hX : Below wr.heap.size wr X) => (HO.out ▸ at_any (newRevs d ch) s n (.slice A7 (newRevs d ch).length c7) (.slice A8 rs.length c8) X (HR5.out.below (below_next HI.out hX)) (by have := HL1.out; omega) : Calls Try.prog 11 #[.agg #[.slice A7 (newRevs d ch).length c7, .slice A8 rs.length c8], .string s, .int .i64 n] X fun e w' => e = .returned (.tuple #[.agg #[.string (someR (greatest d.revs s (fun v : Rev => decide (v.chg ≤ n)))).path, .int .i64 (someR (greatest d.revs s (fun v : Rev => decide (v.chg ≤ n)))).num, .int .i64 (someR (greatest d.revs s (fun v : Rev => decide (v.chg ≤ n)))).chg, .int .i64 (someR (greatest d.revs s (fun v : Rev => decide (v.chg ≤ n)))).act, .int .i64 (someR (greatest d.revs s (fun v : Rev => decide (v.chg ≤ n)))).ty.base, .bool (someR (greatest d.revs s (fun v : Rev => decide (v.chg ≤ n)))).ty.k, .bool (someR (greatest d.revs s (fun v : Rev => decide (v.chg ≤ n)))).ty.l, .bool (someR (greatest d.revs s (fun v : Rev => decide (v.chg ≤ n)))).ty.x, .int .u64 (someR (greatest d.revs s (fun v : Rev => decide (v.chg ≤ n)))).sum, .int .i64 (someR (greatest d.revs s (fun v : Rev => decide (v.chg ≤ n)))).size, .string (someR (greatest d.revs s (fun v : Rev => decide (v.chg ≤ n)))).frm, .int .i64 (someR (greatest d.revs s (fun v : Rev => decide (v.chg ≤ n)))).fnum], .bool (greatest d.revs s (fun v : Rev => decide (v.chg ≤ n))).isSome]) ∧ Below X.heap.size X w'))
            generalize greatest d.revs s (fun v : Rev => decide (v.chg ≤ n)) = o at HT2 ⊢
            generalize hso : someR o = r at HT2 ⊢
            clear hso
            have hY := blk_new V7 [.string r.path, .int .i64 r.num, .int .i64 r.chg, .int .i64 r.act, .int .i64 r.ty.base, .bool r.ty.k, .bool r.ty.l, .bool r.ty.x, .int .u64 r.sum, .int .i64 r.size, .string r.frm, .int .i64 r.fnum] 43
            have hA7 : Below wr.heap.size wr (V7.alloc (.cells #[.string r.path, .int .i64 r.num, .int .i64 r.chg, .int .i64 r.act, .int .i64 r.ty.base, .bool r.ty.k, .bool r.ty.l, .bool r.ty.x, .int .u64 r.sum, .int .i64 r.size, .string r.frm, .int .i64 r.fnum] 43)) := below_alloc' hb7 _
            clear hb7 HT1
            go_upto_region 19 with fail
            generalize V7.alloc (.cells #[.string r.path, .int .i64 r.num, .int .i64 r.chg, .int .i64 r.act, .int .i64 r.ty.base, .bool r.ty.k, .bool r.ty.l, .bool r.ty.x, .int .u64 r.sum, .int .i64 r.size, .string r.frm, .int .i64 r.fnum] 43) = V8 at hY hA7 ⊢
            generalize V7.heap.size = g16 at hY ⊢
            obtain ⟨e0, e1, -, -⟩ := box2 (HB5.out.below (below_next HI.out hA7) HB5.out.lt)
            have HT3 := Lib.hid (HT2.out V8 hA7)
            have HY := Lib.hid hY
            have HA7 := Lib.hid hA7
            clear hY hA7
            go_wp2_with fail
            refine HT3.out.mono ?_
            rintro e V9 ⟨rfl, hb9⟩
            clear e0 e1
            have hZ := blk_new V9 [.string r.path, .int .i64 r.num, .int .i64 r.chg, .int .i64 r.act, .int .i64 r.ty.base, .bool r.ty.k, .bool r.ty.l, .bool r.ty.x, .int .u64 r.sum, .int .i64 r.size, .string r.frm, .int .i64 r.fnum] 43
            have hA9 : Below V8.heap.size V8 (V9.alloc (.cells #[.string r.path, .int .i64 r.num, .int .i64 r.chg, .int .i64 r.act, .int .i64 r.ty.base, .bool r.ty.k, .bool r.ty.l, .bool r.ty.x, .int .u64 r.sum, .int .i64 r.size, .string r.frm, .int .i64 r.fnum] 43)) := below_alloc' hb9 _
            clear hb9
            go_upto_region 20 with fail
            generalize V9.alloc (.cells #[.string r.path, .int .i64 r.num, .int .i64 r.chg, .int .i64 r.act, .int .i64 r.ty.base, .bool r.ty.k, .bool r.ty.l, .bool r.ty.x, .int .u64 r.sum, .int .i64 r.size, .string r.frm, .int .i64 r.fnum] 43) = V10 at hZ hA9 ⊢
            generalize V9.heap.size = g18 at hZ ⊢
            obtain ⟨y0, y1, y2, y3, y4, y5, y6, y7, y8, y9, y10, y11⟩ := box12 (HY.out.below hA9 HY.out.lt)
            obtain ⟨z0, z1, z2, z3, z4, z5, z6, z7, z8, z9, z10, z11⟩ := box12 hZ
            have qr := run_eql_rev r r
            rw [show decide (r = r) = true by simp] at qr
            have HAW := Lib.hid (awake_any V10)
            have HN9 := Lib.hid hA9
            clear hZ hA9
            go_wp2_with fail
            refine HAW.out.mono ?_
            rintro e w6 ⟨rfl, hb6⟩
            have HB6 := Lib.hid hb6
            clear hb6
            go_wp2_with fail
            go_ret
            exact ⟨rfl, below_next HWR.out (below_next HA7.out (below_next HN9.out HB6.out))⟩
end Go.Proofs.Ytmhmnchdhacdbaa
