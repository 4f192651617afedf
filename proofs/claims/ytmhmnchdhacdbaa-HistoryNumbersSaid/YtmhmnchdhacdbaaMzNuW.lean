/- HistoryNumbers: the walk. -/
import Derived.Test.YtmhmnchdhacdbaaMzLog
import Derived.Test.YtmhmnchdhacdbaaMzValW
import Derived.Test.YtmhmnchdhacdbaaMgonce
namespace Go.Proofs.Ytmhmnchdhacdbaa
open Go.RowKit
set_option linter.unusedVariables false
set_option linter.unusedSimpArgs false

/-- What is known of the i-th revision of a path. -/
structure NumAt (L : List Rev) (p : ByteArray) (i : Nat) (v : Rev) (live : Bool) (chg : Int) : Prop where
  path : v.path = p
  num : v.num = (i : Int) + 1
  chg : chg < v.chg
  alt : addA v.act = !live
  live2 : liveAt L (i + 1) = liveA v.act
  chg2 : chgAt L (i + 1) = v.chg
theorem num_at {revs : List Rev} {p : ByteArray} (h : LogOk revs p) (i : Nat) (hi : i < (logOf revs p).length) : NumAt (logOf revs p) p i (logOf revs p)[i] (liveAt (logOf revs p) i) (chgAt (logOf revs p) i) :=
  ⟨(mem_log.1 (List.getElem_mem hi)).2, h.num i hi, h.chg_at i hi, h.alt_at i hi, liveAt_next _ _ hi, chgAt_next _ _ hi⟩

theorem act_cases (a : Int) (live : Bool) (h : ((a == 1) || (a == 4)) = !live) :
    ((a == 1) = true ∧ (a != 3) = true ∧ (a != 5) = true ∧ live = false ∧ ((a != 3) && (a != 5)) = true) ∨
    ((a == 1) = false ∧ (a == 4) = true ∧ (a != 3) = true ∧ (a != 5) = true ∧ live = false ∧ ((a != 3) && (a != 5)) = true) ∨
    ((a == 1) = false ∧ (a == 4) = false ∧ (a != 3) = false ∧ live = true ∧ ((a != 3) && (a != 5)) = false) ∨
    ((a == 1) = false ∧ (a == 4) = false ∧ (a != 3) = true ∧ (a != 5) = false ∧ live = true ∧ ((a != 3) && (a != 5)) = false) ∨
    ((a == 1) = false ∧ (a == 4) = false ∧ (a != 3) = true ∧ (a != 5) = true ∧ live = true ∧ ((a != 3) && (a != 5)) = true) := by
  by_cases h1 : a = 1
  · subst h1; left; cases live <;> simp_all
  · by_cases h4 : a = 4
    · subst h4; right; left; cases live <;> simp_all
    · by_cases h3 : a = 3
      · subst h3; right; right; left; cases live <;> simp_all
      · by_cases h5 : a = 5
        · subst h5; right; right; right; left; cases live <;> simp_all
        · right; right; right; right; cases live <;> simp_all
/-- The strings of a depot that was played of small changes. -/
theorem plays_small {l : List Chg} {d : Dep} (h : Plays l d) (hs : smallL l ∧ ∀ c ∈ l, ∀ r ∈ c.recs, r.last ≤ 9223372036854775807) : (∀ r ∈ d.revs, r.path.size ≤ 1000) ∧ ∀ r ∈ d.recs, r.small ∧ r.last ≤ 9223372036854775807 := by
  induction h with
  | nil => exact ⟨fun r hr => (by cases hr), fun r hr => (by cases hr)⟩
  | @skip l d c _ _ ih => exact ih ⟨(smallL_init hs.1).1, fun x hx => hs.2 x (List.mem_append_left _ hx)⟩
  | @step l d c rs _ h0 h1 _ ih =>
    obtain ⟨s1, s2, s3⟩ := smallL_init hs.1
    obtain ⟨i1, i2⟩ := ih ⟨s1, fun x hx => hs.2 x (List.mem_append_left _ hx)⟩
    have hW := small_chgW s2 s3 (hs.2 c (by simp))
    refine ⟨fun r hr => ?_, fun r hr => ?_⟩
    · rcases List.mem_append.1 hr with hr | hr
      · exact i1 r hr
      · obtain ⟨e, he, rfl⟩ := List.mem_map.1 hr
        exact hW.path e he
    · rcases List.mem_append.1 (h1.mem_iff.1 hr) with hr | hr
      · exact i2 r hr
      · exact hW.rec_ r hr

set_option maxRecDepth 100000 in
set_option maxHeartbeats 8000000 in
theorem numbers_any (ps : List ChV) (s : ByteArray) (v : Value) (w : World) (hP : Chgs w v ps) (hz : sizeOk ps) (hr : ∀ p ∈ ps, ∀ r ∈ p.1.recs, r.last ≤ 9223372036854775807) :
    Calls Try.prog 6 #[v, .string s] w fun e w' => e = .returned (.bool true) ∧ Below w.heap.size w w' := by
  have HSM := Lib.hid (small_any ps v w hP (by have := hz.1; omega) hz.2.1 hz.2.2)
  have HRR : Hid (∀ c ∈ ps.map (·.1), ∀ r ∈ c.recs, r.last ≤ 9223372036854775807) := Lib.hid (fun c hc r hx => by obtain ⟨p, hp, rfl⟩ := List.mem_map.1 hc; exact hr p hp r hx)
  have HPL := Lib.hid (fun X (hX : Below w.heap.size w X) (hs : smallL (ps.map (·.1))) => play_any ps v X (hP.below hX) hs hr)
  have HAW := Lib.hid (fun X => awake_any X)
  clear hP hz hr
  go_enter Try.func6, Try.ntmps6
  go_wp2_with fail
  refine HSM.out.mono ?_
  rintro e w2 ⟨b, rfl, hb2, hsm⟩
  have HB2 := Lib.hid hb2
  cases b with
  | false =>
    clear hb2 hsm
    go_wp2_with fail
    refine (HAW.out w2).mono ?_
    rintro e w3 ⟨rfl, hb3⟩
    have HB3 := Lib.hid hb3
    clear hb3
    go_wp2_with fail
    go_ret
    exact ⟨rfl, below_next HB2.out HB3.out⟩
  | true =>
    have HP2 := Lib.hid (HPL.out w2 hb2 (hsm rfl))
    have HSL : Hid (smallL (ps.map (·.1)) ∧ ∀ c ∈ ps.map (·.1), ∀ r ∈ c.recs, r.last ≤ 9223372036854775807) := Lib.hid ⟨hsm rfl, HRR.out⟩
    clear hb2 hsm HPL
    by_cases h300 : 300 < s.size
    · have q3 : decide ((300 : Int) < (s.size : Int)) = true := by simp; omega
      go_wp2_with fail
      refine (HAW.out w2).mono ?_
      rintro e w3 ⟨rfl, hb3⟩
      have HB3 := Lib.hid hb3
      clear hb3
      go_wp2_with fail
      go_ret
      exact ⟨rfl, below_next HB2.out HB3.out⟩
    have q3 : decide ((300 : Int) < (s.size : Int)) = false := by simp; omega
    go_wp2_with fail
    refine HP2.out.mono ?_
    rintro e w3 ⟨dv, dr, d, rfl, hb3, hd, hpl, -, -⟩
    obtain ⟨Ar, cr, rfl, hcr, hmr, -⟩ := id hd.1
    obtain ⟨Aq, cq, rfl, -⟩ := id hd.2.1
    unfold maxLen at hmr
    have HLO := Lib.hid (plays_log hpl s)
    have HDP := Lib.hid hpl
    have HPZ := Lib.hid (plays_small hpl HSL.out).1
    have HRZ := Lib.hid (plays_small hpl HSL.out).2
    have hB4 := blk_new w3 [.slice Ar d.revs.length cr, .slice Aq d.recs.length cq] 31
    have hb4 : Below w.heap.size w (w3.alloc (.cells #[.slice Ar d.revs.length cr, .slice Aq d.recs.length cq] 31)) := below_next HB2.out (below_alloc' hb3 _)
    have hd4 := hd.below ((Below.refl _ _).alloc (Nat.le_refl _) (.cells #[.slice Ar d.revs.length cr, .slice Aq d.recs.length cq] 31))
    have hlen : d.revs.length ≤ 512 := hd.2.2.len
    clear hb3 hd hpl HP2 HSM h300 q3
    go_upto_region 4 with fail
    generalize w3.alloc (.cells #[.slice Ar d.revs.length cr, .slice Aq d.recs.length cq] 31) = W4 at hB4 hb4 hd4 ⊢
    have HB4 := Lib.hid hB4
    have Hb4 := Lib.hid hb4
    have HD4 := Lib.hid hd4
    obtain ⟨d0, d1, -, -⟩ := box2 hB4
    generalize w3.heap.size = g5 at HB4 d0 d1 hB4 ⊢
    have HLG := Lib.hid (log_any d.revs s (.slice Ar d.revs.length cr) (.slice Aq d.recs.length cq) W4 hd4.1 (by omega))
    clear hB4 hb4 hd4
    go_wp2_with fail
    refine HLG.out.mono ?_
    rintro e W5 ⟨vl, L, rfl, hb5, hL, hLp, hLs⟩
    clear d0 d1
    have hLe := HLO.out.sort_eq hLp hLs
    obtain ⟨Al, cl, rfl, hcl, hml, -⟩ := id hL
    unfold maxLen at hml
    have HN := Lib.hid (fun i (hi : i < L.length) => (hLe ▸ (fun i hi => num_at HLO.out i hi) : ∀ i (hi : i < L.length), NumAt L s i L[i] (liveAt L i) (chgAt L i)) i hi)
    have HG := Lib.hid (fun v (hv : v ∈ L) => HLO.out.get (v := v) (mem_log.1 (hLe ▸ hv)).1 (mem_log.1 (hLe ▸ hv)).2)
    have hLl : L.length ≤ 512 := by have := log_len d.revs s; rw [← hLe] at this; omega
    have HL := Lib.hid hL
    have Hb5 := Lib.hid hb5
    clear hL hLp hLs hb5 hLe HLG
    go_wp2_with fail
    go_loopw [6, 7, 28] (fun a b t wr => ∃ k : Nat, t = .int .i64 k ∧ k ≤ L.length ∧ a = .bool (liveAt L k) ∧ b = .int .i64 (chgAt L k) ∧ Hid (Below W5.heap.size W5 wr)) (fun _ _ t _ => L.length - (intOf t).toNat)
    case atStart => exact ⟨0, rfl, Nat.zero_le _, rfl, rfl, Below.refl _ _⟩
    case round =>
      obtain ⟨k, rfl, hk, rfl, rfl, HI⟩ := hrel
      by_cases hlt : k < L.length
      · obtain ⟨ad, rfl, hab, hld⟩ := Revs.at_ (HL.out.below HI.out) hlt
        have HNA := Lib.hid (HN.out k hlt)
        have HGA := Lib.hid (HG.out _ (List.getElem_mem hlt))
        generalize L[k] = x at hld HNA HGA
        generalize hli : liveAt L k = live at HNA ⊢
        generalize hch : chgAt L k = chg at HNA ⊢
        clear hli hch
        obtain ⟨x0, x1, x2, x3, x4, x5, x6, x7, x8, x9, x10, x11⟩ := hld
        have hX := blk_new wr [.string x.path, .int .i64 x.num, .int .i64 x.chg, .int .i64 x.act, .int .i64 x.ty.base, .bool x.ty.k, .bool x.ty.l, .bool x.ty.x, .int .u64 x.sum, .int .i64 x.size, .string x.frm, .int .i64 x.fnum] 43
        have hA1 := HI.out.alloc HI.out.size (.cells #[.string x.path, .int .i64 x.num, .int .i64 x.chg, .int .i64 x.act, .int .i64 x.ty.base, .bool x.ty.k, .bool x.ty.l, .bool x.ty.x, .int .u64 x.sum, .int .i64 x.size, .string x.frm, .int .i64 x.fnum] 43)
        go_upto_region 8 with fail
        clear x0 x1 x2 x3 x4 x5 x6 x7 x8 x9 x10 x11
        generalize wr.alloc (.cells #[.string x.path, .int .i64 x.num, .int .i64 x.chg, .int .i64 x.act, .int .i64 x.ty.base, .bool x.ty.k, .bool x.ty.l, .bool x.ty.x, .int .u64 x.sum, .int .i64 x.size, .string x.frm, .int .i64 x.fnum] 43) = V1 at hX hA1 ⊢
        generalize wr.heap.size = g9 at hX ⊢
        have HX := Lib.hid hX
        have HA1 := Lib.hid hA1
        obtain ⟨y0, y1, y2, y3, y4, y5, y6, y7, y8, y9, y10, y11⟩ := box12 hX
        clear hX hA1
        have qp := str_eqB x.path s
        rw [decide_eq_true HNA.out.path] at qp
        have qn : (x.num != (k : Int) + 1) = false := by rw [bne_eq_false_iff_eq]; exact HNA.out.num
        have qc : decide (x.chg ≤ chg) = false := by have := HNA.out.chg; simp; omega
        have HAL : Hid (((x.act == 1) || (x.act == 4)) = !live) := Lib.hid HNA.out.alt
        have HGT : Hid (∀ X, Below V1.heap.size V1 X → Calls Try.prog 13 #[.agg #[.slice Ar d.revs.length cr, .slice Aq d.recs.length cq], .string s, .int .i64 ((k : Int) + 1)] X fun e w' => e = .returned (.tuple #[.agg #[.string x.path, .int .i64 x.num, .int .i64 x.chg, .int .i64 x.act, .int .i64 x.ty.base, .bool x.ty.k, .bool x.ty.l, .bool x.ty.x, .int .u64 x.sum, .int .i64 x.size, .string x.frm, .int .i64 x.fnum], .bool true]) ∧ Below X.heap.size X w') := Lib.hid (fun X hX => by
          have h := get_any d.revs s ((k : Int) + 1) (.slice Ar d.revs.length cr) (.slice Aq d.recs.length cq) X (HD4.out.1.below (below_next Hb5.out (below_next HA1.out hX))) (by omega)
          have hg := HGA.out
          rw [HNA.out.num] at hg
          rw [hg] at h
          exact h)
        have HRL : Hid (liveAt L (k + 1) = ((x.act != 3) && (x.act != 5)) ∧ chgAt L (k + 1) = x.chg) := Lib.hid ⟨HNA.out.live2, HNA.out.chg2⟩
        clear HNA HGA
        rcases act_cases x.act live HAL.out with ⟨q1, q3, q5, rfl, qr⟩ | ⟨q1, q4, q3, q5, rfl, qr⟩ | ⟨q1, q4, q3, rfl, qr⟩ | ⟨q1, q4, q3, q5, rfl, qr⟩ | ⟨q1, q4, q3, q5, rfl, qr⟩
        all_goals
          rw [qr] at HRL
          clear qr HAL
          go_upto_region 11 with fail
          go_quiet (fail)
          have HX2 : Hid (Blk (V1.drewN nq) g9 43 [.string x.path, .int .i64 x.num, .int .i64 x.chg, .int .i64 x.act, .int .i64 x.ty.base, .bool x.ty.k, .bool x.ty.l, .bool x.ty.x, .int .u64 x.sum, .int .i64 x.size, .string x.frm, .int .i64 x.fnum]) := Lib.hid (HX.out.below (below_dN (Below.refl _ _) nq) HX.out.lt)
          have HA2 : Hid (Below V1.heap.size V1 (V1.drewN nq)) := Lib.hid (below_dN (Below.refl _ _) nq)
          clear y0 y1 y2 y3 y4 y5 y6 y7 y8 y9 y10 y11
          generalize V1.drewN nq = V2 at HX2 HA2 ⊢
          obtain ⟨d0, d1, -, -⟩ := box2 (HB4.out.below (below_next Hb5.out (below_next HA1.out HA2.out)) HB4.out.lt)
          have HG2 := Lib.hid (HGT.out V2 HA2.out)
          go_wp2_with fail
          refine HG2.out.mono ?_
          rintro e V3 ⟨rfl, hb3⟩
          clear d0 d1
          have hY := blk_new V3 [.string x.path, .int .i64 x.num, .int .i64 x.chg, .int .i64 x.act, .int .i64 x.ty.base, .bool x.ty.k, .bool x.ty.l, .bool x.ty.x, .int .u64 x.sum, .int .i64 x.size, .string x.frm, .int .i64 x.fnum] 43
          have hA5 : Below V2.heap.size V2 (V3.alloc (.cells #[.string x.path, .int .i64 x.num, .int .i64 x.chg, .int .i64 x.act, .int .i64 x.ty.base, .bool x.ty.k, .bool x.ty.l, .bool x.ty.x, .int .u64 x.sum, .int .i64 x.size, .string x.frm, .int .i64 x.fnum] 43)) := below_alloc' hb3 _
          clear hb3
          go_upto_region 13 with fail
          generalize V3.alloc (.cells #[.string x.path, .int .i64 x.num, .int .i64 x.chg, .int .i64 x.act, .int .i64 x.ty.base, .bool x.ty.k, .bool x.ty.l, .bool x.ty.x, .int .u64 x.sum, .int .i64 x.size, .string x.frm, .int .i64 x.fnum] 43) = V6 at hY hA5 ⊢
          generalize V3.heap.size = g11 at hY ⊢
          obtain ⟨y0, y1, y2, y3, y4, y5, y6, y7, y8, y9, y10, y11⟩ := box12 (HX2.out.below hA5 HX2.out.lt)
          obtain ⟨z0, z1, z2, z3, z4, z5, z6, z7, z8, z9, z10, z11⟩ := box12 hY
          have qe := run_neq_rev x x
          rw [show (!decide (x = x)) = false by simp] at qe
          have HNX : Hid (Below W5.heap.size W5 V6) := Lib.hid (below_next HA1.out (below_next HA2.out hA5))
          clear hY hA5
          go_wp2_with fail
          go_roundw
          case rel => exact ⟨k + 1, by go_num, by omega, by rw [HRL.out.1], by rw [HRL.out.2], HNX.out⟩
          case measure => simp [intOf]; omega
      · obtain ⟨d0, d1, -, -⟩ := box2 (HB4.out.below (below_next Hb5.out HI.out) HB4.out.lt)
        have HVA := Lib.hid (validD_any d (.slice Ar d.revs.length cr) (.slice Aq d.recs.length cq) wr (HD4.out.1.below (below_next Hb5.out HI.out)) (HD4.out.2.1.below (below_next Hb5.out HI.out)) HPZ.out HRZ.out)
        have HNB : Hid (¬ Bad d) := Lib.hid (plays_notBad HDP.out hlen HD4.out.2.2.rlen)
        clear HLO
        go_wp2_with fail
        refine HVA.out.mono ?_
        rintro e w7 ⟨b, rfl, hb7, -, hbad⟩
        cases b with
        | false => exact absurd (hbad rfl) HNB.out
        | true =>
          have HB7 := Lib.hid hb7
          clear hb7 hbad d0 d1
          go_wp2_with fail
          refine (HAW.out w7).mono ?_
          rintro e w8 ⟨rfl, hb8⟩
          have HB8 := Lib.hid hb8
          clear hb8
          go_wp2_with fail
          go_ret
          exact ⟨rfl, below_next Hb4.out (below_next Hb5.out (below_next HI.out (below_next HB7.out HB8.out)))⟩
end Go.Proofs.Ytmhmnchdhacdbaa
