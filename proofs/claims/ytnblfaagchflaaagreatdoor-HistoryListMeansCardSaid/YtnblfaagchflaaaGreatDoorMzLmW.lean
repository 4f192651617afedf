/- HistoryListMeans: the walk. -/
import Derived.Test.YtnblfaagchflaaaGreatDoorMgy2
import Derived.Test.YtnblfaagchflaaaGreatDoorMgw11
import Derived.Test.YtnblfaagchflaaaGreatDoorMgw13
import Derived.Test.YtnblfaagchflaaaGreatDoorMgw16
import Derived.Test.YtnblfaagchflaaaGreatDoorMgw21
import Derived.Test.YtnblfaagchflaaaGreatDoorMgw15
namespace Go.Proofs.YtnblfaagchflaaaGreatDoor
open Go.RowKit
set_option linter.unusedVariables false
set_option linter.unusedSimpArgs false

theorem plays_paths {l : List Chg} {d : Dep} (h : Plays l d) : ∀ r ∈ d.revs, validS r.path = true ∧ r.path.size ≤ 1000000 := by
  induction h with
  | nil => intro r hr; cases hr
  | skip _ _ ih => exact ih
  | step _ h0 _ _ ih =>
    intro r hr
    have hr' : r ∈ newRevs _ _ := hr
    unfold newRevs at hr'
    rcases List.mem_append.1 hr' with hr' | hr'
    · exact ih r hr'
    · obtain ⟨e, he, rfl⟩ := List.mem_map.1 hr'
      have := (everyE_paths (appE_zero h0).2.1).2 e he
      exact ⟨this.1, by have h2 := this.2.1; show e.path.size ≤ 1000000; omega⟩
/-- Whether a list has a path. -/
def inB (l : List Rev) (s : ByteArray) : Bool := l.any fun r => decide (r.path = s)
theorem inB_snoc (l : List Rev) (r : Rev) (s : ByteArray) : inB (l ++ [r]) s = (inB l s || decide (r.path = s)) := by unfold inB; rw [List.any_append]; simp
theorem inB_take {l : List Rev} {k : Nat} (h : k < l.length) (s : ByteArray) : inB (l.take (k + 1)) s = (inB (l.take k) s || decide (l[k].path = s)) := by rw [List.take_succ_eq_append_getElem h, inB_snoc]
theorem lsOk_at {D : List Rev} {p : Pat} {m : Int} {l : List Rev} (h : LsOk D p m l) (s : ByteArray) : inB l s = ((greatest D s (cntB m)).isSome && (matchP p s).isSome && liveA (someR (greatest D s (cntB m))).act) := by
  rw [Bool.eq_iff_iff]
  unfold inB
  rw [List.any_eq_true]
  constructor
  · rintro ⟨r, hr, he⟩
    obtain rfl := of_decide_eq_true he
    obtain ⟨h1, h2, h3⟩ := (h.mem r).1 hr
    rw [h1, h2]
    simpa [someR] using h3
  · intro hh
    rw [Bool.and_eq_true, Bool.and_eq_true] at hh
    obtain ⟨⟨h1, h2⟩, h3⟩ := hh
    cases hg : greatest D s (cntB m) with
    | none => rw [hg] at h1; cases h1
    | some r =>
      have hp : r.path = s := by
        have hl := lsOf_eq D m s
        rw [hg] at hl
        exact (lsOf_mem hl).2
      rw [hg] at h3
      subst hp
      exact ⟨r, (h.mem r).2 ⟨hg, h2, h3⟩, by simp⟩
theorem lsOk_mem {D : List Rev} {p : Pat} {m : Int} {l : List Rev} (h : LsOk D p m l) {r : Rev} (hr : r ∈ l) : someR (greatest D r.path (cntB m)) = r ∧ (greatest D r.path (cntB m)).isSome = true ∧ (matchP p r.path).isSome = true ∧ (r.act == 3) = false ∧ (r.act == 5) = false ∧ r ∈ D := by
  obtain ⟨h1, h2, h3⟩ := (h.mem r).1 hr
  refine ⟨by rw [h1]; rfl, by rw [h1]; rfl, h2, ?_, ?_, ?_⟩
  · unfold liveA at h3; cases h : (r.act == 3) <;> simp_all
  · unfold liveA at h3; cases h : (r.act == 5) <;> simp_all
  · rw [← lsOf_eq] at h1; exact (lsOf_mem h1).1
theorem pat_boxes {w : World} {g : Nat} {a b : Value} (h : Blk w g 25 [a, b]) : w.cell? ⟨g, 0, none⟩ = some a ∧ w.cell? ⟨g, 1, none⟩ = some b := ⟨h.cell 0, h.cell 1⟩
set_option maxRecDepth 100000 in
set_option maxHeartbeats 8000000 in
theorem means_any (ps : List ChV) (p : Pat) (s : ByteArray) (m : Int) (v : Value) (Ap : Option Addr) (cp : Nat) (w : World) (henv : Env w) (hP : Chgs w v ps) (hz : sizeOk ps) (hr : ∀ p ∈ ps, ∀ r ∈ p.1.recs, r.last ≤ 9223372036854775807)
    (hS : Strs w (.slice Ap p.parts.length cp) p.parts) (hpz : ∀ x ∈ p.parts, x.size ≤ maxLen) :
    Calls Tryz.prog 3 #[v, .agg #[.slice Ap p.parts.length cp, .bool p.rest], .int .i64 m, .string s] w fun e w' => e = .returned (.bool true) ∧ Below w.heap.size w w' := by
  have HAW := Lib.hid (fun X => awake_any X)
  obtain ⟨W1, hW1⟩ : ∃ W1, W1 = w.alloc (.cells #[.slice Ap p.parts.length cp, .bool p.rest] 25) := ⟨_, rfl⟩
  have hA1 : Below w.heap.size w W1 := by rw [hW1]; exact (Below.refl _ _).alloc (Nat.le_refl _) _
  have hB1 : Blk W1 w.heap.size 25 [.slice Ap p.parts.length cp, .bool p.rest] := by rw [hW1]; exact blk_new w _ _
  have HSM := Lib.hid (small_both ps v W1 (hP.below hA1) (by have := hz.1; omega) hz.2.1 hz.2.2)
  have HPL := Lib.hid (fun X (hX : Below w.heap.size w X) (hs : smallL (ps.map (·.1))) => play_any ps v X (hP.below hX) hs hr)
  have HSP := Lib.hid (fun X (hX : Below w.heap.size w X) => hS.below hX)
  have HPZ := Lib.hid hpz
  have HEN := Lib.hid henv
  obtain ⟨A', c', e', hcc, hmm, -⟩ := id hS
  injection e' with e1 e2 e3
  subst e1 e3
  unfold maxLen at hmm
  clear hP hz hr henv hS hpz e2
  go_enter Tryz.func3, Tryz.ntmps3
  go_upto_region 1 with fail
  rw [← hW1]
  clear hW1
  have HB1 := Lib.hid hB1
  have HA1 := Lib.hid hA1
  clear hB1 hA1
  go_wp2_with fail
  refine HSM.out.mono ?_
  rintro e w2 ⟨b, rfl, hb2, hsm, -⟩
  have HA2 := Lib.hid (below_next HA1.out hb2)
  have HB2 := Lib.hid (HB1.out.below hb2 HB1.out.lt)
  clear hb2 HSM
  obtain ⟨p0, p1⟩ := pat_boxes HB2.out
  cases b with
  | false =>
    clear hsm
    go_wp2_with fail
    refine (HAW.out w2).mono ?_
    rintro e w3 ⟨rfl, hb3⟩
    have HB3 := Lib.hid hb3
    clear hb3 p0 p1
    go_wp2_with fail
    go_ret
    exact ⟨rfl, below_next HA2.out HB3.out⟩
  | true =>
  have HP2 := Lib.hid (HPL.out w2 HA2.out (hsm rfl))
  clear hsm HPL
  by_cases h20 : 20 < p.parts.length
  · have q20 : decide ((20 : Int) < (p.parts.length : Int)) = true := by simp; omega
    clear h20
    go_wp2_with fail
    refine (HAW.out w2).mono ?_
    rintro e w3 ⟨rfl, hb3⟩
    have HB3 := Lib.hid hb3
    clear hb3 p0 p1
    go_wp2_with fail
    go_ret
    exact ⟨rfl, below_next HA2.out HB3.out⟩
  have q20 : decide ((20 : Int) < (p.parts.length : Int)) = false := by simp; omega
  clear h20
  by_cases h300 : 300 < s.size
  · have q3 : decide ((300 : Int) < (s.size : Int)) = true := by simp; omega
    clear h300
    go_wp2_with fail
    refine (HAW.out w2).mono ?_
    rintro e w3 ⟨rfl, hb3⟩
    have HB3 := Lib.hid hb3
    clear hb3 p0 p1
    go_wp2_with fail
    go_ret
    exact ⟨rfl, below_next HA2.out HB3.out⟩
  have q3 : decide ((300 : Int) < (s.size : Int)) = false := by simp; omega
  have hs300 : s.size ≤ 300 := by omega
  clear h300
  go_wp2_with fail
  refine HP2.out.mono ?_
  rintro e w3 ⟨dv, dr, d, rfl, hb3, hd, hpl, -, -⟩
  obtain ⟨Ar, cr, rfl, hcr, hmr, -⟩ := id hd.1
  obtain ⟨Aq, cq, rfl, -⟩ := id hd.2.1
  unfold maxLen at hmr
  have HPP := Lib.hid (plays_paths hpl)
  have hB4 := blk_new w3 [.slice Ar d.revs.length cr, .slice Aq d.recs.length cq] 31
  have hb4 : Below w.heap.size w (w3.alloc (.cells #[.slice Ar d.revs.length cr, .slice Aq d.recs.length cq] 31)) := below_next HA2.out (below_alloc' hb3 _)
  have hd4 := hd.below ((Below.refl _ _).alloc (Nat.le_refl _) (.cells #[.slice Ar d.revs.length cr, .slice Aq d.recs.length cq] 31))
  have hp4 := (HB2.out.below hb3 HB2.out.lt).alloc (.cells #[.slice Ar d.revs.length cr, .slice Aq d.recs.length cq] 31)
  have hlen : d.revs.length ≤ 512 := hd.2.2.len
  clear hb3 hd hpl HP2 p0 p1 q20 q3
  go_upto_region 4 with fail
  generalize w3.heap.size = g9 at hB4 ⊢
  generalize w3.alloc (.cells #[.slice Ar d.revs.length cr, .slice Aq d.recs.length cq] 31) = W4 at hB4 hb4 hd4 hp4 ⊢
  have HB4 := Lib.hid hB4
  have HP4 := Lib.hid hp4
  have Hb4 := Lib.hid hb4
  have HD4 := Lib.hid hd4.1
  have HLS := Lib.hid (list_any d.revs p m (.slice Ar d.revs.length cr) (.slice Aq d.recs.length cq) Ap cp W4 (HEN.out.below hb4) hd4.1 (by omega) HPP.out (HSP.out W4 hb4) HPZ.out)
  have HTA := Lib.hid (fun (q : ByteArray) X (hX : Below W4.heap.size W4 X) => at_any d.revs q m (.slice Ar d.revs.length cr) (.slice Aq d.recs.length cq) X (HD4.out.below hX) (by omega))
  have HMA := Lib.hid (fun (q : ByteArray) (hq : q.size ≤ 1000000) X (hX : Below W4.heap.size W4 X) => match_any p q Ap cp X (HEN.out.below (below_next hb4 hX)) hq (HSP.out X (below_next hb4 hX)) HPZ.out)
  obtain ⟨d0, d1, -, -⟩ := box2 hB4
  obtain ⟨p0, p1⟩ := pat_boxes hp4
  clear hB4 hb4 hd4 hp4
  go_wp2_with fail
  refine HLS.out.mono ?_
  rintro e w5 ⟨lv, l, rfl, hb5, hl5, hok, hll⟩
  clear d0 d1 p0 p1 HLS
  obtain ⟨Al, cl, rfl, hcl, hml, -⟩ := id hl5
  unfold maxLen at hml
  have HB5 := Lib.hid hb5
  have HL5 := Lib.hid hl5
  have HOK := Lib.hid hok
  clear hb5 hl5 hok
  have hl512 : l.length ≤ 512 := by omega
  go_upto_block 0 with fail
  go_cut [11] (fun v wx => v = .bool (inB l s) ∧ Hid (Below w5.heap.size w5 wx))
  case first =>
    go_wp2_with fail
    go_loopw [11, 47] (fun u i wr => ∃ k : Nat, i = .int .i64 k ∧ k ≤ l.length ∧ u = .bool (inB (l.take k) s) ∧ Hid (Below w5.heap.size w5 wr)) (fun _ i _ => l.length - (intOf i).toNat)
    case atStart => exact ⟨0, rfl, Nat.zero_le _, rfl, Below.refl _ _⟩
    case round =>
      obtain ⟨k, rfl, hk, rfl, HI⟩ := hrel
      by_cases hlt : k < l.length
      · obtain ⟨ad, rfl, hab, hld⟩ := Revs.at_ (HL5.out.below HI.out) hlt
        have HIN := Lib.hid (inB_take hlt s)
        have HME := Lib.hid (lsOk_mem HOK.out (List.getElem_mem hlt))
        have HSO : Hid (∀ j (hj : j < l.length), j < k → cmpP l[j].path l[k].path < 0) := Lib.hid (fun j hj h => List.pairwise_iff_getElem.1 HOK.out.sort j k hj hlt h)
        generalize l[k] = r at hld HIN HME HSO
        obtain ⟨x0, x1, x2, x3, x4, x5, x6, x7, x8, x9, x10, x11⟩ := hld
        have hX := blk_new wr [.string r.path, .int .i64 r.num, .int .i64 r.chg, .int .i64 r.act, .int .i64 r.ty.base, .bool r.ty.k, .bool r.ty.l, .bool r.ty.x, .int .u64 r.sum, .int .i64 r.size, .string r.frm, .int .i64 r.fnum] 40
        have hA1 : Below wr.heap.size wr (wr.alloc (.cells #[.string r.path, .int .i64 r.num, .int .i64 r.chg, .int .i64 r.act, .int .i64 r.ty.base, .bool r.ty.k, .bool r.ty.l, .bool r.ty.x, .int .u64 r.sum, .int .i64 r.size, .string r.frm, .int .i64 r.fnum] 40)) := (Below.refl _ _).alloc (Nat.le_refl _) _
        go_upto_region 9 with fail
        clear x0 x1 x2 x3 x4 x5 x6 x7 x8 x9 x10 x11
        generalize wr.alloc (.cells #[.string r.path, .int .i64 r.num, .int .i64 r.chg, .int .i64 r.act, .int .i64 r.ty.base, .bool r.ty.k, .bool r.ty.l, .bool r.ty.x, .int .u64 r.sum, .int .i64 r.size, .string r.frm, .int .i64 r.fnum] 40) = V1 at hX hA1 ⊢
        have HX1 := Lib.hid hX
        have HV1 := Lib.hid (below_next HI.out hA1)
        clear hX hA1
        obtain ⟨b, hb⟩ : ∃ b, inB (l.take k) s = b := ⟨_, rfl⟩
        rw [hb] at HIN
        rw [hb]
        clear hb
        by_cases hk0 : k = 0
        · have qk : decide ((0 : Int) < (k : Int)) = false := by simp; omega
          have qk2 : decide (0 < k) = false := by simp; omega
          have qk3 : ¬ 0 < k := by omega
          clear hk0
          go_upto_region 13 with fail
          clear qk qk2 qk3
          generalize V1 = Vx at HX1 HV1 ⊢
          generalize wr.heap.size = gx at HX1 ⊢
          obtain ⟨d0, d1, -, -⟩ := box2 (HB4.out.below (below_next HB5.out HV1.out) HB4.out.lt)
          obtain ⟨y0, y1, y2, y3, y4, y5, y6, y7, y8, y9, y10, y11⟩ := box12 HX1.out
          have hT1 := HTA.out r.path Vx (below_next HB5.out HV1.out)
          change Calls Tryz.prog 10 #[.agg #[.slice Ar d.revs.length cr, .slice Aq d.recs.length cq], .string r.path, .int .i64 m] Vx (fun e w' => e = .returned (.tuple #[.agg #[.string (someR (greatest d.revs r.path (cntB m))).path, .int .i64 (someR (greatest d.revs r.path (cntB m))).num, .int .i64 (someR (greatest d.revs r.path (cntB m))).chg, .int .i64 (someR (greatest d.revs r.path (cntB m))).act, .int .i64 (someR (greatest d.revs r.path (cntB m))).ty.base, .bool (someR (greatest d.revs r.path (cntB m))).ty.k, .bool (someR (greatest d.revs r.path (cntB m))).ty.l, .bool (someR (greatest d.revs r.path (cntB m))).ty.x, .int .u64 (someR (greatest d.revs r.path (cntB m))).sum, .int .i64 (someR (greatest d.revs r.path (cntB m))).size, .string (someR (greatest d.revs r.path (cntB m))).frm, .int .i64 (someR (greatest d.revs r.path (cntB m))).fnum], .bool (greatest d.revs r.path (cntB m)).isSome]) ∧ Below Vx.heap.size Vx w') at hT1
          rw [HME.out.1, HME.out.2.1] at hT1
          have HT1 := Lib.hid hT1
          clear hT1
          go_wp2_with fail
          refine HT1.out.mono ?_
          rintro e w7 ⟨rfl, hb7⟩
          clear d0 d1 y0 y1 y2 y3 y4 y5 y6 y7 y8 y9 y10 y11
          have hY := blk_new w7 [.string r.path, .int .i64 r.num, .int .i64 r.chg, .int .i64 r.act, .int .i64 r.ty.base, .bool r.ty.k, .bool r.ty.l, .bool r.ty.x, .int .u64 r.sum, .int .i64 r.size, .string r.frm, .int .i64 r.fnum] 40
          have hb8 := below_next hb7 ((Below.refl w7.heap.size w7).alloc (Nat.le_refl _) (.cells #[.string r.path, .int .i64 r.num, .int .i64 r.chg, .int .i64 r.act, .int .i64 r.ty.base, .bool r.ty.k, .bool r.ty.l, .bool r.ty.x, .int .u64 r.sum, .int .i64 r.size, .string r.frm, .int .i64 r.fnum] 40))
          go_upto_region 14 with fail
          generalize w7.heap.size = gy at hY ⊢
          generalize w7.alloc (.cells #[.string r.path, .int .i64 r.num, .int .i64 r.chg, .int .i64 r.act, .int .i64 r.ty.base, .bool r.ty.k, .bool r.ty.l, .bool r.ty.x, .int .u64 r.sum, .int .i64 r.size, .string r.frm, .int .i64 r.fnum] 40) = W8 at hY hb8 ⊢
          have HY8 := Lib.hid hY
          have HX8 := Lib.hid (HX1.out.below hb8 HX1.out.lt)
          have HV8 := Lib.hid (below_next HV1.out hb8)
          clear hY hb7 hb8
          obtain ⟨p0, p1⟩ := pat_boxes (HP4.out.below (below_next HB5.out HV8.out) HP4.out.lt)
          obtain ⟨y0, -⟩ := box12 HX8.out
          have HM1 := Lib.hid (HMA.out r.path (HPP.out r HME.out.2.2.2.2.2).2 W8 (below_next HB5.out HV8.out))
          unfold MatchPost at HM1
          rw [HME.out.2.2.1] at HM1
          go_wp2_with fail
          refine HM1.out.mono ?_
          rintro e w9 ⟨A9, n9, c9, rfl, hb9, -⟩
          clear p0 p1 y0
          have HY9 := Lib.hid (HY8.out.below hb9 HY8.out.lt)
          have HX9 := Lib.hid (HX8.out.below hb9 HX8.out.lt)
          have HV9 := Lib.hid (below_next HV8.out hb9)
          clear hb9
          obtain ⟨y0, y1, y2, y3, y4, y5, y6, y7, y8, y9, y10, y11⟩ := box12 HX9.out
          obtain ⟨z0, z1, z2, z3, z4, z5, z6, z7, z8, z9, z10, z11⟩ := box12 HY9.out
          have qn := run_neq_rev r r
          rw [show (!decide (r = r)) = false by simp] at qn
          have q3 := HME.out.2.2.2.1
          have q5 := HME.out.2.2.2.2.1
          have qs := str_eqB r.path s
          obtain ⟨bs, hbs⟩ : ∃ b, decide (r.path = s) = b := ⟨_, rfl⟩
          rw [hbs] at qs HIN
          clear hbs
          cases b
          all_goals
            go_wp2_with fail
            go_roundw
            case rel => exact ⟨k + 1, by go_num, by omega, by rw [HIN.out]; rfl, HV9.out⟩
            case measure => simp [intOf]; omega
        · obtain ⟨j, hj⟩ : ∃ j, k = j + 1 := ⟨k - 1, by omega⟩
          have hjl : j < l.length := by omega
          obtain ⟨ad2, had2, -, hld2⟩ := Revs.at_ (HL5.out.below HV1.out) hjl
          injection had2 with had2
          subst had2
          have HCM := Lib.hid (HSO.out j hjl (by omega))
          have HVJ := Lib.hid (HPP.out _ (lsOk_mem HOK.out (List.getElem_mem hjl)).2.2.2.2.2)
          have HVR := Lib.hid (HPP.out _ HME.out.2.2.2.2.2)
          generalize l[j] = rj at hld2 HCM HVJ
          have HCP := Lib.hid (fun X => compare_any rj.path r.path X (by have := HVJ.out.2; omega) (by have := HVR.out.2; omega))
          rw [HVJ.out.1, HVR.out.1] at HCP
          have qk : decide ((0 : Int) < (k : Int)) = true := by simp; omega
          have qk2 : decide (0 < k) = true := by simp; omega
          have qk3 : 0 < k := by omega
          have qw : IntKind.i64.wrap ((k : Int) - 1) = (j : Int) := by rw [IntWalk.i64_in _ (by omega)]; omega
          have qj : (j : Int) < (l.length : Int) := by omega
          have qj0 : (0 : Int) ≤ (j : Int) := by omega
          have y0 := hld2.1
          obtain ⟨c0, -⟩ := box12 HX1.out
          have HC : Hid (∀ w', Below V1.heap.size V1 w' → w'.cell? (ad.add (j * 12)) = some (.string rj.path) ∧ w'.cell? ⟨wr.heap.size, 0, none⟩ = some (.string r.path)) := Lib.hid fun w' hb => ⟨cell_below y0 hb (cell_lt y0), cell_below c0 hb (cell_lt c0)⟩
          clear hk0 hj hld2 y0 c0
          go_upto_region 10 with fail
          go_region_held3 (fun w' => Below V1.heap.size V1 w' ∧ w'.cell? (ad.add (j * 12)) = some (.string rj.path) ∧ w'.cell? ⟨wr.heap.size, 0, none⟩ = some (.string r.path))
            ((refine and_of ?_ (HC.out _); first | with_reducible exact Below.refl _ _ | with_reducible exact (Below.refl _ _).drew | with_reducible assumption))
            ((go_at_call 9; refine (HCP.out _).mono ?_; rintro e' w6 ⟨rfl, hq6⟩; have hS6 : Below V1.heap.size V1 w6 := by first | exact (hq6.below _) | exact (Below.refl _ _).drew.trans (hq6.below _)))
          all_goals
            have q1 : decide ((0 : Int) ≤ cmpP rj.path r.path) = false := by have := HCM.out; simp; omega
            have q2 : (errP (true && true) != 0) = false := rfl
            have q2' : errP (true && true) = 0 := rfl
            have HX2 := Lib.hid (HX1.out.below hS6 HX1.out.lt)
            have HV2 := Lib.hid (below_next HV1.out hS6)
            clear hS6 HX1 HV1
            go_upto_region 13 with fail
            clear q1 q2 q2' qk qk2 qk3 qw qj qj0
            have HX1 := HX2
            have HV1 := HV2
            clear HX2 HV2
            generalize w6 = Vx at HX1 HV1 ⊢
            generalize wr.heap.size = gx at HX1 ⊢
            obtain ⟨d0, d1, -, -⟩ := box2 (HB4.out.below (below_next HB5.out HV1.out) HB4.out.lt)
            obtain ⟨y0, y1, y2, y3, y4, y5, y6, y7, y8, y9, y10, y11⟩ := box12 HX1.out
            have hT1 := HTA.out r.path Vx (below_next HB5.out HV1.out)
            change Calls Tryz.prog 10 #[.agg #[.slice Ar d.revs.length cr, .slice Aq d.recs.length cq], .string r.path, .int .i64 m] Vx (fun e w' => e = .returned (.tuple #[.agg #[.string (someR (greatest d.revs r.path (cntB m))).path, .int .i64 (someR (greatest d.revs r.path (cntB m))).num, .int .i64 (someR (greatest d.revs r.path (cntB m))).chg, .int .i64 (someR (greatest d.revs r.path (cntB m))).act, .int .i64 (someR (greatest d.revs r.path (cntB m))).ty.base, .bool (someR (greatest d.revs r.path (cntB m))).ty.k, .bool (someR (greatest d.revs r.path (cntB m))).ty.l, .bool (someR (greatest d.revs r.path (cntB m))).ty.x, .int .u64 (someR (greatest d.revs r.path (cntB m))).sum, .int .i64 (someR (greatest d.revs r.path (cntB m))).size, .string (someR (greatest d.revs r.path (cntB m))).frm, .int .i64 (someR (greatest d.revs r.path (cntB m))).fnum], .bool (greatest d.revs r.path (cntB m)).isSome]) ∧ Below Vx.heap.size Vx w') at hT1
            rw [HME.out.1, HME.out.2.1] at hT1
            have HT1 := Lib.hid hT1
            clear hT1
            go_wp2_with fail
            refine HT1.out.mono ?_
            rintro e w7 ⟨rfl, hb7⟩
            clear d0 d1 y0 y1 y2 y3 y4 y5 y6 y7 y8 y9 y10 y11
            have hY := blk_new w7 [.string r.path, .int .i64 r.num, .int .i64 r.chg, .int .i64 r.act, .int .i64 r.ty.base, .bool r.ty.k, .bool r.ty.l, .bool r.ty.x, .int .u64 r.sum, .int .i64 r.size, .string r.frm, .int .i64 r.fnum] 40
            have hb8 := below_next hb7 ((Below.refl w7.heap.size w7).alloc (Nat.le_refl _) (.cells #[.string r.path, .int .i64 r.num, .int .i64 r.chg, .int .i64 r.act, .int .i64 r.ty.base, .bool r.ty.k, .bool r.ty.l, .bool r.ty.x, .int .u64 r.sum, .int .i64 r.size, .string r.frm, .int .i64 r.fnum] 40))
            go_upto_region 14 with fail
            generalize w7.heap.size = gy at hY ⊢
            generalize w7.alloc (.cells #[.string r.path, .int .i64 r.num, .int .i64 r.chg, .int .i64 r.act, .int .i64 r.ty.base, .bool r.ty.k, .bool r.ty.l, .bool r.ty.x, .int .u64 r.sum, .int .i64 r.size, .string r.frm, .int .i64 r.fnum] 40) = W8 at hY hb8 ⊢
            have HY8 := Lib.hid hY
            have HX8 := Lib.hid (HX1.out.below hb8 HX1.out.lt)
            have HV8 := Lib.hid (below_next HV1.out hb8)
            clear hY hb7 hb8
            obtain ⟨p0, p1⟩ := pat_boxes (HP4.out.below (below_next HB5.out HV8.out) HP4.out.lt)
            obtain ⟨y0, -⟩ := box12 HX8.out
            have HM1 := Lib.hid (HMA.out r.path (HPP.out r HME.out.2.2.2.2.2).2 W8 (below_next HB5.out HV8.out))
            unfold MatchPost at HM1
            rw [HME.out.2.2.1] at HM1
            go_wp2_with fail
            refine HM1.out.mono ?_
            rintro e w9 ⟨A9, n9, c9, rfl, hb9, -⟩
            clear p0 p1 y0
            have HY9 := Lib.hid (HY8.out.below hb9 HY8.out.lt)
            have HX9 := Lib.hid (HX8.out.below hb9 HX8.out.lt)
            have HV9 := Lib.hid (below_next HV8.out hb9)
            clear hb9
            obtain ⟨y0, y1, y2, y3, y4, y5, y6, y7, y8, y9, y10, y11⟩ := box12 HX9.out
            obtain ⟨z0, z1, z2, z3, z4, z5, z6, z7, z8, z9, z10, z11⟩ := box12 HY9.out
            have qn := run_neq_rev r r
            rw [show (!decide (r = r)) = false by simp] at qn
            have q3 := HME.out.2.2.2.1
            have q5 := HME.out.2.2.2.2.1
            have qs := str_eqB r.path s
            obtain ⟨bs, hbs⟩ : ∃ b, decide (r.path = s) = b := ⟨_, rfl⟩
            rw [hbs] at qs HIN
            clear hbs
            cases b
            all_goals
              go_wp2_with fail
              go_roundw
              case rel => exact ⟨k + 1, by go_num, by omega, by rw [HIN.out]; rfl, HV9.out⟩
              case measure => simp [intOf]; omega
      · have hke : k = l.length := by omega
        subst hke
        have HIE : Hid (inB (l.take l.length) s = inB l s) := Lib.hid (by rw [List.take_length])
        rw [HIE.out]
        go_wp2_with fail
        go_meet
        exact ⟨rfl, HI.out⟩
  case rest =>
    obtain ⟨rfl, hcb⟩ := hcut
    have HWC := Lib.hid (below_next HB5.out hcb.out)
    clear hcb
    have HFI := Lib.hid (lsOk_at HOK.out s)
    obtain ⟨d0, d1, -, -⟩ := box2 (HB4.out.below HWC.out HB4.out.lt)
    have HT1 := Lib.hid (HTA.out s wc HWC.out)
    change Hid (Calls Tryz.prog 10 #[.agg #[.slice Ar d.revs.length cr, .slice Aq d.recs.length cq], .string s, .int .i64 m] wc fun e w' => e = .returned (.tuple #[.agg #[.string (someR (greatest d.revs s (cntB m))).path, .int .i64 (someR (greatest d.revs s (cntB m))).num, .int .i64 (someR (greatest d.revs s (cntB m))).chg, .int .i64 (someR (greatest d.revs s (cntB m))).act, .int .i64 (someR (greatest d.revs s (cntB m))).ty.base, .bool (someR (greatest d.revs s (cntB m))).ty.k, .bool (someR (greatest d.revs s (cntB m))).ty.l, .bool (someR (greatest d.revs s (cntB m))).ty.x, .int .u64 (someR (greatest d.revs s (cntB m))).sum, .int .i64 (someR (greatest d.revs s (cntB m))).size, .string (someR (greatest d.revs s (cntB m))).frm, .int .i64 (someR (greatest d.revs s (cntB m))).fnum], .bool (greatest d.revs s (cntB m)).isSome]) ∧ Below wc.heap.size wc w') at HT1
    generalize inB l s = bi at HFI ⊢
    generalize hrs : someR (greatest d.revs s (cntB m)) = rs at HT1 HFI
    generalize (greatest d.revs s (cntB m)).isSome = os at HT1 HFI
    clear hrs
    go_wp2_with fail
    refine HT1.out.mono ?_
    rintro e w6 ⟨rfl, hb6⟩
    clear d0 d1
    have hX6 := blk_new w6 [.string rs.path, .int .i64 rs.num, .int .i64 rs.chg, .int .i64 rs.act, .int .i64 rs.ty.base, .bool rs.ty.k, .bool rs.ty.l, .bool rs.ty.x, .int .u64 rs.sum, .int .i64 rs.size, .string rs.frm, .int .i64 rs.fnum] 40
    have hb7 := below_next hb6 ((Below.refl w6.heap.size w6).alloc (Nat.le_refl _) (.cells #[.string rs.path, .int .i64 rs.num, .int .i64 rs.chg, .int .i64 rs.act, .int .i64 rs.ty.base, .bool rs.ty.k, .bool rs.ty.l, .bool rs.ty.x, .int .u64 rs.sum, .int .i64 rs.size, .string rs.frm, .int .i64 rs.fnum] 40))
    go_upto_region 20 with fail
    generalize w6.heap.size = g20 at hX6 ⊢
    generalize w6.alloc (.cells #[.string rs.path, .int .i64 rs.num, .int .i64 rs.chg, .int .i64 rs.act, .int .i64 rs.ty.base, .bool rs.ty.k, .bool rs.ty.l, .bool rs.ty.x, .int .u64 rs.sum, .int .i64 rs.size, .string rs.frm, .int .i64 rs.fnum] 40) = W7 at hX6 hb7 ⊢
    have HX7 := Lib.hid hX6
    have HB7 := Lib.hid (below_next HWC.out hb7)
    clear hX6 hb6 hb7
    obtain ⟨p0, p1⟩ := pat_boxes (HP4.out.below HB7.out HP4.out.lt)
    have HM1 := Lib.hid (HMA.out s (by omega) W7 HB7.out)
    unfold MatchPost at HM1
    generalize (matchP p s).isSome = ms at HM1 HFI
    go_wp2_with fail
    refine HM1.out.mono ?_
    rintro e w8 ⟨A8, n8, c8, rfl, hb8, -⟩
    clear p0 p1
    have HX8 := Lib.hid (HX7.out.below hb8 HX7.out.lt)
    have HB8 := Lib.hid (below_next Hb4.out (below_next HB7.out hb8))
    clear hb8
    obtain ⟨y0, y1, y2, y3, y4, y5, y6, y7, y8, y9, y10, y11⟩ := box12 HX8.out
    have HAW8 := Lib.hid (HAW.out w8)
    have hli : liveA rs.act = ((rs.act != 3) && (rs.act != 5)) := rfl
    rw [hli] at HFI
    obtain ⟨a3, ha3⟩ : ∃ b, (rs.act != 3) = b := ⟨_, rfl⟩
    obtain ⟨a5, ha5⟩ : ∃ b, (rs.act != 5) = b := ⟨_, rfl⟩
    rw [ha3, ha5] at HFI
    have hbi : bi = (os && ms && (a3 && a5)) := HFI.out
    clear hli HFI y0 y1 y2 y4 y5 y6 y7 y8 y9 y10 y11
    subst hbi
    cases os <;> cases ms <;> cases a3 <;> cases a5
    all_goals
      go_wp2_with fail
      refine HAW8.out.mono ?_
      rintro e w9 ⟨rfl, hb9⟩
      have HB9 := Lib.hid hb9
      clear hb9
      go_wp2_with fail
      go_ret
      exact ⟨rfl, below_next HB8.out HB9.out⟩
end Go.Proofs.YtnblfaagchflaaaGreatDoor
