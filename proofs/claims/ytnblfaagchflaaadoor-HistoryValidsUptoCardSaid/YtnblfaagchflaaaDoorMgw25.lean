/- The reference's examination of an edit, from the action on. -/
import Derived.Test.YtnblfaagchflaaaDoorMgw24
namespace Go.Proofs.YtnblfaagchflaaaDoor
open Go.RowKit
set_option linter.unusedVariables false
set_option linter.unusedSimpArgs false

set_option maxRecDepth 100000 in
set_option maxHeartbeats 8000000 in
theorem edT8 (T : Code) (hT : Tryd.f38.body.bind (tailAt 8) = some T) (R : Ending → World → Prop) (revs : List Rev) (c : Chg) (x : Edt) (Ar Ae Ac : Option Addr) (dr : Value) (cr ce cc g3 g4 g7 : Nat) (w3 : World)
    (hR : Revs w3 (.slice Ar revs.length cr) revs) (hl : revs.length ≤ 100000) (hlog : ∀ p, LogOk revs p)
    (hD : Blk w3 g3 25 [.slice Ar revs.length cr, dr]) (hC : Blk w3 g4 42 [.int .i64 c.num, .string c.client, .string c.text, .slice Ae c.edits.length ce, .slice Ac c.recs.length cc]) (hX : Blk w3 g7 39 [.string x.path, .int .i64 x.act, .int .i64 x.ty.base, .bool x.ty.k, .bool x.ty.l, .bool x.ty.x, .int .u64 x.sum, .int .i64 x.size, .int .i64 x.base, .string x.frm, .int .i64 x.fnum, .int .i64 x.fence])
    (hRR : ∀ (n : Int) (w' : World), n = oneE (lastOf revs) x → Below w3.heap.size w3 w' → R (.returned (.int .i64 n)) w')
    (u0 u1 u2 u5 u6 u8 u9 u12 u13 u14 u15 u16 u17 u18 u19 u20 u21 u22 u23 u24 u25 u26 u27 u28 u29 u30 u31 u32 u33 u34 u35 u36 u37 u38 u39 u40 u41 u42 u43 u44 u45 u46 u47 u48 u49 u50 u51 u52 u53 u54 u55 u56 u57 u58 u59 u60 u61 u62 u63 u64 u65 u66 u67 u68 u69 u70 u71 u72 u73 u74 u75 u76 u77 u78 u79 u80 u81 u82 u83 u84 u85 u86 u87 u88 u89 u90 u91 u92 u93 u94 u95 u96 u97 u98 u99 u100 u101 u102 u103 u104 u105 u106 u107 u108 u109 u110 u111 u112 u113 u114 u115 u116 u117 u118 u119 u120 u121 u122 u123 u124 u125 u126 u127 u128 u129 u130 u131 u132 u133 u134 u135 u136 u137 u138 u139 u140 u141 u142 u143 u144 u145 u146 u147 : Value) (lv : Bool) (ln : Int) (hlv : lv = isLast (lastOf revs) x.path) (hln : ln = (lastR (lastOf revs) x.path).num) :
    T.wp Tryd.prog (bodyPost Tryd.prog Tryd.f38 R) ⟨#[u0, u1, u2, .pointer (some ⟨g3, 0, none⟩), .pointer (some ⟨g4, 0, none⟩), u5, u6, .pointer (some ⟨g7, 0, none⟩), u8, u9, .bool lv, .int .i64 ln, u12, u13, u14, u15, u16, u17, u18, u19, u20, u21, u22, u23, u24, u25, u26, u27, u28, u29, u30, u31, u32, u33, u34, u35, u36, u37, u38, u39, u40, u41, u42, u43, u44, u45, u46, u47, u48, u49, u50, u51, u52, u53, u54, u55, u56, u57, u58, u59, u60, u61, u62, u63, u64, u65, u66, u67, u68, u69, u70, u71, u72, u73, u74, u75, u76, u77, u78, u79, u80, u81, u82, u83, u84, u85, u86, u87, u88, u89, u90, u91, u92, u93, u94, u95, u96, u97, u98, u99, u100, u101, u102, u103, u104, u105, u106, u107, u108, u109, u110, u111, u112, u113, u114, u115, u116, u117, u118, u119, u120, u121, u122, u123, u124, u125, u126, u127, u128, u129, u130, u131, u132, u133, u134, u135, u136, u137, u138, u139, u140, u141, u142, u143, u144, u145, u146, u147], []⟩ w3 := by
  simp only [Tryd.f38, Option.bind_some, tailAt, hasReg] at hT
  simp at hT
  subst hT
  have HRR := Lib.hid hRR
  have HR := Lib.hid hR
  have HLOG := Lib.hid hlog
  have HLB := Lib.hid (fun p => rLiveB_last hlog p)
  have HLR := Lib.hid (fun p => someR_last hlog p)
  have HBN : Hid (0 ≤ (lastR (lastOf revs) x.path).num ∧ (lastR (lastOf revs) x.path).num ≤ 1000000) := Lib.hid (by
    have h := hlog x.path
    unfold lastR
    rw [h.last, List.getLast?_eq_getElem?]
    by_cases h0 : (logOf revs x.path).length = 0
    · rw [h0, List.getElem?_eq_none (by omega)]; simp [zeroRev]
    · rw [List.getElem?_eq_getElem (by omega)]
      simp only [Option.getD_some]
      rw [h.num]
      have := log_len revs x.path
      omega)
  have HX3 := Lib.hid hX
  have HD3 := Lib.hid hD
  have HC3 := Lib.hid hC
  have HLIVE := Lib.hid (fun p X (hX : Below w3.heap.size w3 X) => refLive_any revs p (.slice Ar revs.length cr) dr X (HR.out.below hX) (by omega))
  have HT18 := Lib.hid (fun T hT R W hR hbs hD hC hX hRR => edT18 T hT R revs c x Ar Ae Ac dr cr ce cc g3 g4 g7 W hR hl HLOG.out hbs hD hC hX hRR)
  have HIL := Lib.hid hlv
  have HLN := Lib.hid hln
  clear hRR hR hlog hD hC hX hlv hln
  generalize lastOf revs = f at HRR HLR HLB HBN HIL HLN HT18 ⊢
  obtain ⟨c0, c1, c2, c3, c4, c5, c6, c7, c8, c9, c10, c11⟩ := box12 HX3.out
  dsimp only
  go_upto_region 8 with fail
  go_cut [76] (fun v wx => ∃ bb, v = .bool bb ∧ Hid (wx = w3 ∧ (bb = true → actE f x ≠ 0) ∧ (bb = false → actE f x = 0)))
  case first =>
    by_cases hlt1 : x.act < 1
    case pos =>
      have q : decide (x.act < 1) = true := by simp; omega
      have HF : Hid (actE f x ≠ 0) := Lib.hid (act_bad1 (.inl hlt1))
      clear hlt1
      go_wp2_with fail
      go_meet
      exact ⟨true, rfl, rfl, fun _ => HF.out, fun h => by cases h⟩
    have dlt : decide (x.act < 1) = false := by simp; omega
    by_cases hgt5 : 5 < x.act
    case pos =>
      have q : decide (5 < x.act) = true := by simp; omega
      have HF : Hid (actE f x ≠ 0) := Lib.hid (act_bad1 (.inr hgt5))
      clear hlt1 hgt5
      go_wp2_with fail
      go_meet
      exact ⟨true, rfl, rfl, fun _ => HF.out, fun h => by cases h⟩
    have dgt : decide (5 < x.act) = false := by simp; omega
    have HR5 : Hid (1 ≤ x.act ∧ x.act ≤ 5) := Lib.hid ⟨by omega, by omega⟩
    clear hlt1 hgt5
    rcases add_cases x.act with ⟨q1, q4, qa⟩ | ⟨q1, q4, qa⟩ | ⟨q1, q4, qa⟩
    all_goals
      have HQA := Lib.hid qa
      clear qa
      cases lv
      all_goals
        go_wp2_with fail
        go_meet
        first
          | exact ⟨true, rfl, rfl, fun _ => act_bad2 (by rw [HQA.out, ← HIL.out]), fun h => by cases h⟩
          | exact ⟨false, rfl, rfl, fun h => (by cases h), fun _ => act_good HR5.out (by rw [HQA.out, ← HIL.out]; rfl)⟩
  case rest =>
    obtain ⟨bb, rfl, HBB⟩ := hcut
    obtain rfl : wc = w3 := HBB.out.1
    cases bb with
    | true =>
      have HF : Hid (113 = oneE f x) := Lib.hid (one113 (HBB.out.2.1 rfl)).symm
      clear HBB
      go_wp2_with fail
      exact HRR.out _ _ HF.out (Below.refl _ _)
    | false =>
      have HO1 : Hid (oneE f x = if x.base ≠ (lastR f x.path).num then 114 else if fromE f x = false then 115 else if typeE f x = false then 116 else 0) := Lib.hid (oneE_of (HBB.out.2.2 rfl))
      clear HBB
      by_cases hbb : x.base = ln
      case neg =>
        have qb : (x.base != ln) = true := by simpa using hbb
        have HF : Hid (114 = oneE f x) := Lib.hid (by rw [HO1.out, if_pos (by rw [← HLN.out]; exact hbb)])
        clear hbb
        go_wp2_with fail
        exact HRR.out _ _ HF.out (Below.refl _ _)
      have qb : (x.base != ln) = false := by simpa using hbb
      have HO2 : Hid (oneE f x = if fromE f x = false then 115 else if typeE f x = false then 116 else 0) := Lib.hid (by rw [HO1.out, if_neg (by rw [← HLN.out]; simp [hbb])])
      have HBS : Hid (0 ≤ x.base ∧ x.base ≤ 1000000) := Lib.hid (by rw [hbb, HLN.out]; exact HBN.out)
      clear hbb
      go_upto_if 83 with fail
      clear qb
      go_cut [] (fun wx => Hid (Below wc.heap.size wc wx ∧ fromE f x = true))
      case first =>
        by_cases h4 : x.act = 4
        · have q4 : (x.act == 4) = true := by simpa using h4
          have HN4 : Hid (x.act = 4) := Lib.hid h4
          clear h4
          obtain ⟨d0, d1, -, -⟩ := box2 HD3.out
          have HLV2 := Lib.hid (HLIVE.out x.frm wc (Below.refl _ _))
          go_wp2_with fail
          refine HLV2.out.mono ?_
          rintro e w4 ⟨rfl, hb4⟩
          rw [HLR.out x.frm]
          have HW4 := Lib.hid hb4
          have HX4 := Lib.hid (HX3.out.below hb4 HX3.out.lt)
          clear hb4 d0 d1 c0 c1 c2 c3 c4 c5 c6 c7 c8 c9 c10 c11
          obtain ⟨c0, c1, c2, c3, c4, c5, c6, c7, c8, c9, c10, c11⟩ := box12 HX4.out
          have HIL2 := Lib.hid (HLB.out x.frm)
          generalize rLiveB revs x.frm = lv2 at HIL2 ⊢
          cases lv2 with
          | false =>
            have HF : Hid (115 = oneE f x) := Lib.hid (by rw [HO2.out, fromE_4 HN4.out, ← HIL2.out]; rfl)
            go_wp2_with fail
            exact HRR.out _ _ HF.out HW4.out
          | true =>
            by_cases hfn : x.fnum = (lastR f x.frm).num
            case neg =>
              have qf : ((lastR f x.frm).num != x.fnum) = true := by simp; exact fun h => hfn h.symm
              have HF : Hid (115 = oneE f x) := Lib.hid (by rw [HO2.out, fromE_4 HN4.out]; simp [hfn])
              clear hfn
              go_wp2_with fail
              exact HRR.out _ _ HF.out HW4.out
            have qf : ((lastR f x.frm).num != x.fnum) = false := by simp [hfn]
            have sq := str_eqB x.frm x.path
            by_cases hfp : x.frm = x.path
            case pos =>
              rw [decide_eq_true hfp] at sq
              have HF : Hid (115 = oneE f x) := Lib.hid (by rw [HO2.out, fromE_4 HN4.out]; simp [hfp])
              clear hfp hfn
              go_wp2_with fail
              exact HRR.out _ _ HF.out HW4.out
            rw [decide_eq_false hfp] at sq
            have HFR : Hid (fromE f x = true) := Lib.hid (by rw [fromE_4 HN4.out, ← HIL2.out]; simp [hfp, hfn])
            clear hfp hfn
            go_wp2_with fail
            go_meet
            exact ⟨HW4.out, HFR.out⟩
        · have q4 : (x.act == 4) = false := by simpa using h4
          have HN4 : Hid (x.act ≠ 4) := Lib.hid h4
          clear h4
          by_cases hfr : x.frm = emptyS
          case neg =>
            have s1 := str_isE hfr
            have s2 := str_ne hfr
            have HF : Hid (115 = oneE f x) := Lib.hid (by rw [HO2.out, fromE_o HN4.out]; simp [hfr])
            clear hfr
            go_wp2_with fail
            exact HRR.out _ _ HF.out (Below.refl _ _)
          have s1 := str_empty hfr
          by_cases hfn : x.fnum = 0
          case neg =>
            have qf : (x.fnum != 0) = true := by simpa using hfn
            have HF : Hid (115 = oneE f x) := Lib.hid (by rw [HO2.out, fromE_o HN4.out]; simp [hfn])
            clear hfr hfn
            go_wp2_with fail
            exact HRR.out _ _ HF.out (Below.refl _ _)
          have qf : (x.fnum != 0) = false := by simpa using hfn
          have HFR : Hid (fromE f x = true) := Lib.hid (by rw [fromE_o HN4.out]; simp [hfr, hfn])
          clear hfr hfn
          go_wp2_with fail
          go_meet
          exact ⟨Below.refl _ _, HFR.out⟩
      case rest =>
        rename_i wc2
        have HW4 := Lib.hid hcut.out.1
        have HO3 : Hid (typV f x = oneE f x) := Lib.hid (by rw [HO2.out, hcut.out.2]; rfl)
        clear hcut
        have hk := ‹∀ (a : Act) (w : World), Code.wp _ _ _ a w → _›
        refine hk _ _ (HT18.out _ (by kernel_rfl) _ _ (HR.out.below HW4.out) HBS.out (HD3.out.below HW4.out HD3.out.lt) (HC3.out.below HW4.out HC3.out.lt) (HX3.out.below HW4.out HX3.out.lt) (fun n w' hn hb => HRR.out n w' (hn.trans HO3.out) (below_next HW4.out hb)) _ _ _ _ _ _ _ _ _ _ _ _ _ _ _ _ _ _ _ _ _ _ _ _ _ _ _ _ _ _ _ _ _ _ _ _ _ _ _ _ _ _ _ _ _ _ _ _ _ _ _ _ _ _ _ _ _ _ _ _ _ _ _ _ _ _ _ _ _ _ _ _ _ _ _ _ _ _ _ _ _ _ _ _ _ _ _ _ _ _ _ _ _ _ _ _ _ _ _ _ _ _ _ _ _ _ _ _ _ _ _ _ _ _ _ _ _ _ _ _ _ _ _ _ _ _ _ _ _ _ _ _ _ _ _ _ _ _ _ _ _ _ _ _ _)
end Go.Proofs.YtnblfaagchflaaaDoor
/- The reference's examination of an edit: the walk. -/
namespace Go.Proofs.YtnblfaagchflaaaDoor
open Go.RowKit
set_option linter.unusedVariables false
set_option linter.unusedSimpArgs false

set_option maxRecDepth 100000 in
set_option maxHeartbeats 16000000 in
theorem refEdit_any (d : Dep) (c : Chg) (dv dr : Value) (Ae Ac : Option Addr) (ce cc i : Nat) (w : World) (he : Env w) (hR : Revs w dv d.revs) (hl : d.revs.length ≤ 100000) (hE : Edts w (.slice Ae c.edits.length ce) c.edits) (hi : i < c.edits.length) (hel : c.edits.length ≤ 100000) (hlog : ∀ p, LogOk d.revs p)
    (hsz : ∀ e ∈ c.edits, e.path.size ≤ 2000000) (hval : ∀ j (h : j < c.edits.length), j < i → validS (c.edits[j]).path = true) :
    Calls Tryd.prog 38 #[.agg #[dv, dr], .agg #[.int .i64 c.num, .string c.client, .string c.text, .slice Ae c.edits.length ce, .slice Ac c.recs.length cc], .int .i64 i] w
      fun e w' => e = .returned (.int .i64 (editE (lastOf d.revs) (aheadQ emptyS c.edits i) c.edits[i])) ∧ Below w.heap.size w w' := by
  obtain ⟨Ar, cr, rfl, -⟩ := id hR
  have HR := Lib.hid hR
  have HE := Lib.hid hE
  have HEN := Lib.hid he
  have HLOG := Lib.hid hlog
  have HLIVE := Lib.hid (fun p X (hX : Below w.heap.size w X) => refLive_any d.revs p (.slice Ar d.revs.length cr) dr X (HR.out.below hX) (by omega))
  have HSZ := Lib.hid hsz
  have HVL := Lib.hid hval
  clear hR hE he hlog hsz hval
  have hb0 : Below w.heap.size w ((w.alloc (.cells #[.slice Ar d.revs.length cr, dr] 25)).alloc (.cells #[.int .i64 c.num, .string c.client, .string c.text, .slice Ae c.edits.length ce, .slice Ac c.recs.length cc] 42)) := ((Below.refl _ _).alloc (Nat.le_refl _) _).alloc (by simp) _
  have hC : Blk ((w.alloc (.cells #[.slice Ar d.revs.length cr, dr] 25)).alloc (.cells #[.int .i64 c.num, .string c.client, .string c.text, .slice Ae c.edits.length ce, .slice Ac c.recs.length cc] 42)) (w.heap.size + 1) 42 [.int .i64 c.num, .string c.client, .string c.text, .slice Ae c.edits.length ce, .slice Ac c.recs.length cc] := by
    have h1 := blk_new (w.alloc (.cells #[.slice Ar d.revs.length cr, dr] 25)) [.int .i64 c.num, .string c.client, .string c.text, .slice Ae c.edits.length ce, .slice Ac c.recs.length cc] 42
    simp only [World.size_alloc] at h1
    exact h1
  have hD : Blk ((w.alloc (.cells #[.slice Ar d.revs.length cr, dr] 25)).alloc (.cells #[.int .i64 c.num, .string c.client, .string c.text, .slice Ae c.edits.length ce, .slice Ac c.recs.length cc] 42)) w.heap.size 25 [.slice Ar d.revs.length cr, dr] := (blk_new w _ _).alloc _
  have hld0 := fun X (hX : Below w.heap.size w X) => Edts.at_ (HE.out.below hX) hi
  have HXM : Hid ((c.edits[i]).path.size ≤ 2000000) := Lib.hid (HSZ.out _ (List.getElem_mem hi))
  generalize c.edits[i] = x at hld0 HXM ⊢
  have HLD := Lib.hid hld0
  clear hld0
  have HT8 := Lib.hid (fun T hT R g3 g4 g7 W x hR hD hC hX hRR => edT8 T hT R d.revs c x Ar Ae Ac dr cr ce cc g3 g4 g7 W hR hl HLOG.out hD hC hX hRR)
  have HL8 := Lib.hid (fun p => rLiveB_last HLOG.out p)
  have HS8 := Lib.hid (fun p => someR_last HLOG.out p)
  generalize lastOf d.revs = f at HT8 HL8 HS8 ⊢
  obtain ⟨b, hbe⟩ : ∃ b, b = aheadQ emptyS c.edits i := ⟨_, rfl⟩
  have HBE := Lib.hid hbe
  rw [← hbe]
  clear hbe
  go_enter Tryd.func38, Tryd.ntmps38
  go_upto_region 1 with fail
  generalize (w.alloc (.cells #[.slice Ar d.revs.length cr, dr] 25)).alloc (.cells #[.int .i64 c.num, .string c.client, .string c.text, .slice Ae c.edits.length ce, .slice Ac c.recs.length cc] 42) = W1 at hb0 hC hD ⊢
  obtain ⟨k0, k1, k2, k3, k4⟩ := box5 hC
  obtain ⟨ad, rfl, hab, hld⟩ := HLD.out _ hb0
  have hiz : (i : Int) < (c.edits.length : Int) := by omega
  obtain ⟨x0, x1, x2, x3, x4, x5, x6, x7, x8, x9, x10, x11⟩ := hld
  have hX := blk_new W1 [.string x.path, .int .i64 x.act, .int .i64 x.ty.base, .bool x.ty.k, .bool x.ty.l, .bool x.ty.x, .int .u64 x.sum, .int .i64 x.size, .int .i64 x.base, .string x.frm, .int .i64 x.fnum, .int .i64 x.fence] 39
  have hA1 := hb0.alloc hb0.size (.cells #[.string x.path, .int .i64 x.act, .int .i64 x.ty.base, .bool x.ty.k, .bool x.ty.l, .bool x.ty.x, .int .u64 x.sum, .int .i64 x.size, .int .i64 x.base, .string x.frm, .int .i64 x.fnum, .int .i64 x.fence] 39)
  have HC1 := Lib.hid (hC.alloc (.cells #[.string x.path, .int .i64 x.act, .int .i64 x.ty.base, .bool x.ty.k, .bool x.ty.l, .bool x.ty.x, .int .u64 x.sum, .int .i64 x.size, .int .i64 x.base, .string x.frm, .int .i64 x.fnum, .int .i64 x.fence] 39))
  have HD1 := Lib.hid (hD.alloc (.cells #[.string x.path, .int .i64 x.act, .int .i64 x.ty.base, .bool x.ty.k, .bool x.ty.l, .bool x.ty.x, .int .u64 x.sum, .int .i64 x.size, .int .i64 x.base, .string x.frm, .int .i64 x.fnum, .int .i64 x.fence] 39))
  go_upto_region 2 with fail
  clear x0 x1 x2 x3 x4 x5 x6 x7 x8 x9 x10 x11 k0 k1 k2 k3 k4 hC hD hb0
  generalize W1.alloc (.cells #[.string x.path, .int .i64 x.act, .int .i64 x.ty.base, .bool x.ty.k, .bool x.ty.l, .bool x.ty.x, .int .u64 x.sum, .int .i64 x.size, .int .i64 x.base, .string x.frm, .int .i64 x.fnum, .int .i64 x.fence] 39) = W2 at hX hA1 HC1 HD1 ⊢
  generalize W1.heap.size = g7 at hX ⊢
  have HX1 := Lib.hid hX
  have HW1 := Lib.hid hA1
  clear hX hA1
  obtain ⟨c0, c1, c2, c3, c4, c5, c6, c7, c8, c9, c10, c11⟩ := box12 HX1.out
  cases hdp : dirL x.path.data.toList 2 with
  | none =>
    have HF : Hid (editE f b x = 111) := Lib.hid (ed111 (.inl (valid_none hdp)))
    have HPN := Lib.hid (refPath_none x.path W2 (HEN.out.below HW1.out) HXM.out hdp)
    clear hdp
    go_wp2_with fail
    refine HPN.out.mono ?_
    rintro e w2 ⟨rfl, hb2⟩
    have HB2 := Lib.hid hb2
    clear hb2
    go_wp2_with fail
    go_ret
    exact ⟨ret_int HF.out.symm, below_next HW1.out HB2.out⟩
  | some ps =>
    have HVX : Hid (validS x.path = true) := Lib.hid (by unfold validS validB; rw [hdp]; rfl)
    have HPS := Lib.hid (refPath_some x.path ps W2 (HEN.out.below HW1.out) HXM.out hdp)
    have hA2 : Below W2.heap.size W2 (W2.alloc (.cells (strCells ps).toArray 9)) := (Below.refl _ _).alloc (Nat.le_refl _) _
    clear hdp
    go_wp2_with fail
    refine HPS.out.mono ?_
    rintro e w2 ⟨rfl, rfl⟩
    have HX2 := Lib.hid (HX1.out.below hA2 HX1.out.lt)
    have HC2 := Lib.hid (HC1.out.below hA2 HC1.out.lt)
    have HD2 := Lib.hid (HD1.out.below hA2 HD1.out.lt)
    have HW2 := Lib.hid (below_next HW1.out hA2)
    clear hA2 c0 c1 c2 c3 c4 c5 c6 c7 c8 c9 c10 c11
    generalize W2.alloc (.cells (strCells ps).toArray 9) = w2 at HX2 HC2 HD2 HW2 ⊢
    generalize Value.slice (some ⟨W2.heap.size, 0, none⟩) ps.length ps.length = pv
    obtain ⟨c0, c1, c2, c3, c4, c5, c6, c7, c8, c9, c10, c11⟩ := box12 HX2.out
    by_cases h200 : 200 < x.path.size
    case pos =>
      have q : decide ((200 : Int) < (x.path.size : Int)) = true := by simp; omega
      have HF : Hid (editE f b x = 111) := Lib.hid (ed111 (.inr h200))
      clear h200
      go_wp2_with fail
      go_ret
      exact ⟨ret_int HF.out.symm, HW2.out⟩
    have q : decide ((200 : Int) < (x.path.size : Int)) = false := by simp; omega
    have HOK : Hid (¬ (validS x.path = false ∨ 200 < x.path.size)) := Lib.hid (fun h => by rcases h with h | h; (rw [HVX.out] at h; cases h); exact h200 h)
    clear h200
    go_upto_region 5 with fail
    clear q
    go_cut [49] (fun v wx => ∃ bb, v = .bool bb ∧ Hid (Below w2.heap.size w2 wx ∧ (bb = true → b ≠ emptyS ∧ 0 ≤ cmpP b x.path) ∧ (bb = false → ¬ (b ≠ emptyS ∧ 0 ≤ cmpP b x.path))))
    case first =>
      by_cases h0 : i = 0
      · have d0 : decide (0 < i) = false := by simp; omega
        have d1 : decide ((0 : Int) < (i : Int)) = false := by simp; omega
        have HB0 : Hid (b = emptyS) := Lib.hid (by rw [HBE.out, h0]; rfl)
        clear h0
        go_quiet (fail)
        go_wp2_with fail
        go_meet
        exact ⟨false, rfl, below_dN (Below.refl _ _) _, fun h => (by cases h), fun _ h => h.1 HB0.out⟩
      · obtain ⟨j, rfl⟩ : ∃ j, i = j + 1 := ⟨i - 1, by omega⟩
        have hj : j < c.edits.length := by omega
        obtain ⟨ad2, had, hab2, hld2⟩ := Edts.at_ (HE.out.below HW2.out) hj
        injection had with had
        subst had
        have HBY : Hid (b = (c.edits[j]).path) := Lib.hid (by rw [HBE.out]; unfold aheadQ; rw [if_neg (by omega), Nat.add_sub_cancel, List.getElem?_eq_getElem hj]; rfl)
        have HVY := Lib.hid (HVL.out j hj (Nat.lt_succ_self j))
        have HSY := Lib.hid (HSZ.out _ (List.getElem_mem hj))
        generalize c.edits[j] = y at hld2 HBY HVY HSY
        have e0 := hld2.1
        obtain ⟨k0, k1, k2, k3, k4⟩ := box5 HC2.out
        have d0 : decide (0 < j + 1) = true := by simp
        have d1 : decide ((0 : Int) < ((j + 1 : Nat) : Int)) = true := decide_eq_true (by omega)
        have d2 : decide ((0 : Int) < (j : Int) + 1) = true := decide_eq_true (by omega)
        have hwp : IntKind.i64.wrap (j : Int) = (j : Int) := by rw [IntKind.wrap_i64]; omega
        have hjz : (j : Int) < (c.edits.length : Int) := by omega
        have HOR := Lib.hid (fun X (hX : Below w2.heap.size w2 X) => order_any y.path x.path X (HEN.out.below (below_next HW2.out hX)) HSY.out HXM.out)
        clear hld2 h0
        refine wp_region_noPanic ?_
        first
          | go_region_law (go_simp; go_at_call 51; refine (HOR.out _ (Below.refl _ _).drew).mono ?_; rintro e w5 ⟨n, rfl, hb5, hn⟩; have HB5 := Lib.hid ((Below.refl w2.heap.size w2).drew.trans hb5); have HN5 := Lib.hid hn; clear hb5 hn)
          | fail
        all_goals
          refine NoPanic.normal ?_
          go_wp2_with fail
          go_meet
          exact ⟨decide (0 ≤ n), rfl, HB5.out, fun h => by rw [HBY.out]; exact ⟨valid_ne HVY.out, by rw [← HN5.out HVY.out HVX.out]; exact of_decide_eq_true h⟩, fun h hh => by rw [HBY.out, ← HN5.out HVY.out HVX.out] at hh; exact of_decide_eq_false h hh.2⟩
    case rest =>
      obtain ⟨bb, rfl, HBB⟩ := hcut
      have HW3 := Lib.hid (below_next HW2.out HBB.out.1)
      have HX3 := Lib.hid (HX2.out.below HBB.out.1 HX2.out.lt)
      have HD3 := Lib.hid (HD2.out.below HBB.out.1 HD2.out.lt)
      have HC3 := Lib.hid (HC2.out.below HBB.out.1 HC2.out.lt)
      cases bb with
      | true =>
        have HF : Hid (editE f b x = 112) := Lib.hid (ed112 HOK.out (HBB.out.2.1 rfl))
        go_wp2_with fail
        go_ret
        exact ⟨ret_int HF.out.symm, HW3.out⟩
      | false =>
        have HO0 : Hid (editE f b x = oneE f x) := Lib.hid (edOne HOK.out (HBB.out.2.2 rfl))
        clear HBB
        generalize wc = w30 at HW3 HX3 HD3 HC3 ⊢
        obtain ⟨d0, d1, -, -⟩ := box2 HD3.out
        obtain ⟨c0, c1, c2, c3, c4, c5, c6, c7, c8, c9, c10, c11⟩ := box12 HX3.out
        have HLV1 := Lib.hid (HLIVE.out x.path w30 HW3.out)
        go_upto_region 7 with fail
        go_cut [10, 11] (fun v10 v11 wx => ∃ (lv : Bool) (ln : Int), v10 = .bool lv ∧ v11 = .int .i64 ln ∧ Hid (Below w30.heap.size w30 wx ∧ lv = isLast f x.path ∧ ln = (lastR f x.path).num))
        case first =>
          go_wp2_with fail
          refine HLV1.out.mono ?_
          rintro e w3 ⟨rfl, hb3⟩
          have HB3 := Lib.hid hb3
          clear hb3
          go_wp2_with fail
          go_meet
          exact ⟨_, _, rfl, rfl, HB3.out, HL8.out x.path, by rw [HS8.out x.path]⟩
        case rest =>
          obtain ⟨lv, ln, rfl, rfl, HV⟩ := hcut
          have hk := ‹∀ (a : Act) (w : World), Code.wp _ _ _ a w → _›
          refine hk _ _ (HT8.out _ (by kernel_rfl) _ _ _ _ _ x (HR.out.below (below_next HW3.out HV.out.1)) (HD3.out.below HV.out.1 HD3.out.lt) (HC3.out.below HV.out.1 HC3.out.lt) (HX3.out.below HV.out.1 HX3.out.lt) (fun n w' hn hb => ⟨by rw [hn, HO0.out], below_next (below_next HW3.out HV.out.1) hb⟩) _ _ _ _ _ _ _ _ _ _ _ _ _ _ _ _ _ _ _ _ _ _ _ _ _ _ _ _ _ _ _ _ _ _ _ _ _ _ _ _ _ _ _ _ _ _ _ _ _ _ _ _ _ _ _ _ _ _ _ _ _ _ _ _ _ _ _ _ _ _ _ _ _ _ _ _ _ _ _ _ _ _ _ _ _ _ _ _ _ _ _ _ _ _ _ _ _ _ _ _ _ _ _ _ _ _ _ _ _ _ _ _ _ _ _ _ _ _ _ _ _ _ _ _ _ _ _ _ _ _ _ _ _ _ _ _ _ _ _ _ _ _ _ lv ln HV.out.2.1 HV.out.2.2)
end Go.Proofs.YtnblfaagchflaaaDoor
