/- The reference's examination of an edit: the walk. -/
import Derived.Test.YtmhmnchdhacdbaaDoorMgv7
import Derived.Test.YtmhmnchdhacdbaaDoorMgv2
import Derived.Test.YtmhmnchdhacdbaaDoorMgv0
import Derived.Deep.CutBlock
namespace Go.Proofs.YtmhmnchdhacdbaaDoor
open Go.RowKit
set_option linter.unusedVariables false
set_option linter.unusedSimpArgs false

set_option maxRecDepth 100000 in
set_option maxHeartbeats 16000000 in
theorem refEdit_any (d : Dep) (c : Chg) (dv dr : Value) (Ae Ac : Option Addr) (ce cc i : Nat) (w : World) (he : Env w) (hR : Revs w dv d.revs) (hl : d.revs.length ≤ 100000) (hE : Edts w (.slice Ae c.edits.length ce) c.edits) (hi : i < c.edits.length) (hel : c.edits.length ≤ 100000) (hlog : ∀ p, LogOk d.revs p)
    (hsz : ∀ e ∈ c.edits, e.path.size ≤ 2000000) (hval : ∀ j (h : j < c.edits.length), j < i → validS (c.edits[j]).path = true) :
    Calls Tryd.prog 43 #[.agg #[dv, dr], .agg #[.int .i64 c.num, .string c.client, .string c.text, .slice Ae c.edits.length ce, .slice Ac c.recs.length cc], .int .i64 i] w
      fun e w' => e = .returned (.int .i64 (editE (lastOf d.revs) (aheadQ emptyS c.edits i) c.edits[i])) ∧ Below w.heap.size w w' := by
  obtain ⟨Ar, cr, rfl, -⟩ := id hR
  have HR := Lib.hid hR
  have HE := Lib.hid hE
  have HEN := Lib.hid he
  have HLOG := Lib.hid hlog
  have HLIVE := Lib.hid (fun p X (hX : Below w.heap.size w X) => refLive_any d.revs p (.slice Ar d.revs.length cr) dr X (HR.out.below hX) (by omega))
  have HSZ := Lib.hid hsz
  have HVL := Lib.hid hval
  clear hR hE he hlog hsz hval
  have hb0 : Below w.heap.size w ((w.alloc (.cells #[.slice Ar d.revs.length cr, dr] 31)).alloc (.cells #[.int .i64 c.num, .string c.client, .string c.text, .slice Ae c.edits.length ce, .slice Ac c.recs.length cc] 26)) := ((Below.refl _ _).alloc (Nat.le_refl _) _).alloc (by simp) _
  have hC : Blk ((w.alloc (.cells #[.slice Ar d.revs.length cr, dr] 31)).alloc (.cells #[.int .i64 c.num, .string c.client, .string c.text, .slice Ae c.edits.length ce, .slice Ac c.recs.length cc] 26)) (w.heap.size + 1) 26 [.int .i64 c.num, .string c.client, .string c.text, .slice Ae c.edits.length ce, .slice Ac c.recs.length cc] := by
    have h1 := blk_new (w.alloc (.cells #[.slice Ar d.revs.length cr, dr] 31)) [.int .i64 c.num, .string c.client, .string c.text, .slice Ae c.edits.length ce, .slice Ac c.recs.length cc] 26
    simp only [World.size_alloc] at h1
    exact h1
  have hD : Blk ((w.alloc (.cells #[.slice Ar d.revs.length cr, dr] 31)).alloc (.cells #[.int .i64 c.num, .string c.client, .string c.text, .slice Ae c.edits.length ce, .slice Ac c.recs.length cc] 26)) w.heap.size 31 [.slice Ar d.revs.length cr, dr] := (blk_new w _ _).alloc _
  have hld0 := fun X (hX : Below w.heap.size w X) => Edts.at_ (HE.out.below hX) hi
  have HXM : Hid ((c.edits[i]).path.size ≤ 2000000) := Lib.hid (HSZ.out _ (List.getElem_mem hi))
  generalize c.edits[i] = x at hld0 HXM ⊢
  have HLD := Lib.hid hld0
  clear hld0
  have HT8 := Lib.hid (fun T hT R g3 g4 g7 W x hR hD hC hX hRR => edT8 T hT R d.revs c x Ar Ae Ac dr cr ce cc g3 g4 g7 W hR hl HLOG.out hD hC hX hRR)
  have HL8 := Lib.hid (fun p => rLiveB_last HLOG.out p)
  have HS8 := Lib.hid (fun p => someR_last HLOG.out p)
  generalize lastOf d.revs = f at HT8 HL8 HS8 ⊢
  obtain ⟨b, hbe⟩ : ∃ b, b = aheadQ emptyS c.edits i := ⟨_, rfl⟩
  have HBE := Lib.hid hbe
  rw [← hbe]
  clear hbe
  go_enter Tryd.func43, Tryd.ntmps43
  go_upto_region 1 with fail
  generalize (w.alloc (.cells #[.slice Ar d.revs.length cr, dr] 31)).alloc (.cells #[.int .i64 c.num, .string c.client, .string c.text, .slice Ae c.edits.length ce, .slice Ac c.recs.length cc] 26) = W1 at hb0 hC hD ⊢
  obtain ⟨k0, k1, k2, k3, k4⟩ := box5 hC
  obtain ⟨ad, rfl, hab, hld⟩ := HLD.out _ hb0
  have hiz : (i : Int) < (c.edits.length : Int) := by omega
  obtain ⟨x0, x1, x2, x3, x4, x5, x6, x7, x8, x9, x10, x11⟩ := hld
  have hX := blk_new W1 [.string x.path, .int .i64 x.act, .int .i64 x.ty.base, .bool x.ty.k, .bool x.ty.l, .bool x.ty.x, .int .u64 x.sum, .int .i64 x.size, .int .i64 x.base, .string x.frm, .int .i64 x.fnum, .int .i64 x.fence] 48
  have hA1 := hb0.alloc hb0.size (.cells #[.string x.path, .int .i64 x.act, .int .i64 x.ty.base, .bool x.ty.k, .bool x.ty.l, .bool x.ty.x, .int .u64 x.sum, .int .i64 x.size, .int .i64 x.base, .string x.frm, .int .i64 x.fnum, .int .i64 x.fence] 48)
  have HC1 := Lib.hid (hC.alloc (.cells #[.string x.path, .int .i64 x.act, .int .i64 x.ty.base, .bool x.ty.k, .bool x.ty.l, .bool x.ty.x, .int .u64 x.sum, .int .i64 x.size, .int .i64 x.base, .string x.frm, .int .i64 x.fnum, .int .i64 x.fence] 48))
  have HD1 := Lib.hid (hD.alloc (.cells #[.string x.path, .int .i64 x.act, .int .i64 x.ty.base, .bool x.ty.k, .bool x.ty.l, .bool x.ty.x, .int .u64 x.sum, .int .i64 x.size, .int .i64 x.base, .string x.frm, .int .i64 x.fnum, .int .i64 x.fence] 48))
  go_upto_region 2 with fail
  clear x0 x1 x2 x3 x4 x5 x6 x7 x8 x9 x10 x11 k0 k1 k2 k3 k4 hC hD hb0
  generalize W1.alloc (.cells #[.string x.path, .int .i64 x.act, .int .i64 x.ty.base, .bool x.ty.k, .bool x.ty.l, .bool x.ty.x, .int .u64 x.sum, .int .i64 x.size, .int .i64 x.base, .string x.frm, .int .i64 x.fnum, .int .i64 x.fence] 48) = W2 at hX hA1 HC1 HD1 ⊢
  generalize W1.heap.size = g7 at hX ⊢
  have HX1 := Lib.hid hX
  have HW1 := Lib.hid hA1
  clear hX hA1
  obtain ⟨c0, c1, c2, c3, c4, c5, c6, c7, c8, c9, c10, c11⟩ := box12 HX1.out
  cases hdp : dirL x.path.data.toList 2 with
  | none =>
    have HF : Hid (editE f b x = 111) := Lib.hid (ed111 (.inl (valid_none hdp)))
    have HPN := Lib.hid (refPath_none x.path W2 (HEN.out.below HW1.out) HXM.out hdp)
    clear hdp
    go_wp2_with fail
    refine HPN.out.mono ?_
    rintro e w2 ⟨rfl, hb2⟩
    have HB2 := Lib.hid hb2
    clear hb2
    go_wp2_with fail
    go_ret
    exact ⟨ret_int HF.out.symm, below_next HW1.out HB2.out⟩
  | some ps =>
    have HVX : Hid (validS x.path = true) := Lib.hid (by unfold validS validB; rw [hdp]; rfl)
    have HPS := Lib.hid (refPath_some x.path ps W2 (HEN.out.below HW1.out) HXM.out hdp)
    have hA2 : Below W2.heap.size W2 (W2.alloc (.cells (strCells ps).toArray 9)) := (Below.refl _ _).alloc (Nat.le_refl _) _
    clear hdp
    go_wp2_with fail
    refine HPS.out.mono ?_
    rintro e w2 ⟨rfl, rfl⟩
    have HX2 := Lib.hid (HX1.out.below hA2 HX1.out.lt)
    have HC2 := Lib.hid (HC1.out.below hA2 HC1.out.lt)
    have HD2 := Lib.hid (HD1.out.below hA2 HD1.out.lt)
    have HW2 := Lib.hid (below_next HW1.out hA2)
    clear hA2 c0 c1 c2 c3 c4 c5 c6 c7 c8 c9 c10 c11
    generalize W2.alloc (.cells (strCells ps).toArray 9) = w2 at HX2 HC2 HD2 HW2 ⊢
    generalize Value.slice (some ⟨W2.heap.size, 0, none⟩) ps.length ps.length = pv
    obtain ⟨c0, c1, c2, c3, c4, c5, c6, c7, c8, c9, c10, c11⟩ := box12 HX2.out
    by_cases h200 : 200 < x.path.size
    case pos =>
      have q : decide ((200 : Int) < (x.path.size : Int)) = true := by simp; omega
      have HF : Hid (editE f b x = 111) := Lib.hid (ed111 (.inr h200))
      clear h200
      go_wp2_with fail
      go_ret
      exact ⟨ret_int HF.out.symm, HW2.out⟩
    have q : decide ((200 : Int) < (x.path.size : Int)) = false := by simp; omega
    have HOK : Hid (¬ (validS x.path = false ∨ 200 < x.path.size)) := Lib.hid (fun h => by rcases h with h | h; (rw [HVX.out] at h; cases h); exact h200 h)
    clear h200
    go_upto_region 5 with fail
    clear q
    go_cut [49] (fun v wx => ∃ bb, v = .bool bb ∧ Hid (Below w2.heap.size w2 wx ∧ (bb = true → b ≠ emptyS ∧ 0 ≤ cmpP b x.path) ∧ (bb = false → ¬ (b ≠ emptyS ∧ 0 ≤ cmpP b x.path))))
    case first =>
      by_cases h0 : i = 0
      · have d0 : decide (0 < i) = false := by simp; omega
        have d1 : decide ((0 : Int) < (i : Int)) = false := by simp; omega
        have HB0 : Hid (b = emptyS) := Lib.hid (by rw [HBE.out, h0]; rfl)
        clear h0
        go_quiet (fail)
        go_wp2_with fail
        go_meet
        exact ⟨false, rfl, below_dN (Below.refl _ _) _, fun h => (by cases h), fun _ h => h.1 HB0.out⟩
      · obtain ⟨j, rfl⟩ : ∃ j, i = j + 1 := ⟨i - 1, by omega⟩
        have hj : j < c.edits.length := by omega
        obtain ⟨ad2, had, hab2, hld2⟩ := Edts.at_ (HE.out.below HW2.out) hj
        injection had with had
        subst had
        have HBY : Hid (b = (c.edits[j]).path) := Lib.hid (by rw [HBE.out]; unfold aheadQ; rw [if_neg (by omega), Nat.add_sub_cancel, List.getElem?_eq_getElem hj]; rfl)
        have HVY := Lib.hid (HVL.out j hj (Nat.lt_succ_self j))
        have HSY := Lib.hid (HSZ.out _ (List.getElem_mem hj))
        generalize c.edits[j] = y at hld2 HBY HVY HSY
        have e0 := hld2.1
        obtain ⟨k0, k1, k2, k3, k4⟩ := box5 HC2.out
        have d0 : decide (0 < j + 1) = true := by simp
        have d1 : decide ((0 : Int) < ((j + 1 : Nat) : Int)) = true := decide_eq_true (by omega)
        have d2 : decide ((0 : Int) < (j : Int) + 1) = true := decide_eq_true (by omega)
        have hwp : IntKind.i64.wrap (j : Int) = (j : Int) := by rw [IntKind.wrap_i64]; omega
        have hjz : (j : Int) < (c.edits.length : Int) := by omega
        have HOR := Lib.hid (fun X (hX : Below w2.heap.size w2 X) => order_any y.path x.path X (HEN.out.below (below_next HW2.out hX)) HSY.out HXM.out)
        clear hld2 h0
        refine wp_region_noPanic ?_
        first
          | go_region_law (go_simp; go_at_call 56; refine (HOR.out _ (Below.refl _ _).drew).mono ?_; rintro e w5 ⟨n, rfl, hb5, hn⟩; have HB5 := Lib.hid ((Below.refl w2.heap.size w2).drew.trans hb5); have HN5 := Lib.hid hn; clear hb5 hn)
          | fail
        all_goals
          refine NoPanic.normal ?_
          go_wp2_with fail
          go_meet
          exact ⟨decide (0 ≤ n), rfl, HB5.out, fun h => by rw [HBY.out]; exact ⟨valid_ne HVY.out, by rw [← HN5.out HVY.out HVX.out]; exact of_decide_eq_true h⟩, fun h hh => by rw [HBY.out, ← HN5.out HVY.out HVX.out] at hh; exact of_decide_eq_false h hh.2⟩
    case rest =>
      obtain ⟨bb, rfl, HBB⟩ := hcut
      have HW3 := Lib.hid (below_next HW2.out HBB.out.1)
      have HX3 := Lib.hid (HX2.out.below HBB.out.1 HX2.out.lt)
      have HD3 := Lib.hid (HD2.out.below HBB.out.1 HD2.out.lt)
      have HC3 := Lib.hid (HC2.out.below HBB.out.1 HC2.out.lt)
      cases bb with
      | true =>
        have HF : Hid (editE f b x = 112) := Lib.hid (ed112 HOK.out (HBB.out.2.1 rfl))
        go_wp2_with fail
        go_ret
        exact ⟨ret_int HF.out.symm, HW3.out⟩
      | false =>
        have HO0 : Hid (editE f b x = oneE f x) := Lib.hid (edOne HOK.out (HBB.out.2.2 rfl))
        clear HBB
        generalize wc = w30 at HW3 HX3 HD3 HC3 ⊢
        obtain ⟨d0, d1, -, -⟩ := box2 HD3.out
        obtain ⟨c0, c1, c2, c3, c4, c5, c6, c7, c8, c9, c10, c11⟩ := box12 HX3.out
        have HLV1 := Lib.hid (HLIVE.out x.path w30 HW3.out)
        go_upto_region 7 with fail
        go_cut [10, 11] (fun v10 v11 wx => ∃ (lv : Bool) (ln : Int), v10 = .bool lv ∧ v11 = .int .i64 ln ∧ Hid (Below w30.heap.size w30 wx ∧ lv = isLast f x.path ∧ ln = (lastR f x.path).num))
        case first =>
          go_wp2_with fail
          refine HLV1.out.mono ?_
          rintro e w3 ⟨rfl, hb3⟩
          have HB3 := Lib.hid hb3
          clear hb3
          go_wp2_with fail
          go_meet
          exact ⟨_, _, rfl, rfl, HB3.out, HL8.out x.path, by rw [HS8.out x.path]⟩
        case rest =>
          obtain ⟨lv, ln, rfl, rfl, HV⟩ := hcut
          have hk := ‹∀ (a : Act) (w : World), Code.wp _ _ _ a w → _›
          refine hk _ _ (HT8.out _ (by kernel_rfl) _ _ _ _ _ x (HR.out.below (below_next HW3.out HV.out.1)) (HD3.out.below HV.out.1 HD3.out.lt) (HC3.out.below HV.out.1 HC3.out.lt) (HX3.out.below HV.out.1 HX3.out.lt) (fun n w' hn hb => ⟨by rw [hn, HO0.out], below_next (below_next HW3.out HV.out.1) hb⟩) _ _ _ _ _ _ _ _ _ _ _ _ _ _ _ _ _ _ _ _ _ _ _ _ _ _ _ _ _ _ _ _ _ _ _ _ _ _ _ _ _ _ _ _ _ _ _ _ _ _ _ _ _ _ _ _ _ _ _ _ _ _ _ _ _ _ _ _ _ _ _ _ _ _ _ _ _ _ _ _ _ _ _ _ _ _ _ _ _ _ _ _ _ _ _ _ _ _ _ _ _ _ _ _ _ _ _ _ _ _ _ _ _ _ _ _ _ _ _ _ _ _ _ _ _ _ _ _ _ _ _ _ _ _ _ _ _ _ _ _ _ _ _ lv ln HV.out.2.1 HV.out.2.2)
end Go.Proofs.YtmhmnchdhacdbaaDoor
/- The reference's Check: room; its records. -/
namespace Go.Proofs.YtmhmnchdhacdbaaDoor
open Go.RowKit
set_option linter.unusedVariables false
set_option linter.unusedSimpArgs false

/-- What Check's walk leans on. -/
structure CkB (d : Dep) (c : Chg) : Prop where
  ok : DepOk d
  dw : DepW d
  el : c.edits.length ≤ 100000
  rl : c.recs.length ≤ 100000
  path : ∀ e ∈ c.edits, e.path.size ≤ 2000000
  rcd : ∀ r ∈ c.recs, r.to.size ≤ 2000000 ∧ r.frm.size ≤ 2000000
theorem madeX_eq {last : ByteArray → Option Rev} {es : List Edt} (h2 : everyE last emptyS es = 0) (n : Int) {t : Edt} (ht : t ∈ es) : madeX n t = madeR last n t := by
  have := (oneE_zero ((everyE_paths h2).2 t ht).2.2).2.1
  unfold madeX madeR
  rw [this]
theorem rcFull_ref {d : Dep} {c : Chg} (h2 : everyE (lastOf d.revs) emptyS c.edits = 0) (x : Rcd) : rcFull d.revs c x = refRec d.revs c x := by
  unfold rcFull refRec rcVal
  cases ht : tgt c.edits x with
  | none => rfl
  | some t =>
    dsimp only
    rw [← madeX_eq h2 c.num (tgt_mem ht).1]
    unfold someR
    simp only [Bool.and_assoc]
theorem recB_of {d : Dep} {c : Chg} (h2 : everyE (lastOf d.revs) emptyS c.edits = 0) {i : Nat} (hi : i < c.recs.length) : RecB d c i (befI c.recs i c.recs[i] && rcFull d.revs c c.recs[i]) := by
  refine ⟨hi, befF ((c.recs[i - 1]?).getD c.recs[i]) c.recs[i], fun h0 h1 h3 => ?_, ?_⟩
  · rw [List.getElem?_eq_getElem (show i - 1 < c.recs.length by omega)]
    exact befF_valid h1 h3
  · rw [rcFull_ref h2]; rfl
theorem edit_bounds {d : Dep} {c : Chg} (hb : CkB d c) (h2 : everyE (lastOf d.revs) emptyS c.edits = 0) : ∀ y ∈ c.edits, 1 ≤ y.act ∧ 0 ≤ y.base ∧ y.base ≤ 100000 := by
  intro y hy
  obtain ⟨o1, o2, -, -⟩ := oneE_zero ((everyE_paths h2).2 y hy).2.2
  have := hb.dw.lastNum y.path
  have := hb.dw.len
  exact ⟨(acts_ok o1).1, by omega, by omega⟩
set_option maxRecDepth 100000 in
set_option maxHeartbeats 8000000 in
theorem ckT30 (T : Code) (hT : Tryd.f23.body.bind (tailAt 30) = some T) (R : Ending → World → Prop) (d : Dep) (c : Chg) (Ar Aq Ae Ac : Option Addr) (cr cq ce cc g2 g3 : Nat) (w : World) (hb : CkB d c)
    (he : Env w) (hR : Revs w (.slice Ar d.revs.length cr) d.revs) (hP : Edts w (.slice Ae c.edits.length ce) c.edits) (hQ : Rcds w (.slice Ac c.recs.length cc) c.recs)
    (hD : Blk w g2 31 [.slice Ar d.revs.length cr, .slice Aq d.recs.length cq])
    (hC : Blk w g3 26 [.int .i64 c.num, .string c.client, .string c.text, .slice Ae c.edits.length ce, .slice Ac c.recs.length cc]) 
    (hRR : ∀ (n : Int) (w' : World), n = roomE d c → Below w.heap.size w w' → R (.returned (.int .i64 n)) w')
    (u0 u1 u4 u5 u6 u7 u8 u9 u10 u11 u12 u13 u14 u15 u16 u17 u18 u19 u20 u21 u22 u23 u24 u25 u26 u27 u28 u29 u30 u31 u32 u33 u34 u35 u36 u37 u38 u39 u40 u41 u42 u43 u44 u45 u46 u47 u48 u49 u50 u51 u52 u53 u54 u55 u56 u57 u58 u59 u60 u61 u62 u63 u64 u65 u66 u67 u68 u69 u70 u71 u72 u73 u74 u75 u76 u77 u78 u79 u80 u81 u82 u83 u84 u85 u86 u87 u88 u89 u90 u91 u92 u93 u94 u95 u96 u97 u98 u99 u100 u101 u102 u103 u104 : Value) :
    T.wp Tryd.prog (bodyPost Tryd.prog Tryd.f23 R) ⟨#[u0, u1, .pointer (some ⟨g2, 0, none⟩), .pointer (some ⟨g3, 0, none⟩), u4, u5, u6, u7, u8, u9, u10, u11, u12, u13, u14, u15, u16, u17, u18, u19, u20, u21, u22, u23, u24, u25, u26, u27, u28, u29, u30, u31, u32, u33, u34, u35, u36, u37, u38, u39, u40, u41, u42, u43, u44, u45, u46, u47, u48, u49, u50, u51, u52, u53, u54, u55, u56, u57, u58, u59, u60, u61, u62, u63, u64, u65, u66, u67, u68, u69, u70, u71, u72, u73, u74, u75, u76, u77, u78, u79, u80, u81, u82, u83, u84, u85, u86, u87, u88, u89, u90, u91, u92, u93, u94, u95, u96, u97, u98, u99, u100, u101, u102, u103, u104], []⟩ w := by
  simp only [Tryd.f23, Option.bind_some, tailAt, hasReg] at hT
  simp at hT
  subst hT
  have HRR := Lib.hid hRR
  have HEN := Lib.hid he
  have HR := Lib.hid hR
  have HP := Lib.hid hP
  have HQ := Lib.hid hQ
  have HD := Lib.hid hD
  have HC := Lib.hid hC
  have HB := Lib.hid hb
  clear hRR he hR hP hQ hD hC hb
  have bl1 := HB.out.el
  have bl2 := HB.out.rl
  have bl3 : d.revs.length ≤ 100000 := by have := HB.out.dw.len; omega
  have b1 : d.revs.length ≤ 100000 := by have := HB.out.dw.len; omega
  have b2 : d.recs.length ≤ 100000 := by have := HB.out.dw.rlen; omega
  have b3 := HB.out.el
  have b4 := HB.out.rl
  obtain ⟨d0, d1, -, -⟩ := box2 HD.out
  obtain ⟨k0, k1, k2, k3, k4⟩ := box5 HC.out
  dsimp only
  by_cases h1 : 512 < d.revs.length + c.edits.length
  · have H : Hid (110 = roomE d c) := Lib.hid (by unfold roomE; rw [if_pos (.inl h1)])
    have q1 : decide (512 < (d.revs.length : Int) + (c.edits.length : Int)) = true := by simp; omega
    have q1' : (512 : Int) < (d.revs.length : Int) + (c.edits.length : Int) := by omega
    go_wp2_with fail
    exact HRR.out _ _ H.out (Below.refl _ _)
  · have q1 : decide (512 < (d.revs.length : Int) + (c.edits.length : Int)) = false := by simp; omega
    have q1' : ¬ (512 : Int) < (d.revs.length : Int) + (c.edits.length : Int) := by omega
    by_cases h2 : 512 < d.recs.length + c.recs.length
    · have H : Hid (110 = roomE d c) := Lib.hid (by unfold roomE; rw [if_pos (.inr h2)])
      have q2 : decide (512 < (d.recs.length : Int) + (c.recs.length : Int)) = true := by simp; omega
      have q2' : (512 : Int) < (d.recs.length : Int) + (c.recs.length : Int) := by omega
      go_wp2_with fail
      exact HRR.out _ _ H.out (Below.refl _ _)
    · have H : Hid (0 = roomE d c) := Lib.hid (by unfold roomE; rw [if_neg (by omega)])
      have q2 : decide (512 < (d.recs.length : Int) + (c.recs.length : Int)) = false := by simp; omega
      have q2' : ¬ (512 : Int) < (d.recs.length : Int) + (c.recs.length : Int) := by omega
      go_wp2_with fail
      exact HRR.out _ _ H.out (Below.refl _ _)
set_option maxRecDepth 100000 in
set_option maxHeartbeats 8000000 in
theorem ckT24 (T : Code) (hT : Tryd.f23.body.bind (tailAt 24) = some T) (R : Ending → World → Prop) (d : Dep) (c : Chg) (Ar Aq Ae Ac : Option Addr) (cr cq ce cc g2 g3 : Nat) (w : World) (hb : CkB d c)
    (he : Env w) (hR : Revs w (.slice Ar d.revs.length cr) d.revs) (hP : Edts w (.slice Ae c.edits.length ce) c.edits) (hQ : Rcds w (.slice Ac c.recs.length cc) c.recs)
    (hD : Blk w g2 31 [.slice Ar d.revs.length cr, .slice Aq d.recs.length cq])
    (hC : Blk w g3 26 [.int .i64 c.num, .string c.client, .string c.text, .slice Ae c.edits.length ce, .slice Ac c.recs.length cc]) (hs : ∀ r ∈ d.revs, r.chg < c.num) (h2 : everyE (lastOf d.revs) emptyS c.edits = 0)
    (hRR : ∀ (n : Int) (w' : World), n = (if recsE d.revs c ≠ 0 then recsE d.revs c else roomE d c) → Below w.heap.size w w' → R (.returned (.int .i64 n)) w')
    (u0 u1 u4 u5 u6 u7 u8 u9 u10 u11 u12 u13 u14 u15 u16 u17 u18 u19 u20 u21 u22 u23 u24 u25 u26 u27 u28 u29 u30 u31 u32 u33 u34 u35 u36 u37 u38 u39 u40 u41 u42 u43 u44 u45 u46 u47 u48 u49 u50 u51 u52 u53 u54 u55 u56 u57 u58 u59 u60 u61 u62 u63 u64 u65 u66 u67 u68 u69 u70 u71 u72 u73 u74 u75 u76 u77 u78 u79 u80 u81 u82 u83 u84 u85 u86 u87 u88 u89 u90 u91 u92 u93 u94 u95 u96 u97 u98 u99 u100 u101 u102 u103 u104 : Value) :
    T.wp Tryd.prog (bodyPost Tryd.prog Tryd.f23 R) ⟨#[u0, u1, .pointer (some ⟨g2, 0, none⟩), .pointer (some ⟨g3, 0, none⟩), u4, u5, u6, u7, u8, u9, u10, u11, u12, u13, u14, u15, u16, u17, u18, u19, u20, u21, u22, u23, u24, u25, u26, u27, u28, u29, u30, u31, u32, u33, u34, u35, u36, u37, u38, u39, u40, u41, u42, u43, u44, u45, u46, u47, u48, u49, u50, u51, u52, u53, u54, u55, u56, u57, u58, u59, u60, u61, u62, u63, u64, u65, u66, u67, u68, u69, u70, u71, u72, u73, u74, u75, u76, u77, u78, u79, u80, u81, u82, u83, u84, u85, u86, u87, u88, u89, u90, u91, u92, u93, u94, u95, u96, u97, u98, u99, u100, u101, u102, u103, u104], []⟩ w := by
  simp only [Tryd.f23, Option.bind_some, tailAt, hasReg] at hT
  simp at hT
  subst hT
  have HRR := Lib.hid hRR
  have HEN := Lib.hid he
  have HR := Lib.hid hR
  have HP := Lib.hid hP
  have HQ := Lib.hid hQ
  have HD := Lib.hid hD
  have HC := Lib.hid hC
  have HB := Lib.hid hb
  clear hRR he hR hP hQ hD hC hb
  have bl1 := HB.out.el
  have bl2 := HB.out.rl
  have bl3 : d.revs.length ≤ 100000 := by have := HB.out.dw.len; omega
  have HS := Lib.hid hs
  have H2 := Lib.hid h2
  have HRC := Lib.hid (fun k (hk : k < c.recs.length) X (hX : Below w.heap.size w X) => refRecord_any d c (.slice Ar d.revs.length cr) (.slice Aq d.recs.length cq) Ae Ac ce cc k X (HEN.out.below hX) (HR.out.below hX) (by have := HB.out.dw.len; omega) (fun r hr => by have := HB.out.dw.num r hr; have := HB.out.dw.len; omega) (HP.out.below hX) (HQ.out.below hX) hk HB.out.rl HB.out.el (edit_bounds HB.out h2) HB.out.rcd)
  have HNO := Lib.hid (fun i (h : RecB d c i false) => recs_no HB.out.ok hs h2 h)
  have HYES := Lib.hid (fun h => recs_yes HB.out.ok hs h2 h)
  have HOF := Lib.hid (fun i (hi : i < c.recs.length) => recB_of (d := d) h2 hi)
  have HQE : Hid (∀ n : Int, recsE d.revs c = 118 → n = 118 → n = (if recsE d.revs c ≠ 0 then recsE d.revs c else roomE d c)) := Lib.hid (fun n h1 h3 => by rw [h1, h3]; rfl)
  clear hs h2
  generalize recsE d.revs c = V at HRR HNO HYES HQE
  have HT := Lib.hid (fun T hT R W he hR hP hQ hD hC hRR => ckT30 T hT R d c Ar Aq Ae Ac cr cq ce cc g2 g3 W HB.out he hR hP hQ hD hC hRR)
  obtain ⟨k0, k1, k2, k3, k4⟩ := box5 HC.out
  go_upto_block 6 with fail
  clear k0 k1 k2 k3 k4
  go_cut [] (fun wx => Hid (Below w.heap.size w wx ∧ V = 0))
  case first =>
    go_wp2_with fail
    go_loopw [78] (fun s wr => ∃ k : Nat, s = .int .i64 k ∧ k ≤ c.recs.length ∧ Hid (Below w.heap.size w wr ∧ ∀ j, j < k → RecB d c j true)) (fun s _ => c.recs.length - (intOf s).toNat)
    case atStart => exact ⟨0, rfl, Nat.zero_le _, Below.refl _ _, fun j hj => by omega⟩
    case round =>
      obtain ⟨k, rfl, hk, HI⟩ := hrel
      by_cases hlt : k < c.recs.length
      · have qlt : decide ((k : Int) < (c.recs.length : Int)) = true := by simp; omega
        obtain ⟨d0, d1, -, -⟩ := box2 (HD.out.below HI.out.1 HD.out.lt)
        obtain ⟨k0, k1, k2, k3, k4⟩ := box5 (HC.out.below HI.out.1 HC.out.lt)
        have HR1 := Lib.hid (HRC.out k hlt wr HI.out.1)
        have HO1 := Lib.hid (HOF.out k hlt)
        generalize (befI c.recs k c.recs[k] && rcFull d.revs c c.recs[k]) = bb at HR1 HO1
        go_wp2_with fail
        refine HR1.out.mono ?_
        rintro e w2 ⟨rfl, hb2⟩
        have HB2 := Lib.hid (below_next HI.out.1 hb2)
        clear hb2 d0 d1 k0 k1 k2 k3 k4
        dsimp only
        cases bb with
        | false =>
          have HF := Lib.hid (HNO.out k HO1.out)
          go_wp2_with fail
          exact HRR.out _ _ (HQE.out _ HF.out rfl) HB2.out
        | true =>
          have HJ : Hid (∀ j, j < k + 1 → RecB d c j true) := Lib.hid (fun j hj => by
            by_cases e : j = k
            · rw [e]; exact HO1.out
            · exact HI.out.2 j (by omega))
          go_wp2_with fail
          go_roundw
          case rel => exact ⟨k + 1, by go_num, by omega, HB2.out, HJ.out⟩
          case measure => simp [intOf]; omega
      · have hke : k = c.recs.length := by omega
        have q : decide ((k : Int) < (c.recs.length : Int)) = false := by simp; omega
        have q' : decide (k < c.recs.length) = false := by simp; omega
        have HZ : Hid (V = 0) := Lib.hid (HYES.out fun j hj => HI.out.2 j (by omega))
        have HW := Lib.hid HI.out.1
        clear hke
        go_wp2_with fail
        go_meet
        exact ⟨HW.out, HZ.out⟩
  case rest =>
    have HV := Lib.hid hcut.out
    clear hcut
    have hk := ‹∀ (a : Act) (w : World), Code.wp _ _ _ a w → _›
    exact hk _ _ (HT.out _ (by kernel_rfl) _ _ (HEN.out.below HV.out.1) (HR.out.below HV.out.1) (HP.out.below HV.out.1) (HQ.out.below HV.out.1) (HD.out.below HV.out.1 HD.out.lt) (HC.out.below HV.out.1 HC.out.lt) (fun n w' hn hw => HRR.out n w' (by rw [HV.out.2, hn]; rfl) (below_next HV.out.1 hw)) _ _ _ _ _ _ _ _ _ _ _ _ _ _ _ _ _ _ _ _ _ _ _ _ _ _ _ _ _ _ _ _ _ _ _ _ _ _ _ _ _ _ _ _ _ _ _ _ _ _ _ _ _ _ _ _ _ _ _ _ _ _ _ _ _ _ _ _ _ _ _ _ _ _ _ _ _ _ _ _ _ _ _ _ _ _ _ _ _ _ _ _ _ _ _ _ _ _ _ _ _ _ _)
end Go.Proofs.YtmhmnchdhacdbaaDoor
/- The reference's Check: its moves, its edits. -/
namespace Go.Proofs.YtmhmnchdhacdbaaDoor
open Go.RowKit
set_option linter.unusedVariables false
set_option linter.unusedSimpArgs false

set_option maxRecDepth 100000 in
set_option maxHeartbeats 8000000 in
theorem ckT18 (T : Code) (hT : Tryd.f23.body.bind (tailAt 18) = some T) (R : Ending → World → Prop) (d : Dep) (c : Chg) (Ar Aq Ae Ac : Option Addr) (cr cq ce cc g2 g3 : Nat) (w : World) (hb : CkB d c)
    (he : Env w) (hR : Revs w (.slice Ar d.revs.length cr) d.revs) (hP : Edts w (.slice Ae c.edits.length ce) c.edits) (hQ : Rcds w (.slice Ac c.recs.length cc) c.recs)
    (hD : Blk w g2 31 [.slice Ar d.revs.length cr, .slice Aq d.recs.length cq])
    (hC : Blk w g3 26 [.int .i64 c.num, .string c.client, .string c.text, .slice Ae c.edits.length ce, .slice Ac c.recs.length cc]) (hs : ∀ r ∈ d.revs, r.chg < c.num) (h2 : everyE (lastOf d.revs) emptyS c.edits = 0)
    (hRR : ∀ (n : Int) (w' : World), n = (if movesE c.edits ≠ 0 then movesE c.edits else if recsE d.revs c ≠ 0 then recsE d.revs c else roomE d c) → Below w.heap.size w w' → R (.returned (.int .i64 n)) w')
    (u0 u1 u4 u5 u6 u7 u8 u9 u10 u11 u12 u13 u14 u15 u16 u17 u18 u19 u20 u21 u22 u23 u24 u25 u26 u27 u28 u29 u30 u31 u32 u33 u34 u35 u36 u37 u38 u39 u40 u41 u42 u43 u44 u45 u46 u47 u48 u49 u50 u51 u52 u53 u54 u55 u56 u57 u58 u59 u60 u61 u62 u63 u64 u65 u66 u67 u68 u69 u70 u71 u72 u73 u74 u75 u76 u77 u78 u79 u80 u81 u82 u83 u84 u85 u86 u87 u88 u89 u90 u91 u92 u93 u94 u95 u96 u97 u98 u99 u100 u101 u102 u103 u104 : Value) :
    T.wp Tryd.prog (bodyPost Tryd.prog Tryd.f23 R) ⟨#[u0, u1, .pointer (some ⟨g2, 0, none⟩), .pointer (some ⟨g3, 0, none⟩), u4, u5, u6, u7, u8, u9, u10, u11, u12, u13, u14, u15, u16, u17, u18, u19, u20, u21, u22, u23, u24, u25, u26, u27, u28, u29, u30, u31, u32, u33, u34, u35, u36, u37, u38, u39, u40, u41, u42, u43, u44, u45, u46, u47, u48, u49, u50, u51, u52, u53, u54, u55, u56, u57, u58, u59, u60, u61, u62, u63, u64, u65, u66, u67, u68, u69, u70, u71, u72, u73, u74, u75, u76, u77, u78, u79, u80, u81, u82, u83, u84, u85, u86, u87, u88, u89, u90, u91, u92, u93, u94, u95, u96, u97, u98, u99, u100, u101, u102, u103, u104], []⟩ w := by
  simp only [Tryd.f23, Option.bind_some, tailAt, hasReg] at hT
  simp at hT
  subst hT
  have HRR := Lib.hid hRR
  have HEN := Lib.hid he
  have HR := Lib.hid hR
  have HP := Lib.hid hP
  have HQ := Lib.hid hQ
  have HD := Lib.hid hD
  have HC := Lib.hid hC
  have HB := Lib.hid hb
  clear hRR he hR hP hQ hD hC hb
  have bl1 := HB.out.el
  have bl2 := HB.out.rl
  have bl3 : d.revs.length ≤ 100000 := by have := HB.out.dw.len; omega
  have HMV := Lib.hid (fun x X (hX : Below w.heap.size w X) => refMoved_any c.edits c.num c.client c.text Ae Ac c.recs.length ce cc x X (HP.out.below hX) HB.out.el)
  have HNO := Lib.hid (fun x (hx : x ∈ c.edits) h => moves_no h2 hx h)
  have HYES := Lib.hid (fun h => moves_yes h2 h)
  have HQE : Hid (∀ n : Int, movesE c.edits = 117 → n = 117 → n = (if movesE c.edits ≠ 0 then movesE c.edits else if recsE d.revs c ≠ 0 then recsE d.revs c else roomE d c)) := Lib.hid (fun n h1 h3 => by rw [h1, h3]; rfl)
  generalize movesE c.edits = V at HRR HNO HYES HQE
  have HT := Lib.hid (fun T hT R W he hR hP hQ hD hC hRR => ckT24 T hT R d c Ar Aq Ae Ac cr cq ce cc g2 g3 W HB.out he hR hP hQ hD hC hs h2 hRR)
  obtain ⟨k0, k1, k2, k3, k4⟩ := box5 HC.out
  go_upto_block 4 with fail
  clear k0 k1 k2 k3 k4
  go_cut [] (fun wx => Hid (Below w.heap.size w wx ∧ V = 0))
  case first =>
    go_wp2_with fail
    go_loopw [66] (fun s wr => ∃ k : Nat, s = .int .i64 k ∧ k ≤ c.edits.length ∧ Hid (Below w.heap.size w wr ∧ ∀ j (hj : j < c.edits.length), j < k → movedB c.edits c.edits[j] = true)) (fun s _ => c.edits.length - (intOf s).toNat)
    case atStart => exact ⟨0, rfl, Nat.zero_le _, Below.refl _ _, fun j _ hj => by omega⟩
    case round =>
      obtain ⟨k, rfl, hk, HI⟩ := hrel
      by_cases hlt : k < c.edits.length
      · have qlt : decide ((k : Int) < (c.edits.length : Int)) = true := by simp; omega
        obtain ⟨ad, rfl, hab, hld⟩ := Edts.at_ (HP.out.below HI.out.1) hlt
        have hmem : c.edits[k] ∈ c.edits := List.getElem_mem hlt
        have HJ : Hid (movedB c.edits c.edits[k] = true → ∀ j (hj : j < c.edits.length), j < k + 1 → movedB c.edits c.edits[j] = true) := Lib.hid (fun h j hj hjk => by
            by_cases e : j = k
            · subst e; exact h
            · exact HI.out.2 j hj (by omega))
        generalize c.edits[k] = x at hld hmem HJ
        have HMEM := Lib.hid hmem
        clear hmem
        obtain ⟨x0, x1, x2, x3, x4, x5, x6, x7, x8, x9, x10, x11⟩ := hld
        have hX := blk_new wr [.string x.path, .int .i64 x.act, .int .i64 x.ty.base, .bool x.ty.k, .bool x.ty.l, .bool x.ty.x, .int .u64 x.sum, .int .i64 x.size, .int .i64 x.base, .string x.frm, .int .i64 x.fnum, .int .i64 x.fence] 48
        have hA1 := HI.out.1.alloc HI.out.1.size (.cells #[.string x.path, .int .i64 x.act, .int .i64 x.ty.base, .bool x.ty.k, .bool x.ty.l, .bool x.ty.x, .int .u64 x.sum, .int .i64 x.size, .int .i64 x.base, .string x.frm, .int .i64 x.fnum, .int .i64 x.fence] 48)
        go_upto_region 21 with fail
        clear x0 x1 x2 x3 x4 x5 x6 x7 x8 x9 x10 x11
        generalize wr.alloc (.cells #[.string x.path, .int .i64 x.act, .int .i64 x.ty.base, .bool x.ty.k, .bool x.ty.l, .bool x.ty.x, .int .u64 x.sum, .int .i64 x.size, .int .i64 x.base, .string x.frm, .int .i64 x.fnum, .int .i64 x.fence] 48) = V1 at hX hA1 ⊢
        generalize wr.heap.size = g10 at hX ⊢
        have HA1 := Lib.hid hA1
        obtain ⟨x0, x1, x2, x3, x4, x5, x6, x7, x8, x9, x10, x11⟩ := box12 hX
        obtain ⟨k0, k1, k2, k3, k4⟩ := box5 (HC.out.below HA1.out HC.out.lt)
        have HR1 := Lib.hid (HMV.out x V1 HA1.out)
        generalize hbb : movedB c.edits x = bb at HR1 HJ
        have HBB := Lib.hid hbb
        clear hX hA1 hbb
        go_wp2_with fail
        refine HR1.out.mono ?_
        rintro e w2 ⟨rfl, hb2⟩
        have HB2 := Lib.hid (below_next HA1.out hb2)
        clear hb2 k0 k1 k2 k3 k4 x0 x1 x2 x3 x4 x5 x6 x7 x8 x9 x10 x11
        dsimp only
        cases bb with
        | false =>
          have HF := Lib.hid (HNO.out x HMEM.out HBB.out)
          go_wp2_with fail
          exact HRR.out _ _ (HQE.out _ HF.out rfl) HB2.out
        | true =>
          have HJ2 := Lib.hid (HJ.out rfl)
          go_wp2_with fail
          go_roundw
          case rel => exact ⟨k + 1, by go_num, by omega, HB2.out, HJ2.out⟩
          case measure => simp [intOf]; omega
      · have hke : k = c.edits.length := by omega
        have q : decide ((k : Int) < (c.edits.length : Int)) = false := by simp; omega
        have q' : decide (k < c.edits.length) = false := by simp; omega
        have HZ : Hid (V = 0) := Lib.hid (HYES.out fun x hx => by obtain ⟨j, hj, rfl⟩ := List.mem_iff_getElem.1 hx; exact HI.out.2 j hj (by omega))
        have HW := Lib.hid HI.out.1
        clear hke
        go_wp2_with fail
        go_meet
        exact ⟨HW.out, HZ.out⟩
  case rest =>
    have HV := Lib.hid hcut.out
    clear hcut
    have hk := ‹∀ (a : Act) (w : World), Code.wp _ _ _ a w → _›
    exact hk _ _ (HT.out _ (by kernel_rfl) _ _ (HEN.out.below HV.out.1) (HR.out.below HV.out.1) (HP.out.below HV.out.1) (HQ.out.below HV.out.1) (HD.out.below HV.out.1 HD.out.lt) (HC.out.below HV.out.1 HC.out.lt) (fun n w' hn hw => HRR.out n w' (by rw [HV.out.2, hn]; rfl) (below_next HV.out.1 hw)) _ _ _ _ _ _ _ _ _ _ _ _ _ _ _ _ _ _ _ _ _ _ _ _ _ _ _ _ _ _ _ _ _ _ _ _ _ _ _ _ _ _ _ _ _ _ _ _ _ _ _ _ _ _ _ _ _ _ _ _ _ _ _ _ _ _ _ _ _ _ _ _ _ _ _ _ _ _ _ _ _ _ _ _ _ _ _ _ _ _ _ _ _ _ _ _ _ _ _ _ _ _ _)
set_option maxRecDepth 100000 in
set_option maxHeartbeats 8000000 in
theorem ckT11 (T : Code) (hT : Tryd.f23.body.bind (tailAt 11) = some T) (R : Ending → World → Prop) (d : Dep) (c : Chg) (Ar Aq Ae Ac : Option Addr) (cr cq ce cc g2 g3 : Nat) (w : World) (hb : CkB d c)
    (he : Env w) (hR : Revs w (.slice Ar d.revs.length cr) d.revs) (hP : Edts w (.slice Ae c.edits.length ce) c.edits) (hQ : Rcds w (.slice Ac c.recs.length cc) c.recs)
    (hD : Blk w g2 31 [.slice Ar d.revs.length cr, .slice Aq d.recs.length cq])
    (hC : Blk w g3 26 [.int .i64 c.num, .string c.client, .string c.text, .slice Ae c.edits.length ce, .slice Ac c.recs.length cc]) (hs : ∀ r ∈ d.revs, r.chg < c.num)
    (hRR : ∀ (n : Int) (w' : World), n = (if everyE (lastOf d.revs) emptyS c.edits ≠ 0 then everyE (lastOf d.revs) emptyS c.edits else if movesE c.edits ≠ 0 then movesE c.edits else if recsE d.revs c ≠ 0 then recsE d.revs c else roomE d c) → Below w.heap.size w w' → R (.returned (.int .i64 n)) w')
    (u0 u1 u4 u5 u6 u7 u8 u9 u10 u11 u12 u13 u14 u15 u16 u17 u18 u19 u20 u21 u22 u23 u24 u25 u26 u27 u28 u29 u30 u31 u32 u33 u34 u35 u36 u37 u38 u39 u40 u41 u42 u43 u44 u45 u46 u47 u48 u49 u50 u51 u52 u53 u54 u55 u56 u57 u58 u59 u60 u61 u62 u63 u64 u65 u66 u67 u68 u69 u70 u71 u72 u73 u74 u75 u76 u77 u78 u79 u80 u81 u82 u83 u84 u85 u86 u87 u88 u89 u90 u91 u92 u93 u94 u95 u96 u97 u98 u99 u100 u101 u102 u103 u104 : Value) :
    T.wp Tryd.prog (bodyPost Tryd.prog Tryd.f23 R) ⟨#[u0, u1, .pointer (some ⟨g2, 0, none⟩), .pointer (some ⟨g3, 0, none⟩), u4, u5, u6, u7, u8, u9, u10, u11, u12, u13, u14, u15, u16, u17, u18, u19, u20, u21, u22, u23, u24, u25, u26, u27, u28, u29, u30, u31, u32, u33, u34, u35, u36, u37, u38, u39, u40, u41, u42, u43, u44, u45, u46, u47, u48, u49, u50, u51, u52, u53, u54, u55, u56, u57, u58, u59, u60, u61, u62, u63, u64, u65, u66, u67, u68, u69, u70, u71, u72, u73, u74, u75, u76, u77, u78, u79, u80, u81, u82, u83, u84, u85, u86, u87, u88, u89, u90, u91, u92, u93, u94, u95, u96, u97, u98, u99, u100, u101, u102, u103, u104], []⟩ w := by
  simp only [Tryd.f23, Option.bind_some, tailAt, hasReg] at hT
  simp at hT
  subst hT
  have HRR := Lib.hid hRR
  have HEN := Lib.hid he
  have HR := Lib.hid hR
  have HP := Lib.hid hP
  have HQ := Lib.hid hQ
  have HD := Lib.hid hD
  have HC := Lib.hid hC
  have HB := Lib.hid hb
  clear hRR he hR hP hQ hD hC hb
  have bl1 := HB.out.el
  have bl2 := HB.out.rl
  have bl3 : d.revs.length ≤ 100000 := by have := HB.out.dw.len; omega
  have HED := Lib.hid (fun k (hk : k < c.edits.length) hv X (hX : Below w.heap.size w X) => refEdit_any d c (.slice Ar d.revs.length cr) (.slice Aq d.recs.length cq) Ae Ac ce cc k X (HEN.out.below hX) (HR.out.below hX) (by have := HB.out.dw.len; omega) (HP.out.below hX) hk HB.out.el HB.out.ok.log HB.out.path hv)
  have HNO := Lib.hid (fun i hi hz h => every_at (last := lastOf d.revs) c.edits emptyS i hi hz h)
  have HYES := Lib.hid (fun h => every_all (last := lastOf d.revs) c.edits emptyS h)
  have HQE : Hid (∀ n : Int, n ≠ 0 → everyE (lastOf d.revs) emptyS c.edits = n → n = (if everyE (lastOf d.revs) emptyS c.edits ≠ 0 then everyE (lastOf d.revs) emptyS c.edits else if movesE c.edits ≠ 0 then movesE c.edits else if recsE d.revs c ≠ 0 then recsE d.revs c else roomE d c)) := Lib.hid (fun n h1 h3 => by rw [h3, if_pos h1])
  obtain ⟨V, hV⟩ : ∃ V, V = everyE (lastOf d.revs) emptyS c.edits := ⟨_, rfl⟩
  rw [← hV] at HRR HNO HYES HQE
  have HVV := Lib.hid hV
  clear hV
  have HT := Lib.hid (fun T hT R W he hR hP hQ hD hC h2 hRR => ckT18 T hT R d c Ar Aq Ae Ac cr cq ce cc g2 g3 W HB.out he hR hP hQ hD hC hs h2 hRR)
  obtain ⟨k0, k1, k2, k3, k4⟩ := box5 HC.out
  go_upto_block 2 with fail
  clear k0 k1 k2 k3 k4
  go_cut [] (fun wx => Hid (Below w.heap.size w wx ∧ V = 0))
  case first =>
    go_wp2_with fail
    go_loopw [52] (fun s wr => ∃ k : Nat, s = .int .i64 k ∧ k ≤ c.edits.length ∧ Hid (Below w.heap.size w wr ∧ ∀ j (hj : j < c.edits.length), j < k → editE (lastOf d.revs) (aheadQ emptyS c.edits j) c.edits[j] = 0)) (fun s _ => c.edits.length - (intOf s).toNat)
    case atStart => exact ⟨0, rfl, Nat.zero_le _, Below.refl _ _, fun j _ hj => by omega⟩
    case round =>
      obtain ⟨k, rfl, hk, HI⟩ := hrel
      by_cases hlt : k < c.edits.length
      · have qlt : decide ((k : Int) < (c.edits.length : Int)) = true := by simp; omega
        obtain ⟨d0, d1, -, -⟩ := box2 (HD.out.below HI.out.1 HD.out.lt)
        obtain ⟨k0, k1, k2, k3, k4⟩ := box5 (HC.out.below HI.out.1 HC.out.lt)
        have HR1 := Lib.hid (HED.out k hlt (fun j hj hjk => (editE_zero (HI.out.2 j hj hjk)).1) wr HI.out.1)
        have HN1 := Lib.hid (HNO.out k hlt (fun j hj => HI.out.2 j (by omega) hj))
        have HJ : Hid (editE (lastOf d.revs) (aheadQ emptyS c.edits k) c.edits[k] = 0 → ∀ j (hj : j < c.edits.length), j < k + 1 → editE (lastOf d.revs) (aheadQ emptyS c.edits j) c.edits[j] = 0) := Lib.hid (fun h j hj hjk => by
            by_cases e : j = k
            · subst e; exact h
            · exact HI.out.2 j hj (by omega))
        generalize editE (lastOf d.revs) (aheadQ emptyS c.edits k) c.edits[k] = er at HR1 HN1 HJ
        go_wp2_with fail
        refine HR1.out.mono ?_
        rintro e w2 ⟨rfl, hb2⟩
        have HB2 := Lib.hid (below_next HI.out.1 hb2)
        clear hb2 d0 d1 k0 k1 k2 k3 k4
        dsimp only
        by_cases h0 : er = 0
        · have HJ2 := Lib.hid (HJ.out h0)
          subst h0
          go_wp2_with fail
          go_roundw
          case rel => exact ⟨k + 1, by go_num, by omega, HB2.out, HJ2.out⟩
          case measure => simp [intOf]; omega
        · have q0 : (er != 0) = true := by simpa using h0
          have HF := Lib.hid (HQE.out er h0 (HN1.out h0))
          clear h0
          go_wp2_with fail
          exact HRR.out _ _ HF.out HB2.out
      · have hke : k = c.edits.length := by omega
        have q : decide ((k : Int) < (c.edits.length : Int)) = false := by simp; omega
        have q' : decide (k < c.edits.length) = false := by simp; omega
        have HZ : Hid (V = 0) := Lib.hid (HYES.out fun j hj => HI.out.2 j hj (by omega))
        have HW := Lib.hid HI.out.1
        clear hke
        go_wp2_with fail
        go_meet
        exact ⟨HW.out, HZ.out⟩
  case rest =>
    have HV := Lib.hid hcut.out
    clear hcut
    have hk := ‹∀ (a : Act) (w : World), Code.wp _ _ _ a w → _›
    exact hk _ _ (HT.out _ (by kernel_rfl) _ _ (HEN.out.below HV.out.1) (HR.out.below HV.out.1) (HP.out.below HV.out.1) (HQ.out.below HV.out.1) (HD.out.below HV.out.1 HD.out.lt) (HC.out.below HV.out.1 HC.out.lt) (HVV.out.symm.trans HV.out.2) (fun n w' hn hw => HRR.out n w' (by rw [HV.out.2, hn]; rfl) (below_next HV.out.1 hw)) _ _ _ _ _ _ _ _ _ _ _ _ _ _ _ _ _ _ _ _ _ _ _ _ _ _ _ _ _ _ _ _ _ _ _ _ _ _ _ _ _ _ _ _ _ _ _ _ _ _ _ _ _ _ _ _ _ _ _ _ _ _ _ _ _ _ _ _ _ _ _ _ _ _ _ _ _ _ _ _ _ _ _ _ _ _ _ _ _ _ _ _ _ _ _ _ _ _ _ _ _ _ _)
end Go.Proofs.YtmhmnchdhacdbaaDoor
