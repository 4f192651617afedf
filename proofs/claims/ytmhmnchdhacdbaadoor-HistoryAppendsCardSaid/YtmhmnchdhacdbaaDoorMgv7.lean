/- The reference's record: the walk. -/
import Derived.Test.YtmhmnchdhacdbaaDoorMgv5
import Derived.Test.YtmhmnchdhacdbaaDoorMzRcJ
import Derived.Test.YtmhmnchdhacdbaaDoorMgv1
import Derived.Test.YtmhmnchdhacdbaaDoorMgv2
namespace Go.Proofs.YtmhmnchdhacdbaaDoor
open Go.RowKit
set_option linter.unusedVariables false
set_option linter.unusedSimpArgs false

/-- What the reference says of a record of a change, its place among the others aside. -/
def rcFull (revs : List Rev) (c : Chg) (x : Rcd) : Bool := decide (1 ≤ x.how ∧ x.how ≤ 4) && rcVal revs c x (tgt c.edits x)
/-- What is said of the record ahead. -/
def befI (rs : List Rcd) (i : Nat) (x : Rcd) : Bool := decide (i = 0) || befF ((rs[i - 1]?).getD x) x
theorem befI_zero {rs : List Rcd} {x : Rcd} : befI rs 0 x = true := rfl
theorem befI_succ {rs : List Rcd} {x : Rcd} {j : Nat} (hj : j < rs.length) : befI rs (j + 1) x = befF rs[j] x := by
  unfold befI
  rw [Nat.add_sub_cancel, List.getElem?_eq_getElem hj]; simp
set_option maxRecDepth 100000 in
set_option maxHeartbeats 8000000 in
theorem refRecord_any (d : Dep) (c : Chg) (dv dr : Value) (Ae Ac : Option Addr) (ce cc i : Nat) (w : World) (he : Env w) (hR : Revs w dv d.revs) (hl : d.revs.length ≤ 100000) (hns : ∀ r ∈ d.revs, 0 ≤ r.num ∧ r.num ≤ 1000000)
    (hP : Edts w (.slice Ae c.edits.length ce) c.edits) (hQ : Rcds w (.slice Ac c.recs.length cc) c.recs) (hi : i < c.recs.length) (hlr : c.recs.length ≤ 100000) (hle : c.edits.length ≤ 100000)
    (hact : ∀ y ∈ c.edits, 1 ≤ y.act ∧ 0 ≤ y.base ∧ y.base ≤ 100000) (hsz : ∀ r ∈ c.recs, r.to.size ≤ 2000000 ∧ r.frm.size ≤ 2000000) :
    Calls Tryd.prog 45 #[.agg #[dv, dr], .agg #[.int .i64 c.num, .string c.client, .string c.text, .slice Ae c.edits.length ce, .slice Ac c.recs.length cc], .int .i64 i] w
      fun e w' => e = .returned (.bool (befI c.recs i c.recs[i] && rcFull d.revs c c.recs[i])) ∧ Below w.heap.size w w' := by
  obtain ⟨Ar, cr, rfl, -⟩ := id hR
  have HR := Lib.hid hR
  have HP := Lib.hid hP
  have HQ := Lib.hid hQ
  have HEN := Lib.hid he
  have HSZ := Lib.hid hsz
  have hb0 : Below w.heap.size w ((w.alloc (.cells #[.slice Ar d.revs.length cr, dr] 31)).alloc (.cells #[.int .i64 c.num, .string c.client, .string c.text, .slice Ae c.edits.length ce, .slice Ac c.recs.length cc] 26)) := ((Below.refl _ _).alloc (Nat.le_refl _) _).alloc (by simp) _
  have hC : Blk ((w.alloc (.cells #[.slice Ar d.revs.length cr, dr] 31)).alloc (.cells #[.int .i64 c.num, .string c.client, .string c.text, .slice Ae c.edits.length ce, .slice Ac c.recs.length cc] 26)) (w.heap.size + 1) 26 [.int .i64 c.num, .string c.client, .string c.text, .slice Ae c.edits.length ce, .slice Ac c.recs.length cc] := by
    have h1 := blk_new (w.alloc (.cells #[.slice Ar d.revs.length cr, dr] 31)) [.int .i64 c.num, .string c.client, .string c.text, .slice Ae c.edits.length ce, .slice Ac c.recs.length cc] 26
    simp only [World.size_alloc] at h1
    exact h1
  have hD : Blk ((w.alloc (.cells #[.slice Ar d.revs.length cr, dr] 31)).alloc (.cells #[.int .i64 c.num, .string c.client, .string c.text, .slice Ae c.edits.length ce, .slice Ac c.recs.length cc] 26)) w.heap.size 31 [.slice Ar d.revs.length cr, dr] := (blk_new w _ _).alloc _
  have hld0 := fun X (hX : Below w.heap.size w X) => Rcds.at_ (HQ.out.below hX) hi
  have HXM : Hid ((c.recs[i]).to.size ≤ 2000000 ∧ (c.recs[i]).frm.size ≤ 2000000) := Lib.hid (HSZ.out _ (List.getElem_mem hi))
  generalize c.recs[i] = x at hld0 HXM ⊢
  have HLD := Lib.hid hld0
  have HT4 := Lib.hid (fun T hT R g3 g4 g7 W hR hQ hP hD hC hX hRR => rcT4 T hT R d.revs c x Ar Ae Ac dr cr ce cc g3 g4 g7 W hR hl hns hQ hlr hP hle hact hD hC hX hRR)
  have HFUL : Hid (rcFull d.revs c x = (decide (1 ≤ x.how ∧ x.how ≤ 4) && rcVal d.revs c x (tgt c.edits x))) := Lib.hid rfl
  clear hR hP hQ he hsz hns hact hld0
  generalize rcFull d.revs c x = VF at HFUL ⊢
  generalize rcVal d.revs c x (tgt c.edits x) = V at HFUL HT4
  generalize hbi : befI c.recs i x = bi
  have HBI := Lib.hid hbi
  clear hbi
  go_enter Tryd.func45, Tryd.ntmps45
  go_upto_region 1 with fail
  generalize (w.alloc (.cells #[.slice Ar d.revs.length cr, dr] 31)).alloc (.cells #[.int .i64 c.num, .string c.client, .string c.text, .slice Ae c.edits.length ce, .slice Ac c.recs.length cc] 26) = W1 at hb0 hC hD ⊢
  obtain ⟨k0, k1, k2, k3, k4⟩ := box5 hC
  obtain ⟨ad, rfl, hab, hld⟩ := HLD.out _ hb0
  have hiz : (i : Int) < (c.recs.length : Int) := by omega
  obtain ⟨x0, x1, x2, x3, x4, x5⟩ := hld
  have hX := blk_new W1 [.string x.frm, .int .i64 x.first, .int .i64 x.last, .string x.to, .int .i64 x.num, .int .i64 x.how] 50
  have hA1 := hb0.alloc hb0.size (.cells #[.string x.frm, .int .i64 x.first, .int .i64 x.last, .string x.to, .int .i64 x.num, .int .i64 x.how] 50)
  have HC1 := Lib.hid (hC.alloc (.cells #[.string x.frm, .int .i64 x.first, .int .i64 x.last, .string x.to, .int .i64 x.num, .int .i64 x.how] 50))
  have HD1 := Lib.hid (hD.alloc (.cells #[.string x.frm, .int .i64 x.first, .int .i64 x.last, .string x.to, .int .i64 x.num, .int .i64 x.how] 50))
  go_upto_region 2 with fail
  clear x0 x1 x2 x3 x4 x5 k0 k1 k2 k3 k4 hC hD hb0
  generalize W1.alloc (.cells #[.string x.frm, .int .i64 x.first, .int .i64 x.last, .string x.to, .int .i64 x.num, .int .i64 x.how] 50) = w2 at hX hA1 HC1 HD1 ⊢
  generalize W1.heap.size = g7 at hX ⊢
  have HX1 := Lib.hid hX
  have HW1 := Lib.hid hA1
  clear hX hA1
  go_cut [52] (fun v wx => ∃ bb, v = .bool bb ∧ Hid (Below w2.heap.size w2 wx ∧ bb = !(bi && decide (1 ≤ x.how ∧ x.how ≤ 4))))
  case first =>
    obtain ⟨x0, x1, x2, x3, x4, x5⟩ := box6 HX1.out
    by_cases h0 : i = 0
    · have d0 : decide (0 < i) = false := by simp; omega
      have d1 : decide ((0 : Int) < (i : Int)) = false := by simp; omega
      have HB0 : Hid (bi = true) := Lib.hid (by rw [← HBI.out, h0]; rfl)
      clear h0
      by_cases h1 : x.how < 1
      · have q1 : decide (x.how < 1) = true := by simpa using h1
        have HF : Hid (true = !(bi && decide (1 ≤ x.how ∧ x.how ≤ 4))) := Lib.hid (by rw [show decide (1 ≤ x.how ∧ x.how ≤ 4) = false by simp; omega]; simp)
        clear h1
        go_quiet (fail)
        go_wp2_with fail
        go_meet
        exact ⟨true, rfl, below_dN (Below.refl _ _) _, HF.out⟩
      · have q1 : decide (x.how < 1) = false := by simpa using h1
        by_cases h2 : 4 < x.how
        · have q2 : decide (4 < x.how) = true := by simpa using h2
          have HF : Hid (true = !(bi && decide (1 ≤ x.how ∧ x.how ≤ 4))) := Lib.hid (by rw [show decide (1 ≤ x.how ∧ x.how ≤ 4) = false by simp; omega]; simp)
          clear h1 h2
          go_quiet (fail)
          go_wp2_with fail
          go_meet
          exact ⟨true, rfl, below_dN (Below.refl _ _) _, HF.out⟩
        · have q2 : decide (4 < x.how) = false := by simpa using h2
          have HF : Hid (false = !(bi && decide (1 ≤ x.how ∧ x.how ≤ 4))) := Lib.hid (by rw [HB0.out, show decide (1 ≤ x.how ∧ x.how ≤ 4) = true by simp; omega]; rfl)
          clear h1 h2
          go_quiet (fail)
          go_wp2_with fail
          go_meet
          exact ⟨false, rfl, below_dN (Below.refl _ _) _, HF.out⟩
    · obtain ⟨j, rfl⟩ : ∃ j, i = j + 1 := ⟨i - 1, by omega⟩
      have hj : j < c.recs.length := by omega
      have hld2 := fun X (hX : Below w2.heap.size w2 X) => (show RcdAt X (ad.add (j * 6)) c.recs[j] from by
        obtain ⟨ad2, had, -, h⟩ := Rcds.at_ (HQ.out.below (below_next HW1.out hX)) hj
        injection had with had
        subst had
        exact h)
      have HSY := Lib.hid (HSZ.out _ (List.getElem_mem hj))
      have HBJ : Hid (befF c.recs[j] x = bi) := Lib.hid (by rw [← HBI.out, befI_succ hj])
      generalize c.recs[j] = y at hld2 HSY HBJ
      have HY2 := Lib.hid hld2
      have HBE := Lib.hid (fun X (hX : Below w2.heap.size w2 X) => before_det y x X (HEN.out.below (below_next HW1.out hX)) HSY.out.1 HXM.out.1 HSY.out.2 HXM.out.2)
      rw [HBJ.out] at HBE
      clear h0 hld2 x0 x1 x2 x3 x4 x5
      refine rcR2 _ (by kernel_rfl) _ ad c.recs.length cc j (w.heap.size + 1) g7 c.num c.client c.text (.slice Ae c.edits.length ce) x y bi w2 hi hlr HC1.out HX1.out HY2.out HBE.out _ _ _ _ _ _ _ _ _ _ _ _ _ _ _ _ _ _ _ _ _ _ _ _ _ _ _ _ _ _ _ _ _ _ _ _ _ _ _ _ _ _ _ _ _ _ _ _ _ _ _ _ _ _ _ _ _ _ _ _ _ _ _ _ _ _ _ _ _ _ _ _ _ _ _ _ _ _ _ _ _ _ _ _ _ _ _ _ _ _ _ _ _ _ _ _ _ _ _ _ _ _ _ _ _ _ _ _ _ _ _ _ _ _ _ _ _ _ _ _ _ _ _ _ _ _ _ _ _ _ _ _ _ _ _ _ _ _ _ _ _ _ _ _ _ _ _ _ _ _ _ _ _ _ _ _ _ _ _ _ _ _ _ _ _ _ _ _ _ _ _ _ _ _ _ _ _ _ _ _ _ _ _ _ _ _ _ _ _ _ _ _ _ _ _ _ _ _ _ _ _ _ _ _ _ _ _ _ _ _ _ _ _ _ _ _ _ _ _ _ _ _ _ _ _ _ _ _ _ _ _ _ _ _ _ _ _ _ _ _ ?_
      intro t30 t31 t32 t33 t34 t35 t36 t37 t38 t39 t40 t41 t42 t43 t44 t45 t46 t47 t48 t49 t50 t51 bb w6 H6
      have HF : Hid (bb = !(bi && decide (1 ≤ x.how ∧ x.how ≤ 4))) := Lib.hid (by
        rw [H6.out.2]
        cases bi
        · rfl
        · by_cases k1 : x.how < 1
          · have : ¬ (1 ≤ x.how ∧ x.how ≤ 4) := by omega
            simp [k1, this]
          · by_cases k2 : 4 < x.how
            · have : ¬ (1 ≤ x.how ∧ x.how ≤ 4) := by omega
              simp [k2, this]
            · have : 1 ≤ x.how ∧ x.how ≤ 4 := by omega
              simp [k1, k2, this])
      have HS6 := Lib.hid H6.out.1
      clear H6
      go_wp2_with fail
      go_meet
      exact ⟨bb, rfl, HS6.out, HF.out⟩
  case rest =>
    obtain ⟨bb, rfl, HV⟩ := hcut
    have HB := Lib.hid (below_next HW1.out HV.out.1)
    cases bb with
    | true =>
      have HF : Hid (false = (bi && VF)) := Lib.hid (by
        have h := HV.out.2
        rw [HFUL.out]
        cases bi
        · rfl
        · cases hh : decide (1 ≤ x.how ∧ x.how ≤ 4)
          · rfl
          · rw [hh] at h; cases h)
      clear HV
      go_wp2_with fail
      go_ret
      exact ⟨ret_bool HF.out, HB.out⟩
    | false =>
      have HF : Hid ((bi && VF) = V) := Lib.hid (by
        have h := HV.out.2
        rw [HFUL.out]
        cases bi
        · cases h
        · cases hh : decide (1 ≤ x.how ∧ x.how ≤ 4)
          · rw [hh] at h; cases h
          · rfl)
      go_upto_if 52 with fail
      refine wp_cond_false rfl ?_
      refine wp_skip ?_
      have hk := ‹∀ (a : Act) (w : World), Code.wp _ _ _ a w → _›
      exact hk _ _ (HT4.out _ (by kernel_rfl) _ _ _ _ _ (HR.out.below HB.out) (HQ.out.below HB.out) (HP.out.below HB.out) (HD1.out.below HV.out.1 HD1.out.lt) (HC1.out.below HV.out.1 HC1.out.lt) (HX1.out.below HV.out.1 HX1.out.lt) (fun b w' hb hw => ⟨by rw [HF.out, hb], below_next HB.out hw⟩) _ _ _ _ _ _ _ _ _ _ _ _ _ _ _ _ _ _ _ _ _ _ _ _ _ _ _ _ _ _ _ _ _ _ _ _ _ _ _ _ _ _ _ _ _ _ _ _ _ _ _ _ _ _ _ _ _ _ _ _ _ _ _ _ _ _ _ _ _ _ _ _ _ _ _ _ _ _ _ _ _ _ _ _ _ _ _ _ _ _ _ _ _ _ _ _ _ _ _ _ _ _ _ _ _ _ _ _ _ _ _ _ _ _ _ _ _ _ _ _ _ _ _ _ _ _ _ _ _ _ _ _ _ _ _ _ _ _ _ _ _ _ _ _ _ _ _ _ _ _ _ _ _ _ _ _ _ _ _ _ _ _ _ _ _ _ _ _ _ _ _ _ _ _ _ _ _ _ _ _ _ _ _ _ _ _ _ _ _ _ _ _ _ _ _ _ _ _ _ _ _ _ _ _ _ _ _ _ _ _ _ _ _ _ _ _ _ _ _ _ _ _ _ _ _ _ _ _ _ _ _ _ _ _ _ _ _ _ _ _)
end Go.Proofs.YtmhmnchdhacdbaaDoor
/- The reference's moved: the walk. -/
namespace Go.Proofs.YtmhmnchdhacdbaaDoor
open Go.RowKit
set_option linter.unusedVariables false
set_option linter.unusedSimpArgs false

def mvB (x y : Edt) : Bool := (decide (x.act = 5) && decide (y.act = 4) && decide (y.frm = x.path)) || (decide (x.act = 4) && decide (y.act = 5) && decide (y.path = x.frm))
set_option maxRecDepth 100000 in
set_option maxHeartbeats 4000000 in
theorem movedR5 (ops : Array Oper) (hops : Tryd.f44.body.bind (regAt 5) = some ops) (Q : Exit → Act → World → Prop) (g3 g7 : Nat) (x y : Edt) (V : World)
    (h3 : Blk V g3 48 [.string x.path, .int .i64 x.act, .int .i64 x.ty.base, .bool x.ty.k, .bool x.ty.l, .bool x.ty.x, .int .u64 x.sum, .int .i64 x.size, .int .i64 x.base, .string x.frm, .int .i64 x.fnum, .int .i64 x.fence]) (h7 : Blk V g7 48 [.string y.path, .int .i64 y.act, .int .i64 y.ty.base, .bool y.ty.k, .bool y.ty.l, .bool y.ty.x, .int .u64 y.sum, .int .i64 y.size, .int .i64 y.base, .string y.frm, .int .i64 y.fnum, .int .i64 y.fence])
    (u0 u1 u2 u4 u5 u6 u8 u9 u10 u11 u12 u13 u14 u15 u16 u17 u18 u19 u20 u21 u22 u23 u24 u25 u26 u27 u28 u29 u30 u31 u32 u33 u34 u35 u36 u37 u38 u39 u40 u41 u42 u43 u44 u45 u46 u47 u48 u49 u50 u51 u52 u53 u54 u55 u56 u57 u58 u59 u60 u61 : Value)
    (hQ : ∀ (t15 t16 t17 t18 t19 t20 t21 t22 t23 t24 t25 t26 t27 t28 t29 t30 t31 t32 t33 t34 t35 t36 t37 t38 t39 t40 t41 t42 t43 t44 t45 : Value), Q .normal ⟨#[u0, u1, u2, .pointer (some ⟨g3, 0, none⟩), u4, u5, u6, .pointer (some ⟨g7, 0, none⟩), u8, u9, u10, u11, u12, u13, u14, t15, t16, t17, t18, t19, t20, t21, t22, t23, t24, t25, t26, t27, t28, t29, t30, t31, t32, t33, t34, t35, t36, t37, t38, t39, t40, t41, t42, t43, t44, t45, .bool (mvB x y), u47, u48, u49, u50, u51, u52, u53, u54, u55, u56, u57, u58, u59, u60, u61], []⟩ V) :
    (Code.region 5 ops false).wp Tryd.prog Q ⟨#[u0, u1, u2, .pointer (some ⟨g3, 0, none⟩), u4, u5, u6, .pointer (some ⟨g7, 0, none⟩), u8, u9, u10, u11, u12, u13, u14, u15, u16, u17, u18, u19, u20, u21, u22, u23, u24, u25, u26, u27, u28, u29, u30, u31, u32, u33, u34, u35, u36, u37, u38, u39, u40, u41, u42, u43, u44, u45, u46, u47, u48, u49, u50, u51, u52, u53, u54, u55, u56, u57, u58, u59, u60, u61], []⟩ V := by
  simp only [Tryd.f44, Option.bind_some, regAt] at hops
  simp at hops
  subst hops
  have HQ := Lib.hid hQ
  clear hQ
  obtain ⟨a0, a1, a2, a3, a4, a5, a6, a7, a8, a9, a10, a11⟩ := box12 h3
  obtain ⟨b0, b1, b2, b3, b4, b5, b6, b7, b8, b9, b10, b11⟩ := box12 h7
  have HE : Hid (mvB x y = ((decide (x.act = 5) && decide (y.act = 4) && decide (y.frm = x.path)) || (decide (x.act = 4) && decide (y.act = 5) && decide (y.path = x.frm)))) := Lib.hid rfl
  by_cases c5 : x.act = 5
  · have q5 : (x.act == 5) = true := by simpa using c5
    have q4 : (x.act == 4) = false := by rw [c5]; rfl
    by_cases y4 : y.act = 4
    · have r4 : (y.act == 4) = true := by simpa using y4
      have sq := str_eqB y.frm x.path
      by_cases yp : y.frm = x.path
      · rw [decide_eq_true yp] at sq
        have e : mvB x y = true := by rw [HE.out]; simp [c5, y4, yp]
        rw [e] at HQ
        clear c5 y4 yp e
        go_wp2_with fail
        exact HQ.out ..
      · rw [decide_eq_false yp] at sq
        have e : mvB x y = false := by rw [HE.out]; simp [c5, y4, yp]
        rw [e] at HQ
        clear c5 y4 yp e
        go_wp2_with fail
        exact HQ.out ..
    · have r4 : (y.act == 4) = false := by simpa using y4
      have e : mvB x y = false := by rw [HE.out]; simp [c5, y4]
      rw [e] at HQ
      clear c5 y4 e
      go_wp2_with fail
      exact HQ.out ..
  · have q5 : (x.act == 5) = false := by simpa using c5
    by_cases c4 : x.act = 4
    · have q4 : (x.act == 4) = true := by simpa using c4
      by_cases y5 : y.act = 5
      · have r5 : (y.act == 5) = true := by simpa using y5
        have sq := str_eqB y.path x.frm
        by_cases yp : y.path = x.frm
        · rw [decide_eq_true yp] at sq
          have e : mvB x y = true := by rw [HE.out]; simp [c5, c4, y5, yp]
          rw [e] at HQ
          clear c5 c4 y5 yp e
          go_wp2_with fail
          exact HQ.out ..
        · rw [decide_eq_false yp] at sq
          have e : mvB x y = false := by rw [HE.out]; simp [c5, c4, y5, yp]
          rw [e] at HQ
          clear c5 c4 y5 yp e
          go_wp2_with fail
          exact HQ.out ..
      · have r5 : (y.act == 5) = false := by simpa using y5
        have e : mvB x y = false := by rw [HE.out]; simp [c5, c4, y5]
        rw [e] at HQ
        clear c5 c4 y5 e
        go_wp2_with fail
        exact HQ.out ..
    · have q4 : (x.act == 4) = false := by simpa using c4
      have e : mvB x y = false := by rw [HE.out]; simp [c5, c4]
      rw [e] at HQ
      clear c5 c4 e
      go_wp2_with fail
      exact HQ.out ..
theorem movedN_next (es : List Edt) (x : Edt) (k : Nat) (h : k < es.length) : movedN (es.take (k + 1)) x = movedN (es.take k) x + (if mvB x es[k] then 1 else 0) := by
  unfold movedN
  rw [List.take_succ_eq_append_getElem h, List.countP_append, List.countP_cons, List.countP_nil, Nat.zero_add]
  rfl
theorem movedN_le (es : List Edt) (x : Edt) (k : Nat) : movedN (es.take k) x ≤ k := by
  unfold movedN
  have := List.countP_le_length (p := fun y : Edt => (decide (x.act = 5) && decide (y.act = 4) && decide (y.frm = x.path)) || (decide (x.act = 4) && decide (y.act = 5) && decide (y.path = x.frm))) (l := es.take k)
  rw [List.length_take] at this
  omega
set_option maxRecDepth 100000 in
set_option maxHeartbeats 4000000 in
theorem refMoved_any (es : List Edt) (num : Int) (cl tx : ByteArray) (Ae Ac : Option Addr) (nc ce cc : Nat) (x : Edt) (w : World) (hE : Edts w (.slice Ae es.length ce) es) (hl : es.length ≤ 100000) :
    Calls Tryd.prog 44 #[.agg #[.int .i64 num, .string cl, .string tx, .slice Ae es.length ce, .slice Ac nc cc], .agg #[.string x.path, .int .i64 x.act, .int .i64 x.ty.base, .bool x.ty.k, .bool x.ty.l, .bool x.ty.x, .int .u64 x.sum, .int .i64 x.size, .int .i64 x.base, .string x.frm, .int .i64 x.fnum, .int .i64 x.fence]] w fun e w' => e = .returned (.bool (movedB es x)) ∧ Below w.heap.size w w' := by
  have HE := Lib.hid hE
  clear hE
  have hb0 : Below w.heap.size w ((w.alloc (.cells #[.int .i64 num, .string cl, .string tx, .slice Ae es.length ce, .slice Ac nc cc] 26)).alloc (.cells #[.string x.path, .int .i64 x.act, .int .i64 x.ty.base, .bool x.ty.k, .bool x.ty.l, .bool x.ty.x, .int .u64 x.sum, .int .i64 x.size, .int .i64 x.base, .string x.frm, .int .i64 x.fnum, .int .i64 x.fence] 48)) := ((Below.refl _ _).alloc (Nat.le_refl _) _).alloc (by simp) _
  have hV : Blk ((w.alloc (.cells #[.int .i64 num, .string cl, .string tx, .slice Ae es.length ce, .slice Ac nc cc] 26)).alloc (.cells #[.string x.path, .int .i64 x.act, .int .i64 x.ty.base, .bool x.ty.k, .bool x.ty.l, .bool x.ty.x, .int .u64 x.sum, .int .i64 x.size, .int .i64 x.base, .string x.frm, .int .i64 x.fnum, .int .i64 x.fence] 48)) (w.heap.size + 1) 48 [.string x.path, .int .i64 x.act, .int .i64 x.ty.base, .bool x.ty.k, .bool x.ty.l, .bool x.ty.x, .int .u64 x.sum, .int .i64 x.size, .int .i64 x.base, .string x.frm, .int .i64 x.fnum, .int .i64 x.fence] := by
    have h1 := blk_new (w.alloc (.cells #[.int .i64 num, .string cl, .string tx, .slice Ae es.length ce, .slice Ac nc cc] 26)) [.string x.path, .int .i64 x.act, .int .i64 x.ty.base, .bool x.ty.k, .bool x.ty.l, .bool x.ty.x, .int .u64 x.sum, .int .i64 x.size, .int .i64 x.base, .string x.frm, .int .i64 x.fnum, .int .i64 x.fence] 48
    simp only [World.size_alloc] at h1
    exact h1
  have hB : Blk ((w.alloc (.cells #[.int .i64 num, .string cl, .string tx, .slice Ae es.length ce, .slice Ac nc cc] 26)).alloc (.cells #[.string x.path, .int .i64 x.act, .int .i64 x.ty.base, .bool x.ty.k, .bool x.ty.l, .bool x.ty.x, .int .u64 x.sum, .int .i64 x.size, .int .i64 x.base, .string x.frm, .int .i64 x.fnum, .int .i64 x.fence] 48)) w.heap.size 26 [.int .i64 num, .string cl, .string tx, .slice Ae es.length ce, .slice Ac nc cc] := (blk_new w _ _).alloc _
  go_enter Tryd.func44, Tryd.ntmps44
  go_upto_region 1 with fail
  generalize (w.alloc (.cells #[.int .i64 num, .string cl, .string tx, .slice Ae es.length ce, .slice Ac nc cc] 26)).alloc (.cells #[.string x.path, .int .i64 x.act, .int .i64 x.ty.base, .bool x.ty.k, .bool x.ty.l, .bool x.ty.x, .int .u64 x.sum, .int .i64 x.size, .int .i64 x.base, .string x.frm, .int .i64 x.fnum, .int .i64 x.fence] 48) = W1 at hb0 hV hB ⊢
  obtain ⟨d0, d1, d2, d3, d4⟩ := box5 hB
  have HV := Lib.hid hV
  have Hb0 := Lib.hid hb0
  clear hb0 hV hB
  go_wp2_with fail
  clear d0 d1 d2 d3 d4
  go_loopw [5, 11] (fun n s wr => ∃ k : Nat, s = .int .i64 k ∧ n = .int .i64 (movedN (es.take k) x) ∧ k ≤ es.length ∧ Hid (Below W1.heap.size W1 wr)) (fun _ s _ => es.length - (intOf s).toNat)
  case atStart => exact ⟨0, rfl, by rw [List.take_zero]; rfl, Nat.zero_le _, Below.refl _ _⟩
  case round =>
    obtain ⟨k, rfl, rfl, hk, HI⟩ := hrel
    by_cases hlt : k < es.length
    · obtain ⟨ad, rfl, hab, hld⟩ := Edts.at_ (HE.out.below (below_next Hb0.out HI.out)) hlt
      have HN := Lib.hid (movedN_next es x k hlt)
      have hle := movedN_le es x k
      generalize es[k] = y at hld HN
      obtain ⟨x0, x1, x2, x3, x4, x5, x6, x7, x8, x9, x10, x11⟩ := hld
      have hY := blk_new wr [.string y.path, .int .i64 y.act, .int .i64 y.ty.base, .bool y.ty.k, .bool y.ty.l, .bool y.ty.x, .int .u64 y.sum, .int .i64 y.size, .int .i64 y.base, .string y.frm, .int .i64 y.fnum, .int .i64 y.fence] 48
      have hA1 := HI.out.alloc HI.out.size (.cells #[.string y.path, .int .i64 y.act, .int .i64 y.ty.base, .bool y.ty.k, .bool y.ty.l, .bool y.ty.x, .int .u64 y.sum, .int .i64 y.size, .int .i64 y.base, .string y.frm, .int .i64 y.fnum, .int .i64 y.fence] 48)
      go_upto_region 5 with fail
      clear x0 x1 x2 x3 x4 x5 x6 x7 x8 x9 x10 x11
      generalize wr.alloc (.cells #[.string y.path, .int .i64 y.act, .int .i64 y.ty.base, .bool y.ty.k, .bool y.ty.l, .bool y.ty.x, .int .u64 y.sum, .int .i64 y.size, .int .i64 y.base, .string y.frm, .int .i64 y.fnum, .int .i64 y.fence] 48) = V1 at hY hA1 ⊢
      generalize wr.heap.size = g7 at hY ⊢
      have HA1 := Lib.hid hA1
      have HY := Lib.hid hY
      clear hY hA1
      refine movedR5 _ (by kernel_rfl) _ (w.heap.size + 1) g7 x y V1 (HV.out.below HA1.out HV.out.lt) HY.out _ _ _ _ _ _ _ _ _ _ _ _ _ _ _ _ _ _ _ _ _ _ _ _ _ _ _ _ _ _ _ _ _ _ _ _ _ _ _ _ _ _ _ _ _ _ _ _ _ _ _ _ _ _ _ _ _ _ _ _ ?_
      intro t15 t16 t17 t18 t19 t20 t21 t22 t23 t24 t25 t26 t27 t28 t29 t30 t31 t32 t33 t34 t35 t36 t37 t38 t39 t40 t41 t42 t43 t44 t45
      cases hm : mvB x y
      · rw [hm] at HN
        clear hm
        go_wp2_with fail
        go_roundw
        case rel => exact ⟨k + 1, by go_num, by rw [HN.out]; simp, by omega, HA1.out⟩
        case measure => simp [intOf]; omega
      · rw [hm] at HN
        clear hm
        go_wp2_with fail
        go_roundw
        case rel => exact ⟨k + 1, by go_num, by rw [HN.out]; simp, by omega, HA1.out⟩
        case measure => simp [intOf]; omega
    · have hke : k = es.length := by omega
      subst hke
      obtain ⟨a0, a1, a2, a3, a4, a5, a6, a7, a8, a9, a10, a11⟩ := box12 (HV.out.below HI.out HV.out.lt)
      have HMB : Hid (movedB es x = (decide (movedN es x = 1) || (decide (x.act ≠ 5) && decide (x.act ≠ 4)))) := Lib.hid rfl
      have HB := Lib.hid (below_next Hb0.out HI.out)
      rw [List.take_length]
      generalize movedN es x = m at HMB ⊢
      by_cases h1 : m = 1
      · have HV : Hid (movedB es x = true) := Lib.hid (by rw [HMB.out]; simp [h1])
        subst h1
        go_wp2_with fail
        go_ret
        exact ⟨ret_bool HV.out.symm, HB.out⟩
      · have q1 : ((m : Int) == 1) = false := by simp; omega
        by_cases h5 : x.act = 5
        · have q5 : (x.act != 5) = false := by simpa using h5
          have HV : Hid (movedB es x = false) := Lib.hid (by rw [HMB.out]; simp [h1, h5])
          clear h1 h5
          go_wp2_with fail
          go_ret
          exact ⟨ret_bool HV.out.symm, HB.out⟩
        · have q5 : (x.act != 5) = true := by simpa using h5
          by_cases h4 : x.act = 4
          · have q4 : (x.act != 4) = false := by simpa using h4
            have HV : Hid (movedB es x = false) := Lib.hid (by rw [HMB.out]; simp [h1, h5, h4])
            clear h1 h5 h4
            go_wp2_with fail
            go_ret
            exact ⟨ret_bool HV.out.symm, HB.out⟩
          · have q4 : (x.act != 4) = true := by simpa using h4
            have HV : Hid (movedB es x = true) := Lib.hid (by rw [HMB.out]; simp [h1, h5, h4])
            clear h1 h5 h4
            go_wp2_with fail
            go_ret
            exact ⟨ret_bool HV.out.symm, HB.out⟩
end Go.Proofs.YtmhmnchdhacdbaaDoor
/- The reference's examination of an edit, from the type on. -/
namespace Go.Proofs.YtmhmnchdhacdbaaDoor
open Go.RowKit
set_option linter.unusedVariables false
set_option linter.unusedSimpArgs false

def typV (f : ByteArray → Option Rev) (x : Edt) : Int := if typeE f x = false then 116 else 0
set_option maxRecDepth 100000 in
set_option maxHeartbeats 8000000 in
theorem edT18 (T : Code) (hT : Tryd.f43.body.bind (tailAt 18) = some T) (R : Ending → World → Prop) (revs : List Rev) (c : Chg) (x : Edt) (Ar Ae Ac : Option Addr) (dr : Value) (cr ce cc g3 g4 g7 : Nat) (w4 : World)
    (hR : Revs w4 (.slice Ar revs.length cr) revs) (hl : revs.length ≤ 100000) (hlog : ∀ p, LogOk revs p) (hbs : 0 ≤ x.base ∧ x.base ≤ 1000000)
    (hD : Blk w4 g3 31 [.slice Ar revs.length cr, dr]) (hC : Blk w4 g4 26 [.int .i64 c.num, .string c.client, .string c.text, .slice Ae c.edits.length ce, .slice Ac c.recs.length cc]) (hX : Blk w4 g7 48 [.string x.path, .int .i64 x.act, .int .i64 x.ty.base, .bool x.ty.k, .bool x.ty.l, .bool x.ty.x, .int .u64 x.sum, .int .i64 x.size, .int .i64 x.base, .string x.frm, .int .i64 x.fnum, .int .i64 x.fence])
    (hRR : ∀ (n : Int) (w' : World), n = typV (lastOf revs) x → Below w4.heap.size w4 w' → R (.returned (.int .i64 n)) w')
    (u0 u1 u2 u5 u6 u8 u9 u10 u11 u12 u13 u14 u15 u16 u17 u18 u19 u20 u21 u22 u23 u24 u25 u26 u27 u28 u29 u30 u31 u32 u33 u34 u35 u36 u37 u38 u39 u40 u41 u42 u43 u44 u45 u46 u47 u48 u49 u50 u51 u52 u53 u54 u55 u56 u57 u58 u59 u60 u61 u62 u63 u64 u65 u66 u67 u68 u69 u70 u71 u72 u73 u74 u75 u76 u77 u78 u79 u80 u81 u82 u83 u84 u85 u86 u87 u88 u89 u90 u91 u92 u93 u94 u95 u96 u97 u98 u99 u100 u101 u102 u103 u104 u105 u106 u107 u108 u109 u110 u111 u112 u113 u114 u115 u116 u117 u118 u119 u120 u121 u122 u123 u124 u125 u126 u127 u128 u129 u130 u131 u132 u133 u134 u135 u136 u137 u138 u139 u140 u141 u142 u143 u144 u145 u146 u147 : Value) :
    T.wp Tryd.prog (bodyPost Tryd.prog Tryd.f43 R) ⟨#[u0, u1, u2, .pointer (some ⟨g3, 0, none⟩), .pointer (some ⟨g4, 0, none⟩), u5, u6, .pointer (some ⟨g7, 0, none⟩), u8, u9, u10, u11, u12, u13, u14, u15, u16, u17, u18, u19, u20, u21, u22, u23, u24, u25, u26, u27, u28, u29, u30, u31, u32, u33, u34, u35, u36, u37, u38, u39, u40, u41, u42, u43, u44, u45, u46, u47, u48, u49, u50, u51, u52, u53, u54, u55, u56, u57, u58, u59, u60, u61, u62, u63, u64, u65, u66, u67, u68, u69, u70, u71, u72, u73, u74, u75, u76, u77, u78, u79, u80, u81, u82, u83, u84, u85, u86, u87, u88, u89, u90, u91, u92, u93, u94, u95, u96, u97, u98, u99, u100, u101, u102, u103, u104, u105, u106, u107, u108, u109, u110, u111, u112, u113, u114, u115, u116, u117, u118, u119, u120, u121, u122, u123, u124, u125, u126, u127, u128, u129, u130, u131, u132, u133, u134, u135, u136, u137, u138, u139, u140, u141, u142, u143, u144, u145, u146, u147], []⟩ w4 := by
  simp only [Tryd.f43, Option.bind_some, tailAt, hasReg] at hT
  simp at hT
  subst hT
  have HRR := Lib.hid hRR
  have HR := Lib.hid hR
  have HLR := Lib.hid (fun p => someR_last hlog p)
  have HBS := Lib.hid hbs
  have HX4 := Lib.hid hX
  have HD4 := Lib.hid hD
  have HC4 := Lib.hid hC
  have HLAST := Lib.hid (fun p X (hX : Below w4.heap.size w4 X) => refLast_any revs p (.slice Ar revs.length cr) dr X (HR.out.below hX) (by omega))
  clear hRR hR hlog hbs hD hC hX
  generalize lastOf revs = f at HRR HLR ⊢
  obtain ⟨c0, c1, c2, c3, c4, c5, c6, c7, c8, c9, c10, c11⟩ := box12 HX4.out
  have HCK := Lib.hid (fun X => refCheck_any x.ty.base x.ty.k x.ty.l x.ty.x X)
  cases htk : tyOk x.ty.base x.ty.k x.ty.x with
  | false =>
    rw [htk] at HCK
    have HF : Hid (116 = typV f x) := Lib.hid (by unfold typV typeE Ty.ok; rw [htk]; rfl)
    clear htk
    go_wp2_with fail
    refine (HCK.out _).mono ?_
    rintro e w5 ⟨rfl, hb5⟩
    have HB5 := Lib.hid hb5
    clear hb5
    go_wp2_with fail
    exact HRR.out _ _ HF.out (HB5.out)
  | true =>
    rw [htk] at HCK
    have HTK := Lib.hid htk
    clear htk
    go_wp2_with fail
    refine (HCK.out _).mono ?_
    rintro e w5 ⟨rfl, hb5⟩
    have HW5 := Lib.hid hb5
    have HX5 := Lib.hid (HX4.out.below hb5 HX4.out.lt)
    have HD5 := Lib.hid (HD4.out.below hb5 HD4.out.lt)
    have HC5 := Lib.hid (HC4.out.below hb5 HC4.out.lt)
    clear hb5 c0 c1 c2 c3 c4 c5 c6 c7 c8 c9 c10 c11
    obtain ⟨c0, c1, c2, c3, c4, c5, c6, c7, c8, c9, c10, c11⟩ := box12 HX5.out
    by_cases hz : x.size < 0
    · have q : decide (x.size < 0) = true := by simp; omega
      have HF : Hid (116 = typV f x) := Lib.hid (by unfold typV typeE; rw [show decide (0 ≤ x.size) = false by simp; omega]; simp)
      clear hz
      go_wp2_with fail
      exact HRR.out _ _ HF.out (HW5.out)
    · have q : decide (x.size < 0) = false := by simp; omega
      have HO4 : Hid ((typV f x) = if (liveA x.act || (decide (x.ty = (lastR f x.path).ty) && (decide (x.sum = 0) && decide (x.size = 0)))) = false then 116 else 0) := Lib.hid (by
        unfold typV; rw [typeE_eq]; unfold Ty.ok; rw [HTK.out, show decide (0 ≤ x.size) = true by simp; omega]; rfl)
      clear hz
      obtain ⟨d0, d1, -, -⟩ := box2 HD5.out
      have HL2 := Lib.hid (HLAST.out x.path w5 HW5.out)
      go_wp2_with fail
      refine HL2.out.mono ?_
      rintro e w6 ⟨rfl, hb6⟩
      rw [HLR.out x.path]
      generalize lastR f x.path = r at HO4 ⊢
      generalize (rLast revs x.path).isSome = okb
      have hY := blk_new w6 [.string r.path, .int .i64 r.num, .int .i64 r.chg, .int .i64 r.act, .int .i64 r.ty.base, .bool r.ty.k, .bool r.ty.l, .bool r.ty.x, .int .u64 r.sum, .int .i64 r.size, .string r.frm, .int .i64 r.fnum] 45
      have hA6 : Below w5.heap.size w5 (w6.alloc (.cells #[.string r.path, .int .i64 r.num, .int .i64 r.chg, .int .i64 r.act, .int .i64 r.ty.base, .bool r.ty.k, .bool r.ty.l, .bool r.ty.x, .int .u64 r.sum, .int .i64 r.size, .string r.frm, .int .i64 r.fnum] 45)) := below_alloc' hb6 _
      clear hb6 c0 c1 c2 c3 c4 c5 c6 c7 c8 c9 c10 c11 d0 d1
      go_upto_region 21 with fail
      generalize w6.alloc (.cells #[.string r.path, .int .i64 r.num, .int .i64 r.chg, .int .i64 r.act, .int .i64 r.ty.base, .bool r.ty.k, .bool r.ty.l, .bool r.ty.x, .int .u64 r.sum, .int .i64 r.size, .string r.frm, .int .i64 r.fnum] 45) = w7 at hY hA6 ⊢
      generalize w6.heap.size = g14 at hY ⊢
      have HX7 := Lib.hid (HX5.out.below hA6 HX5.out.lt)
      have HC7 := Lib.hid (HC5.out.below hA6 HC5.out.lt)
      have HY := Lib.hid hY
      have HW7 := Lib.hid (below_next HW5.out hA6)
      clear hY hA6
      obtain ⟨c0, c1, c2, c3, c4, c5, c6, c7, c8, c9, c10, c11⟩ := box12 HX7.out
      obtain ⟨k0, k1, k2, k3, k4⟩ := box5 HC7.out
      have HMD := Lib.hid (refMade_any c.num c.client c.text Ae Ac c.edits.length c.recs.length ce cc x w7 HBS.out)
      go_wp2_with fail
      refine HMD.out.mono ?_
      rintro e w8 ⟨rfl, hb8⟩
      have HB8 := Lib.hid hb8
      clear hb8 c0 c1 c2 c3 c4 c5 c6 c7 c8 c9 c10 c11 k0 k1 k2 k3 k4
      have HGO := Lib.hid (refGone_any (madeX c.num x) w8)
      go_wp2_with fail
      refine HGO.out.mono ?_
      rintro e w9 ⟨rfl, hb9⟩
      have HB9 := Lib.hid (below_next HB8.out hb9)
      clear hb9
      obtain ⟨c0, c1, c2, c3, c4, c5, c6, c7, c8, c9, c10, c11⟩ := box12 (HX7.out.below HB9.out HX7.out.lt)
      obtain ⟨b0, b1, b2, b3, b4, b5, b6, b7, b8, b9, b10, b11⟩ := box12 (HY.out.below HB9.out HY.out.lt)
      have hact : (madeX c.num x).act = x.act := rfl
      rw [hact]
      clear hact
      have hty := run_neq_ty x.ty r.ty
      have hcn := run_neq_con x.sum x.size 0 0
      generalize (decide (x.sum = 0) && decide (x.size = 0)) = bc at hcn HO4
      generalize decide (x.ty = r.ty) = bt at hty HO4
      cases hlv : liveA x.act with
      | true =>
        have HF : Hid (0 = typV f x) := Lib.hid (by rw [HO4.out, hlv]; rfl)
        clear hlv
        go_wp2_with fail
        exact HRR.out _ _ HF.out (below_next HW7.out HB9.out)
      | false =>
        rw [hlv] at HO4
        clear hlv
        cases bt with
        | false =>
          go_wp2_with fail
          exact HRR.out _ _ HO4.out.symm (below_next HW7.out HB9.out)
        | true =>
          cases bc with
          | false =>
            go_wp2_with fail
            exact HRR.out _ _ HO4.out.symm (below_next HW7.out HB9.out)
          | true =>
            go_wp2_with fail
            exact HRR.out _ _ HO4.out.symm (below_next HW7.out HB9.out)
end Go.Proofs.YtmhmnchdhacdbaaDoor
/- The reference's examination of an edit, from the action on. -/
namespace Go.Proofs.YtmhmnchdhacdbaaDoor
open Go.RowKit
set_option linter.unusedVariables false
set_option linter.unusedSimpArgs false

set_option maxRecDepth 100000 in
set_option maxHeartbeats 8000000 in
theorem edT8 (T : Code) (hT : Tryd.f43.body.bind (tailAt 8) = some T) (R : Ending → World → Prop) (revs : List Rev) (c : Chg) (x : Edt) (Ar Ae Ac : Option Addr) (dr : Value) (cr ce cc g3 g4 g7 : Nat) (w3 : World)
    (hR : Revs w3 (.slice Ar revs.length cr) revs) (hl : revs.length ≤ 100000) (hlog : ∀ p, LogOk revs p)
    (hD : Blk w3 g3 31 [.slice Ar revs.length cr, dr]) (hC : Blk w3 g4 26 [.int .i64 c.num, .string c.client, .string c.text, .slice Ae c.edits.length ce, .slice Ac c.recs.length cc]) (hX : Blk w3 g7 48 [.string x.path, .int .i64 x.act, .int .i64 x.ty.base, .bool x.ty.k, .bool x.ty.l, .bool x.ty.x, .int .u64 x.sum, .int .i64 x.size, .int .i64 x.base, .string x.frm, .int .i64 x.fnum, .int .i64 x.fence])
    (hRR : ∀ (n : Int) (w' : World), n = oneE (lastOf revs) x → Below w3.heap.size w3 w' → R (.returned (.int .i64 n)) w')
    (u0 u1 u2 u5 u6 u8 u9 u12 u13 u14 u15 u16 u17 u18 u19 u20 u21 u22 u23 u24 u25 u26 u27 u28 u29 u30 u31 u32 u33 u34 u35 u36 u37 u38 u39 u40 u41 u42 u43 u44 u45 u46 u47 u48 u49 u50 u51 u52 u53 u54 u55 u56 u57 u58 u59 u60 u61 u62 u63 u64 u65 u66 u67 u68 u69 u70 u71 u72 u73 u74 u75 u76 u77 u78 u79 u80 u81 u82 u83 u84 u85 u86 u87 u88 u89 u90 u91 u92 u93 u94 u95 u96 u97 u98 u99 u100 u101 u102 u103 u104 u105 u106 u107 u108 u109 u110 u111 u112 u113 u114 u115 u116 u117 u118 u119 u120 u121 u122 u123 u124 u125 u126 u127 u128 u129 u130 u131 u132 u133 u134 u135 u136 u137 u138 u139 u140 u141 u142 u143 u144 u145 u146 u147 : Value) (lv : Bool) (ln : Int) (hlv : lv = isLast (lastOf revs) x.path) (hln : ln = (lastR (lastOf revs) x.path).num) :
    T.wp Tryd.prog (bodyPost Tryd.prog Tryd.f43 R) ⟨#[u0, u1, u2, .pointer (some ⟨g3, 0, none⟩), .pointer (some ⟨g4, 0, none⟩), u5, u6, .pointer (some ⟨g7, 0, none⟩), u8, u9, .bool lv, .int .i64 ln, u12, u13, u14, u15, u16, u17, u18, u19, u20, u21, u22, u23, u24, u25, u26, u27, u28, u29, u30, u31, u32, u33, u34, u35, u36, u37, u38, u39, u40, u41, u42, u43, u44, u45, u46, u47, u48, u49, u50, u51, u52, u53, u54, u55, u56, u57, u58, u59, u60, u61, u62, u63, u64, u65, u66, u67, u68, u69, u70, u71, u72, u73, u74, u75, u76, u77, u78, u79, u80, u81, u82, u83, u84, u85, u86, u87, u88, u89, u90, u91, u92, u93, u94, u95, u96, u97, u98, u99, u100, u101, u102, u103, u104, u105, u106, u107, u108, u109, u110, u111, u112, u113, u114, u115, u116, u117, u118, u119, u120, u121, u122, u123, u124, u125, u126, u127, u128, u129, u130, u131, u132, u133, u134, u135, u136, u137, u138, u139, u140, u141, u142, u143, u144, u145, u146, u147], []⟩ w3 := by
  simp only [Tryd.f43, Option.bind_some, tailAt, hasReg] at hT
  simp at hT
  subst hT
  have HRR := Lib.hid hRR
  have HR := Lib.hid hR
  have HLOG := Lib.hid hlog
  have HLB := Lib.hid (fun p => rLiveB_last hlog p)
  have HLR := Lib.hid (fun p => someR_last hlog p)
  have HBN : Hid (0 ≤ (lastR (lastOf revs) x.path).num ∧ (lastR (lastOf revs) x.path).num ≤ 1000000) := Lib.hid (by
    have h := hlog x.path
    unfold lastR
    rw [h.last, List.getLast?_eq_getElem?]
    by_cases h0 : (logOf revs x.path).length = 0
    · rw [h0, List.getElem?_eq_none (by omega)]; simp [zeroRev]
    · rw [List.getElem?_eq_getElem (by omega)]
      simp only [Option.getD_some]
      rw [h.num]
      have := log_len revs x.path
      omega)
  have HX3 := Lib.hid hX
  have HD3 := Lib.hid hD
  have HC3 := Lib.hid hC
  have HLIVE := Lib.hid (fun p X (hX : Below w3.heap.size w3 X) => refLive_any revs p (.slice Ar revs.length cr) dr X (HR.out.below hX) (by omega))
  have HT18 := Lib.hid (fun T hT R W hR hbs hD hC hX hRR => edT18 T hT R revs c x Ar Ae Ac dr cr ce cc g3 g4 g7 W hR hl HLOG.out hbs hD hC hX hRR)
  have HIL := Lib.hid hlv
  have HLN := Lib.hid hln
  clear hRR hR hlog hD hC hX hlv hln
  generalize lastOf revs = f at HRR HLR HLB HBN HIL HLN HT18 ⊢
  obtain ⟨c0, c1, c2, c3, c4, c5, c6, c7, c8, c9, c10, c11⟩ := box12 HX3.out
  dsimp only
  go_upto_region 8 with fail
  go_cut [76] (fun v wx => ∃ bb, v = .bool bb ∧ Hid (wx = w3 ∧ (bb = true → actE f x ≠ 0) ∧ (bb = false → actE f x = 0)))
  case first =>
    by_cases hlt1 : x.act < 1
    case pos =>
      have q : decide (x.act < 1) = true := by simp; omega
      have HF : Hid (actE f x ≠ 0) := Lib.hid (act_bad1 (.inl hlt1))
      clear hlt1
      go_wp2_with fail
      go_meet
      exact ⟨true, rfl, rfl, fun _ => HF.out, fun h => by cases h⟩
    have dlt : decide (x.act < 1) = false := by simp; omega
    by_cases hgt5 : 5 < x.act
    case pos =>
      have q : decide (5 < x.act) = true := by simp; omega
      have HF : Hid (actE f x ≠ 0) := Lib.hid (act_bad1 (.inr hgt5))
      clear hlt1 hgt5
      go_wp2_with fail
      go_meet
      exact ⟨true, rfl, rfl, fun _ => HF.out, fun h => by cases h⟩
    have dgt : decide (5 < x.act) = false := by simp; omega
    have HR5 : Hid (1 ≤ x.act ∧ x.act ≤ 5) := Lib.hid ⟨by omega, by omega⟩
    clear hlt1 hgt5
    rcases add_cases x.act with ⟨q1, q4, qa⟩ | ⟨q1, q4, qa⟩ | ⟨q1, q4, qa⟩
    all_goals
      have HQA := Lib.hid qa
      clear qa
      cases lv
      all_goals
        go_wp2_with fail
        go_meet
        first
          | exact ⟨true, rfl, rfl, fun _ => act_bad2 (by rw [HQA.out, ← HIL.out]), fun h => by cases h⟩
          | exact ⟨false, rfl, rfl, fun h => (by cases h), fun _ => act_good HR5.out (by rw [HQA.out, ← HIL.out]; rfl)⟩
  case rest =>
    obtain ⟨bb, rfl, HBB⟩ := hcut
    obtain rfl : wc = w3 := HBB.out.1
    cases bb with
    | true =>
      have HF : Hid (113 = oneE f x) := Lib.hid (one113 (HBB.out.2.1 rfl)).symm
      clear HBB
      go_wp2_with fail
      exact HRR.out _ _ HF.out (Below.refl _ _)
    | false =>
      have HO1 : Hid (oneE f x = if x.base ≠ (lastR f x.path).num then 114 else if fromE f x = false then 115 else if typeE f x = false then 116 else 0) := Lib.hid (oneE_of (HBB.out.2.2 rfl))
      clear HBB
      by_cases hbb : x.base = ln
      case neg =>
        have qb : (x.base != ln) = true := by simpa using hbb
        have HF : Hid (114 = oneE f x) := Lib.hid (by rw [HO1.out, if_pos (by rw [← HLN.out]; exact hbb)])
        clear hbb
        go_wp2_with fail
        exact HRR.out _ _ HF.out (Below.refl _ _)
      have qb : (x.base != ln) = false := by simpa using hbb
      have HO2 : Hid (oneE f x = if fromE f x = false then 115 else if typeE f x = false then 116 else 0) := Lib.hid (by rw [HO1.out, if_neg (by rw [← HLN.out]; simp [hbb])])
      have HBS : Hid (0 ≤ x.base ∧ x.base ≤ 1000000) := Lib.hid (by rw [hbb, HLN.out]; exact HBN.out)
      clear hbb
      go_upto_if 83 with fail
      clear qb
      go_cut [] (fun wx => Hid (Below wc.heap.size wc wx ∧ fromE f x = true))
      case first =>
        by_cases h4 : x.act = 4
        · have q4 : (x.act == 4) = true := by simpa using h4
          have HN4 : Hid (x.act = 4) := Lib.hid h4
          clear h4
          obtain ⟨d0, d1, -, -⟩ := box2 HD3.out
          have HLV2 := Lib.hid (HLIVE.out x.frm wc (Below.refl _ _))
          go_wp2_with fail
          refine HLV2.out.mono ?_
          rintro e w4 ⟨rfl, hb4⟩
          rw [HLR.out x.frm]
          have HW4 := Lib.hid hb4
          have HX4 := Lib.hid (HX3.out.below hb4 HX3.out.lt)
          clear hb4 d0 d1 c0 c1 c2 c3 c4 c5 c6 c7 c8 c9 c10 c11
          obtain ⟨c0, c1, c2, c3, c4, c5, c6, c7, c8, c9, c10, c11⟩ := box12 HX4.out
          have HIL2 := Lib.hid (HLB.out x.frm)
          generalize rLiveB revs x.frm = lv2 at HIL2 ⊢
          cases lv2 with
          | false =>
            have HF : Hid (115 = oneE f x) := Lib.hid (by rw [HO2.out, fromE_4 HN4.out, ← HIL2.out]; rfl)
            go_wp2_with fail
            exact HRR.out _ _ HF.out HW4.out
          | true =>
            by_cases hfn : x.fnum = (lastR f x.frm).num
            case neg =>
              have qf : ((lastR f x.frm).num != x.fnum) = true := by simp; exact fun h => hfn h.symm
              have HF : Hid (115 = oneE f x) := Lib.hid (by rw [HO2.out, fromE_4 HN4.out]; simp [hfn])
              clear hfn
              go_wp2_with fail
              exact HRR.out _ _ HF.out HW4.out
            have qf : ((lastR f x.frm).num != x.fnum) = false := by simp [hfn]
            have sq := str_eqB x.frm x.path
            by_cases hfp : x.frm = x.path
            case pos =>
              rw [decide_eq_true hfp] at sq
              have HF : Hid (115 = oneE f x) := Lib.hid (by rw [HO2.out, fromE_4 HN4.out]; simp [hfp])
              clear hfp hfn
              go_wp2_with fail
              exact HRR.out _ _ HF.out HW4.out
            rw [decide_eq_false hfp] at sq
            have HFR : Hid (fromE f x = true) := Lib.hid (by rw [fromE_4 HN4.out, ← HIL2.out]; simp [hfp, hfn])
            clear hfp hfn
            go_wp2_with fail
            go_meet
            exact ⟨HW4.out, HFR.out⟩
        · have q4 : (x.act == 4) = false := by simpa using h4
          have HN4 : Hid (x.act ≠ 4) := Lib.hid h4
          clear h4
          by_cases hfr : x.frm = emptyS
          case neg =>
            have s1 := str_isE hfr
            have s2 := str_ne hfr
            have HF : Hid (115 = oneE f x) := Lib.hid (by rw [HO2.out, fromE_o HN4.out]; simp [hfr])
            clear hfr
            go_wp2_with fail
            exact HRR.out _ _ HF.out (Below.refl _ _)
          have s1 := str_empty hfr
          by_cases hfn : x.fnum = 0
          case neg =>
            have qf : (x.fnum != 0) = true := by simpa using hfn
            have HF : Hid (115 = oneE f x) := Lib.hid (by rw [HO2.out, fromE_o HN4.out]; simp [hfn])
            clear hfr hfn
            go_wp2_with fail
            exact HRR.out _ _ HF.out (Below.refl _ _)
          have qf : (x.fnum != 0) = false := by simpa using hfn
          have HFR : Hid (fromE f x = true) := Lib.hid (by rw [fromE_o HN4.out]; simp [hfr, hfn])
          clear hfr hfn
          go_wp2_with fail
          go_meet
          exact ⟨Below.refl _ _, HFR.out⟩
      case rest =>
        rename_i wc2
        have HW4 := Lib.hid hcut.out.1
        have HO3 : Hid (typV f x = oneE f x) := Lib.hid (by rw [HO2.out, hcut.out.2]; rfl)
        clear hcut
        have hk := ‹∀ (a : Act) (w : World), Code.wp _ _ _ a w → _›
        refine hk _ _ (HT18.out _ (by kernel_rfl) _ _ (HR.out.below HW4.out) HBS.out (HD3.out.below HW4.out HD3.out.lt) (HC3.out.below HW4.out HC3.out.lt) (HX3.out.below HW4.out HX3.out.lt) (fun n w' hn hb => HRR.out n w' (hn.trans HO3.out) (below_next HW4.out hb)) _ _ _ _ _ _ _ _ _ _ _ _ _ _ _ _ _ _ _ _ _ _ _ _ _ _ _ _ _ _ _ _ _ _ _ _ _ _ _ _ _ _ _ _ _ _ _ _ _ _ _ _ _ _ _ _ _ _ _ _ _ _ _ _ _ _ _ _ _ _ _ _ _ _ _ _ _ _ _ _ _ _ _ _ _ _ _ _ _ _ _ _ _ _ _ _ _ _ _ _ _ _ _ _ _ _ _ _ _ _ _ _ _ _ _ _ _ _ _ _ _ _ _ _ _ _ _ _ _ _ _ _ _ _ _ _ _ _ _ _ _ _ _ _ _)
end Go.Proofs.YtmhmnchdhacdbaaDoor
