/- The reference's record: the walk. -/
import Derived.Test.YtmhmnchdhacdbaaGreatDoorMgw7
import Derived.Test.YtmhmnchdhacdbaaGreatDoorMzRcJ
import Derived.Test.YtmhmnchdhacdbaaGreatDoorMgw3
import Derived.Test.YtmhmnchdhacdbaaGreatDoorMgw8
import Derived.Test.YtmhmnchdhacdbaaGreatDoorMgv0
import Derived.Deep.CutBlock
namespace Go.Proofs.YtmhmnchdhacdbaaGreatDoor
open Go.RowKit
set_option linter.unusedVariables false
set_option linter.unusedSimpArgs false

/-- What the reference says of a record of a change, its place among the others aside. -/
def rcFull (revs : List Rev) (c : Chg) (x : Rcd) : Bool := decide (1 ≤ x.how ∧ x.how ≤ 4) && rcVal revs c x (tgt c.edits x)
/-- What is said of the record ahead. -/
def befI (rs : List Rcd) (i : Nat) (x : Rcd) : Bool := decide (i = 0) || befF ((rs[i - 1]?).getD x) x
theorem befI_zero {rs : List Rcd} {x : Rcd} : befI rs 0 x = true := rfl
theorem befI_succ {rs : List Rcd} {x : Rcd} {j : Nat} (hj : j < rs.length) : befI rs (j + 1) x = befF rs[j] x := by
  unfold befI
  rw [Nat.add_sub_cancel, List.getElem?_eq_getElem hj]; simp
set_option maxRecDepth 100000 in
set_option maxHeartbeats 8000000 in
theorem refRecord_any (d : Dep) (c : Chg) (dv dr : Value) (Ae Ac : Option Addr) (ce cc i : Nat) (w : World) (he : Env w) (hR : Revs w dv d.revs) (hl : d.revs.length ≤ 100000) (hns : ∀ r ∈ d.revs, 0 ≤ r.num ∧ r.num ≤ 1000000)
    (hP : Edts w (.slice Ae c.edits.length ce) c.edits) (hQ : Rcds w (.slice Ac c.recs.length cc) c.recs) (hi : i < c.recs.length) (hlr : c.recs.length ≤ 100000) (hle : c.edits.length ≤ 100000)
    (hact : ∀ y ∈ c.edits, 1 ≤ y.act ∧ 0 ≤ y.base ∧ y.base ≤ 100000) (hsz : ∀ r ∈ c.recs, r.to.size ≤ 2000000 ∧ r.frm.size ≤ 2000000) :
    Calls Tryz.prog 89 #[.agg #[dv, dr], .agg #[.int .i64 c.num, .string c.client, .string c.text, .slice Ae c.edits.length ce, .slice Ac c.recs.length cc], .int .i64 i] w
      fun e w' => e = .returned (.bool (befI c.recs i c.recs[i] && rcFull d.revs c c.recs[i])) ∧ Below w.heap.size w w' := by
  obtain ⟨Ar, cr, rfl, -⟩ := id hR
  have HR := Lib.hid hR
  have HP := Lib.hid hP
  have HQ := Lib.hid hQ
  have HEN := Lib.hid he
  have HSZ := Lib.hid hsz
  have hb0 : Below w.heap.size w ((w.alloc (.cells #[.slice Ar d.revs.length cr, dr] 28)).alloc (.cells #[.int .i64 c.num, .string c.client, .string c.text, .slice Ae c.edits.length ce, .slice Ac c.recs.length cc] 56)) := ((Below.refl _ _).alloc (Nat.le_refl _) _).alloc (by simp) _
  have hC : Blk ((w.alloc (.cells #[.slice Ar d.revs.length cr, dr] 28)).alloc (.cells #[.int .i64 c.num, .string c.client, .string c.text, .slice Ae c.edits.length ce, .slice Ac c.recs.length cc] 56)) (w.heap.size + 1) 56 [.int .i64 c.num, .string c.client, .string c.text, .slice Ae c.edits.length ce, .slice Ac c.recs.length cc] := by
    have h1 := blk_new (w.alloc (.cells #[.slice Ar d.revs.length cr, dr] 28)) [.int .i64 c.num, .string c.client, .string c.text, .slice Ae c.edits.length ce, .slice Ac c.recs.length cc] 56
    simp only [World.size_alloc] at h1
    exact h1
  have hD : Blk ((w.alloc (.cells #[.slice Ar d.revs.length cr, dr] 28)).alloc (.cells #[.int .i64 c.num, .string c.client, .string c.text, .slice Ae c.edits.length ce, .slice Ac c.recs.length cc] 56)) w.heap.size 28 [.slice Ar d.revs.length cr, dr] := (blk_new w _ _).alloc _
  have hld0 := fun X (hX : Below w.heap.size w X) => Rcds.at_ (HQ.out.below hX) hi
  have HXM : Hid ((c.recs[i]).to.size ≤ 2000000 ∧ (c.recs[i]).frm.size ≤ 2000000) := Lib.hid (HSZ.out _ (List.getElem_mem hi))
  generalize c.recs[i] = x at hld0 HXM ⊢
  have HLD := Lib.hid hld0
  have HT4 := Lib.hid (fun T hT R g3 g4 g7 W hR hQ hP hD hC hX hRR => rcT4 T hT R d.revs c x Ar Ae Ac dr cr ce cc g3 g4 g7 W hR hl hns hQ hlr hP hle hact hD hC hX hRR)
  have HFUL : Hid (rcFull d.revs c x = (decide (1 ≤ x.how ∧ x.how ≤ 4) && rcVal d.revs c x (tgt c.edits x))) := Lib.hid rfl
  clear hR hP hQ he hsz hns hact hld0
  generalize rcFull d.revs c x = VF at HFUL ⊢
  generalize rcVal d.revs c x (tgt c.edits x) = V at HFUL HT4
  generalize hbi : befI c.recs i x = bi
  have HBI := Lib.hid hbi
  clear hbi
  go_enter Tryz.func89, Tryz.ntmps89
  go_upto_region 1 with fail
  generalize (w.alloc (.cells #[.slice Ar d.revs.length cr, dr] 28)).alloc (.cells #[.int .i64 c.num, .string c.client, .string c.text, .slice Ae c.edits.length ce, .slice Ac c.recs.length cc] 56) = W1 at hb0 hC hD ⊢
  obtain ⟨k0, k1, k2, k3, k4⟩ := box5 hC
  obtain ⟨ad, rfl, hab, hld⟩ := HLD.out _ hb0
  have hiz : (i : Int) < (c.recs.length : Int) := by omega
  obtain ⟨x0, x1, x2, x3, x4, x5⟩ := hld
  have hX := blk_new W1 [.string x.frm, .int .i64 x.first, .int .i64 x.last, .string x.to, .int .i64 x.num, .int .i64 x.how] 60
  have hA1 := hb0.alloc hb0.size (.cells #[.string x.frm, .int .i64 x.first, .int .i64 x.last, .string x.to, .int .i64 x.num, .int .i64 x.how] 60)
  have HC1 := Lib.hid (hC.alloc (.cells #[.string x.frm, .int .i64 x.first, .int .i64 x.last, .string x.to, .int .i64 x.num, .int .i64 x.how] 60))
  have HD1 := Lib.hid (hD.alloc (.cells #[.string x.frm, .int .i64 x.first, .int .i64 x.last, .string x.to, .int .i64 x.num, .int .i64 x.how] 60))
  go_upto_region 2 with fail
  clear x0 x1 x2 x3 x4 x5 k0 k1 k2 k3 k4 hC hD hb0
  generalize W1.alloc (.cells #[.string x.frm, .int .i64 x.first, .int .i64 x.last, .string x.to, .int .i64 x.num, .int .i64 x.how] 60) = w2 at hX hA1 HC1 HD1 ⊢
  generalize W1.heap.size = g7 at hX ⊢
  have HX1 := Lib.hid hX
  have HW1 := Lib.hid hA1
  clear hX hA1
  go_cut [52] (fun v wx => ∃ bb, v = .bool bb ∧ Hid (Below w2.heap.size w2 wx ∧ bb = !(bi && decide (1 ≤ x.how ∧ x.how ≤ 4))))
  case first =>
    obtain ⟨x0, x1, x2, x3, x4, x5⟩ := box6 HX1.out
    by_cases h0 : i = 0
    · have d0 : decide (0 < i) = false := by simp; omega
      have d1 : decide ((0 : Int) < (i : Int)) = false := by simp; omega
      have HB0 : Hid (bi = true) := Lib.hid (by rw [← HBI.out, h0]; rfl)
      clear h0
      by_cases h1 : x.how < 1
      · have q1 : decide (x.how < 1) = true := by simpa using h1
        have HF : Hid (true = !(bi && decide (1 ≤ x.how ∧ x.how ≤ 4))) := Lib.hid (by rw [show decide (1 ≤ x.how ∧ x.how ≤ 4) = false by simp; omega]; simp)
        clear h1
        go_quiet (fail)
        go_wp2_with fail
        go_meet
        exact ⟨true, rfl, below_dN (Below.refl _ _) _, HF.out⟩
      · have q1 : decide (x.how < 1) = false := by simpa using h1
        by_cases h2 : 4 < x.how
        · have q2 : decide (4 < x.how) = true := by simpa using h2
          have HF : Hid (true = !(bi && decide (1 ≤ x.how ∧ x.how ≤ 4))) := Lib.hid (by rw [show decide (1 ≤ x.how ∧ x.how ≤ 4) = false by simp; omega]; simp)
          clear h1 h2
          go_quiet (fail)
          go_wp2_with fail
          go_meet
          exact ⟨true, rfl, below_dN (Below.refl _ _) _, HF.out⟩
        · have q2 : decide (4 < x.how) = false := by simpa using h2
          have HF : Hid (false = !(bi && decide (1 ≤ x.how ∧ x.how ≤ 4))) := Lib.hid (by rw [HB0.out, show decide (1 ≤ x.how ∧ x.how ≤ 4) = true by simp; omega]; rfl)
          clear h1 h2
          go_quiet (fail)
          go_wp2_with fail
          go_meet
          exact ⟨false, rfl, below_dN (Below.refl _ _) _, HF.out⟩
    · obtain ⟨j, rfl⟩ : ∃ j, i = j + 1 := ⟨i - 1, by omega⟩
      have hj : j < c.recs.length := by omega
      have hld2 := fun X (hX : Below w2.heap.size w2 X) => (show RcdAt X (ad.add (j * 6)) c.recs[j] from by
        obtain ⟨ad2, had, -, h⟩ := Rcds.at_ (HQ.out.below (below_next HW1.out hX)) hj
        injection had with had
        subst had
        exact h)
      have HSY := Lib.hid (HSZ.out _ (List.getElem_mem hj))
      have HBJ : Hid (befF c.recs[j] x = bi) := Lib.hid (by rw [← HBI.out, befI_succ hj])
      generalize c.recs[j] = y at hld2 HSY HBJ
      have HY2 := Lib.hid hld2
      have HBE := Lib.hid (fun X (hX : Below w2.heap.size w2 X) => before_det y x X (HEN.out.below (below_next HW1.out hX)) HSY.out.1 HXM.out.1 HSY.out.2 HXM.out.2)
      rw [HBJ.out] at HBE
      clear h0 hld2 x0 x1 x2 x3 x4 x5
      refine rcR2 _ (by kernel_rfl) _ ad c.recs.length cc j (w.heap.size + 1) g7 c.num c.client c.text (.slice Ae c.edits.length ce) x y bi w2 hi hlr HC1.out HX1.out HY2.out HBE.out _ _ _ _ _ _ _ _ _ _ _ _ _ _ _ _ _ _ _ _ _ _ _ _ _ _ _ _ _ _ _ _ _ _ _ _ _ _ _ _ _ _ _ _ _ _ _ _ _ _ _ _ _ _ _ _ _ _ _ _ _ _ _ _ _ _ _ _ _ _ _ _ _ _ _ _ _ _ _ _ _ _ _ _ _ _ _ _ _ _ _ _ _ _ _ _ _ _ _ _ _ _ _ _ _ _ _ _ _ _ _ _ _ _ _ _ _ _ _ _ _ _ _ _ _ _ _ _ _ _ _ _ _ _ _ _ _ _ _ _ _ _ _ _ _ _ _ _ _ _ _ _ _ _ _ _ _ _ _ _ _ _ _ _ _ _ _ _ _ _ _ _ _ _ _ _ _ _ _ _ _ _ _ _ _ _ _ _ _ _ _ _ _ _ _ _ _ _ _ _ _ _ _ _ _ _ _ _ _ _ _ _ _ _ _ _ _ _ _ _ _ _ _ _ _ _ _ _ _ _ _ _ _ _ _ _ _ _ _ _ ?_
      intro t30 t31 t32 t33 t34 t35 t36 t37 t38 t39 t40 t41 t42 t43 t44 t45 t46 t47 t48 t49 t50 t51 bb w6 H6
      have HF : Hid (bb = !(bi && decide (1 ≤ x.how ∧ x.how ≤ 4))) := Lib.hid (by
        rw [H6.out.2]
        cases bi
        · rfl
        · by_cases k1 : x.how < 1
          · have : ¬ (1 ≤ x.how ∧ x.how ≤ 4) := by omega
            simp [k1, this]
          · by_cases k2 : 4 < x.how
            · have : ¬ (1 ≤ x.how ∧ x.how ≤ 4) := by omega
              simp [k2, this]
            · have : 1 ≤ x.how ∧ x.how ≤ 4 := by omega
              simp [k1, k2, this])
      have HS6 := Lib.hid H6.out.1
      clear H6
      go_wp2_with fail
      go_meet
      exact ⟨bb, rfl, HS6.out, HF.out⟩
  case rest =>
    obtain ⟨bb, rfl, HV⟩ := hcut
    have HB := Lib.hid (below_next HW1.out HV.out.1)
    cases bb with
    | true =>
      have HF : Hid (false = (bi && VF)) := Lib.hid (by
        have h := HV.out.2
        rw [HFUL.out]
        cases bi
        · rfl
        · cases hh : decide (1 ≤ x.how ∧ x.how ≤ 4)
          · rfl
          · rw [hh] at h; cases h)
      clear HV
      go_wp2_with fail
      go_ret
      exact ⟨ret_bool HF.out, HB.out⟩
    | false =>
      have HF : Hid ((bi && VF) = V) := Lib.hid (by
        have h := HV.out.2
        rw [HFUL.out]
        cases bi
        · cases h
        · cases hh : decide (1 ≤ x.how ∧ x.how ≤ 4)
          · rw [hh] at h; cases h
          · rfl)
      go_upto_if 52 with fail
      refine wp_cond_false rfl ?_
      refine wp_skip ?_
      have hk := ‹∀ (a : Act) (w : World), Code.wp _ _ _ a w → _›
      exact hk _ _ (HT4.out _ (by kernel_rfl) _ _ _ _ _ (HR.out.below HB.out) (HQ.out.below HB.out) (HP.out.below HB.out) (HD1.out.below HV.out.1 HD1.out.lt) (HC1.out.below HV.out.1 HC1.out.lt) (HX1.out.below HV.out.1 HX1.out.lt) (fun b w' hb hw => ⟨by rw [HF.out, hb], below_next HB.out hw⟩) _ _ _ _ _ _ _ _ _ _ _ _ _ _ _ _ _ _ _ _ _ _ _ _ _ _ _ _ _ _ _ _ _ _ _ _ _ _ _ _ _ _ _ _ _ _ _ _ _ _ _ _ _ _ _ _ _ _ _ _ _ _ _ _ _ _ _ _ _ _ _ _ _ _ _ _ _ _ _ _ _ _ _ _ _ _ _ _ _ _ _ _ _ _ _ _ _ _ _ _ _ _ _ _ _ _ _ _ _ _ _ _ _ _ _ _ _ _ _ _ _ _ _ _ _ _ _ _ _ _ _ _ _ _ _ _ _ _ _ _ _ _ _ _ _ _ _ _ _ _ _ _ _ _ _ _ _ _ _ _ _ _ _ _ _ _ _ _ _ _ _ _ _ _ _ _ _ _ _ _ _ _ _ _ _ _ _ _ _ _ _ _ _ _ _ _ _ _ _ _ _ _ _ _ _ _ _ _ _ _ _ _ _ _ _ _ _ _ _ _ _ _ _ _ _ _ _ _ _ _ _ _ _ _ _ _ _ _ _ _)
end Go.Proofs.YtmhmnchdhacdbaaGreatDoor
/- The reference's Check: room; its records. -/
namespace Go.Proofs.YtmhmnchdhacdbaaGreatDoor
open Go.RowKit
set_option linter.unusedVariables false
set_option linter.unusedSimpArgs false

/-- What Check's walk leans on. -/
structure CkB (d : Dep) (c : Chg) : Prop where
  ok : DepOk d
  dw : DepW d
  el : c.edits.length ≤ 100000
  rl : c.recs.length ≤ 100000
  path : ∀ e ∈ c.edits, e.path.size ≤ 2000000
  rcd : ∀ r ∈ c.recs, r.to.size ≤ 2000000 ∧ r.frm.size ≤ 2000000
theorem madeX_eq {last : ByteArray → Option Rev} {es : List Edt} (h2 : everyE last emptyS es = 0) (n : Int) {t : Edt} (ht : t ∈ es) : madeX n t = madeR last n t := by
  have := (oneE_zero ((everyE_paths h2).2 t ht).2.2).2.1
  unfold madeX madeR
  rw [this]
theorem rcFull_ref {d : Dep} {c : Chg} (h2 : everyE (lastOf d.revs) emptyS c.edits = 0) (x : Rcd) : rcFull d.revs c x = refRec d.revs c x := by
  unfold rcFull refRec rcVal
  cases ht : tgt c.edits x with
  | none => rfl
  | some t =>
    dsimp only
    rw [← madeX_eq h2 c.num (tgt_mem ht).1]
    unfold someR
    simp only [Bool.and_assoc]
theorem recB_of {d : Dep} {c : Chg} (h2 : everyE (lastOf d.revs) emptyS c.edits = 0) {i : Nat} (hi : i < c.recs.length) : RecB d c i (befI c.recs i c.recs[i] && rcFull d.revs c c.recs[i]) := by
  refine ⟨hi, befF ((c.recs[i - 1]?).getD c.recs[i]) c.recs[i], fun h0 h1 h3 => ?_, ?_⟩
  · rw [List.getElem?_eq_getElem (show i - 1 < c.recs.length by omega)]
    exact befF_valid h1 h3
  · rw [rcFull_ref h2]; rfl
theorem edit_bounds {d : Dep} {c : Chg} (hb : CkB d c) (h2 : everyE (lastOf d.revs) emptyS c.edits = 0) : ∀ y ∈ c.edits, 1 ≤ y.act ∧ 0 ≤ y.base ∧ y.base ≤ 100000 := by
  intro y hy
  obtain ⟨o1, o2, -, -⟩ := oneE_zero ((everyE_paths h2).2 y hy).2.2
  have := hb.dw.lastNum y.path
  have := hb.dw.len
  exact ⟨(acts_ok o1).1, by omega, by omega⟩
set_option maxRecDepth 100000 in
set_option maxHeartbeats 8000000 in
theorem ckT30 (T : Code) (hT : Tryz.f57.body.bind (tailAt 30) = some T) (R : Ending → World → Prop) (d : Dep) (c : Chg) (Ar Aq Ae Ac : Option Addr) (cr cq ce cc g2 g3 : Nat) (w : World) (hb : CkB d c)
    (he : Env w) (hR : Revs w (.slice Ar d.revs.length cr) d.revs) (hP : Edts w (.slice Ae c.edits.length ce) c.edits) (hQ : Rcds w (.slice Ac c.recs.length cc) c.recs)
    (hD : Blk w g2 28 [.slice Ar d.revs.length cr, .slice Aq d.recs.length cq])
    (hC : Blk w g3 56 [.int .i64 c.num, .string c.client, .string c.text, .slice Ae c.edits.length ce, .slice Ac c.recs.length cc]) 
    (hRR : ∀ (n : Int) (w' : World), n = roomE d c → Below w.heap.size w w' → R (.returned (.int .i64 n)) w')
    (u0 u1 u4 u5 u6 u7 u8 u9 u10 u11 u12 u13 u14 u15 u16 u17 u18 u19 u20 u21 u22 u23 u24 u25 u26 u27 u28 u29 u30 u31 u32 u33 u34 u35 u36 u37 u38 u39 u40 u41 u42 u43 u44 u45 u46 u47 u48 u49 u50 u51 u52 u53 u54 u55 u56 u57 u58 u59 u60 u61 u62 u63 u64 u65 u66 u67 u68 u69 u70 u71 u72 u73 u74 u75 u76 u77 u78 u79 u80 u81 u82 u83 u84 u85 u86 u87 u88 u89 u90 u91 u92 u93 u94 u95 u96 u97 u98 u99 u100 u101 u102 u103 u104 : Value) :
    T.wp Tryz.prog (bodyPost Tryz.prog Tryz.f57 R) ⟨#[u0, u1, .pointer (some ⟨g2, 0, none⟩), .pointer (some ⟨g3, 0, none⟩), u4, u5, u6, u7, u8, u9, u10, u11, u12, u13, u14, u15, u16, u17, u18, u19, u20, u21, u22, u23, u24, u25, u26, u27, u28, u29, u30, u31, u32, u33, u34, u35, u36, u37, u38, u39, u40, u41, u42, u43, u44, u45, u46, u47, u48, u49, u50, u51, u52, u53, u54, u55, u56, u57, u58, u59, u60, u61, u62, u63, u64, u65, u66, u67, u68, u69, u70, u71, u72, u73, u74, u75, u76, u77, u78, u79, u80, u81, u82, u83, u84, u85, u86, u87, u88, u89, u90, u91, u92, u93, u94, u95, u96, u97, u98, u99, u100, u101, u102, u103, u104], []⟩ w := by
  simp only [Tryz.f57, Option.bind_some, tailAt, hasReg] at hT
  simp at hT
  subst hT
  have HRR := Lib.hid hRR
  have HEN := Lib.hid he
  have HR := Lib.hid hR
  have HP := Lib.hid hP
  have HQ := Lib.hid hQ
  have HD := Lib.hid hD
  have HC := Lib.hid hC
  have HB := Lib.hid hb
  clear hRR he hR hP hQ hD hC hb
  have bl1 := HB.out.el
  have bl2 := HB.out.rl
  have bl3 : d.revs.length ≤ 100000 := by have := HB.out.dw.len; omega
  have b1 : d.revs.length ≤ 100000 := by have := HB.out.dw.len; omega
  have b2 : d.recs.length ≤ 100000 := by have := HB.out.dw.rlen; omega
  have b3 := HB.out.el
  have b4 := HB.out.rl
  obtain ⟨d0, d1, -, -⟩ := box2 HD.out
  obtain ⟨k0, k1, k2, k3, k4⟩ := box5 HC.out
  dsimp only
  by_cases h1 : 512 < d.revs.length + c.edits.length
  · have H : Hid (110 = roomE d c) := Lib.hid (by unfold roomE; rw [if_pos (.inl h1)])
    have q1 : decide (512 < (d.revs.length : Int) + (c.edits.length : Int)) = true := by simp; omega
    have q1' : (512 : Int) < (d.revs.length : Int) + (c.edits.length : Int) := by omega
    go_wp2_with fail
    exact HRR.out _ _ H.out (Below.refl _ _)
  · have q1 : decide (512 < (d.revs.length : Int) + (c.edits.length : Int)) = false := by simp; omega
    have q1' : ¬ (512 : Int) < (d.revs.length : Int) + (c.edits.length : Int) := by omega
    by_cases h2 : 512 < d.recs.length + c.recs.length
    · have H : Hid (110 = roomE d c) := Lib.hid (by unfold roomE; rw [if_pos (.inr h2)])
      have q2 : decide (512 < (d.recs.length : Int) + (c.recs.length : Int)) = true := by simp; omega
      have q2' : (512 : Int) < (d.recs.length : Int) + (c.recs.length : Int) := by omega
      go_wp2_with fail
      exact HRR.out _ _ H.out (Below.refl _ _)
    · have H : Hid (0 = roomE d c) := Lib.hid (by unfold roomE; rw [if_neg (by omega)])
      have q2 : decide (512 < (d.recs.length : Int) + (c.recs.length : Int)) = false := by simp; omega
      have q2' : ¬ (512 : Int) < (d.recs.length : Int) + (c.recs.length : Int) := by omega
      go_wp2_with fail
      exact HRR.out _ _ H.out (Below.refl _ _)
set_option maxRecDepth 100000 in
set_option maxHeartbeats 8000000 in
theorem ckT24 (T : Code) (hT : Tryz.f57.body.bind (tailAt 24) = some T) (R : Ending → World → Prop) (d : Dep) (c : Chg) (Ar Aq Ae Ac : Option Addr) (cr cq ce cc g2 g3 : Nat) (w : World) (hb : CkB d c)
    (he : Env w) (hR : Revs w (.slice Ar d.revs.length cr) d.revs) (hP : Edts w (.slice Ae c.edits.length ce) c.edits) (hQ : Rcds w (.slice Ac c.recs.length cc) c.recs)
    (hD : Blk w g2 28 [.slice Ar d.revs.length cr, .slice Aq d.recs.length cq])
    (hC : Blk w g3 56 [.int .i64 c.num, .string c.client, .string c.text, .slice Ae c.edits.length ce, .slice Ac c.recs.length cc]) (hs : ∀ r ∈ d.revs, r.chg < c.num) (h2 : everyE (lastOf d.revs) emptyS c.edits = 0)
    (hRR : ∀ (n : Int) (w' : World), n = (if recsE d.revs c ≠ 0 then recsE d.revs c else roomE d c) → Below w.heap.size w w' → R (.returned (.int .i64 n)) w')
    (u0 u1 u4 u5 u6 u7 u8 u9 u10 u11 u12 u13 u14 u15 u16 u17 u18 u19 u20 u21 u22 u23 u24 u25 u26 u27 u28 u29 u30 u31 u32 u33 u34 u35 u36 u37 u38 u39 u40 u41 u42 u43 u44 u45 u46 u47 u48 u49 u50 u51 u52 u53 u54 u55 u56 u57 u58 u59 u60 u61 u62 u63 u64 u65 u66 u67 u68 u69 u70 u71 u72 u73 u74 u75 u76 u77 u78 u79 u80 u81 u82 u83 u84 u85 u86 u87 u88 u89 u90 u91 u92 u93 u94 u95 u96 u97 u98 u99 u100 u101 u102 u103 u104 : Value) :
    T.wp Tryz.prog (bodyPost Tryz.prog Tryz.f57 R) ⟨#[u0, u1, .pointer (some ⟨g2, 0, none⟩), .pointer (some ⟨g3, 0, none⟩), u4, u5, u6, u7, u8, u9, u10, u11, u12, u13, u14, u15, u16, u17, u18, u19, u20, u21, u22, u23, u24, u25, u26, u27, u28, u29, u30, u31, u32, u33, u34, u35, u36, u37, u38, u39, u40, u41, u42, u43, u44, u45, u46, u47, u48, u49, u50, u51, u52, u53, u54, u55, u56, u57, u58, u59, u60, u61, u62, u63, u64, u65, u66, u67, u68, u69, u70, u71, u72, u73, u74, u75, u76, u77, u78, u79, u80, u81, u82, u83, u84, u85, u86, u87, u88, u89, u90, u91, u92, u93, u94, u95, u96, u97, u98, u99, u100, u101, u102, u103, u104], []⟩ w := by
  simp only [Tryz.f57, Option.bind_some, tailAt, hasReg] at hT
  simp at hT
  subst hT
  have HRR := Lib.hid hRR
  have HEN := Lib.hid he
  have HR := Lib.hid hR
  have HP := Lib.hid hP
  have HQ := Lib.hid hQ
  have HD := Lib.hid hD
  have HC := Lib.hid hC
  have HB := Lib.hid hb
  clear hRR he hR hP hQ hD hC hb
  have bl1 := HB.out.el
  have bl2 := HB.out.rl
  have bl3 : d.revs.length ≤ 100000 := by have := HB.out.dw.len; omega
  have HS := Lib.hid hs
  have H2 := Lib.hid h2
  have HRC := Lib.hid (fun k (hk : k < c.recs.length) X (hX : Below w.heap.size w X) => refRecord_any d c (.slice Ar d.revs.length cr) (.slice Aq d.recs.length cq) Ae Ac ce cc k X (HEN.out.below hX) (HR.out.below hX) (by have := HB.out.dw.len; omega) (fun r hr => by have := HB.out.dw.num r hr; have := HB.out.dw.len; omega) (HP.out.below hX) (HQ.out.below hX) hk HB.out.rl HB.out.el (edit_bounds HB.out h2) HB.out.rcd)
  have HNO := Lib.hid (fun i (h : RecB d c i false) => recs_no HB.out.ok hs h2 h)
  have HYES := Lib.hid (fun h => recs_yes HB.out.ok hs h2 h)
  have HOF := Lib.hid (fun i (hi : i < c.recs.length) => recB_of (d := d) h2 hi)
  have HQE : Hid (∀ n : Int, recsE d.revs c = 118 → n = 118 → n = (if recsE d.revs c ≠ 0 then recsE d.revs c else roomE d c)) := Lib.hid (fun n h1 h3 => by rw [h1, h3]; rfl)
  clear hs h2
  generalize recsE d.revs c = V at HRR HNO HYES HQE
  have HT := Lib.hid (fun T hT R W he hR hP hQ hD hC hRR => ckT30 T hT R d c Ar Aq Ae Ac cr cq ce cc g2 g3 W HB.out he hR hP hQ hD hC hRR)
  obtain ⟨k0, k1, k2, k3, k4⟩ := box5 HC.out
  go_upto_block 6 with fail
  clear k0 k1 k2 k3 k4
  go_cut [] (fun wx => Hid (Below w.heap.size w wx ∧ V = 0))
  case first =>
    go_wp2_with fail
    go_loopw [78] (fun s wr => ∃ k : Nat, s = .int .i64 k ∧ k ≤ c.recs.length ∧ Hid (Below w.heap.size w wr ∧ ∀ j, j < k → RecB d c j true)) (fun s _ => c.recs.length - (intOf s).toNat)
    case atStart => exact ⟨0, rfl, Nat.zero_le _, Below.refl _ _, fun j hj => by omega⟩
    case round =>
      obtain ⟨k, rfl, hk, HI⟩ := hrel
      by_cases hlt : k < c.recs.length
      · have qlt : decide ((k : Int) < (c.recs.length : Int)) = true := by simp; omega
        obtain ⟨d0, d1, -, -⟩ := box2 (HD.out.below HI.out.1 HD.out.lt)
        obtain ⟨k0, k1, k2, k3, k4⟩ := box5 (HC.out.below HI.out.1 HC.out.lt)
        have HR1 := Lib.hid (HRC.out k hlt wr HI.out.1)
        have HO1 := Lib.hid (HOF.out k hlt)
        generalize (befI c.recs k c.recs[k] && rcFull d.revs c c.recs[k]) = bb at HR1 HO1
        go_wp2_with fail
        refine HR1.out.mono ?_
        rintro e w2 ⟨rfl, hb2⟩
        have HB2 := Lib.hid (below_next HI.out.1 hb2)
        clear hb2 d0 d1 k0 k1 k2 k3 k4
        dsimp only
        cases bb with
        | false =>
          have HF := Lib.hid (HNO.out k HO1.out)
          go_wp2_with fail
          exact HRR.out _ _ (HQE.out _ HF.out rfl) HB2.out
        | true =>
          have HJ : Hid (∀ j, j < k + 1 → RecB d c j true) := Lib.hid (fun j hj => by
            by_cases e : j = k
            · rw [e]; exact HO1.out
            · exact HI.out.2 j (by omega))
          go_wp2_with fail
          go_roundw
          case rel => exact ⟨k + 1, by go_num, by omega, HB2.out, HJ.out⟩
          case measure => simp [intOf]; omega
      · have hke : k = c.recs.length := by omega
        have q : decide ((k : Int) < (c.recs.length : Int)) = false := by simp; omega
        have q' : decide (k < c.recs.length) = false := by simp; omega
        have HZ : Hid (V = 0) := Lib.hid (HYES.out fun j hj => HI.out.2 j (by omega))
        have HW := Lib.hid HI.out.1
        clear hke
        go_wp2_with fail
        go_meet
        exact ⟨HW.out, HZ.out⟩
  case rest =>
    have HV := Lib.hid hcut.out
    clear hcut
    have hk := ‹∀ (a : Act) (w : World), Code.wp _ _ _ a w → _›
    exact hk _ _ (HT.out _ (by kernel_rfl) _ _ (HEN.out.below HV.out.1) (HR.out.below HV.out.1) (HP.out.below HV.out.1) (HQ.out.below HV.out.1) (HD.out.below HV.out.1 HD.out.lt) (HC.out.below HV.out.1 HC.out.lt) (fun n w' hn hw => HRR.out n w' (by rw [HV.out.2, hn]; rfl) (below_next HV.out.1 hw)) _ _ _ _ _ _ _ _ _ _ _ _ _ _ _ _ _ _ _ _ _ _ _ _ _ _ _ _ _ _ _ _ _ _ _ _ _ _ _ _ _ _ _ _ _ _ _ _ _ _ _ _ _ _ _ _ _ _ _ _ _ _ _ _ _ _ _ _ _ _ _ _ _ _ _ _ _ _ _ _ _ _ _ _ _ _ _ _ _ _ _ _ _ _ _ _ _ _ _ _ _ _ _)
end Go.Proofs.YtmhmnchdhacdbaaGreatDoor
/- The reference's Check: its moves, its edits. -/
namespace Go.Proofs.YtmhmnchdhacdbaaGreatDoor
open Go.RowKit
set_option linter.unusedVariables false
set_option linter.unusedSimpArgs false

set_option maxRecDepth 100000 in
set_option maxHeartbeats 8000000 in
theorem ckT18 (T : Code) (hT : Tryz.f57.body.bind (tailAt 18) = some T) (R : Ending → World → Prop) (d : Dep) (c : Chg) (Ar Aq Ae Ac : Option Addr) (cr cq ce cc g2 g3 : Nat) (w : World) (hb : CkB d c)
    (he : Env w) (hR : Revs w (.slice Ar d.revs.length cr) d.revs) (hP : Edts w (.slice Ae c.edits.length ce) c.edits) (hQ : Rcds w (.slice Ac c.recs.length cc) c.recs)
    (hD : Blk w g2 28 [.slice Ar d.revs.length cr, .slice Aq d.recs.length cq])
    (hC : Blk w g3 56 [.int .i64 c.num, .string c.client, .string c.text, .slice Ae c.edits.length ce, .slice Ac c.recs.length cc]) (hs : ∀ r ∈ d.revs, r.chg < c.num) (h2 : everyE (lastOf d.revs) emptyS c.edits = 0)
    (hRR : ∀ (n : Int) (w' : World), n = (if movesE c.edits ≠ 0 then movesE c.edits else if recsE d.revs c ≠ 0 then recsE d.revs c else roomE d c) → Below w.heap.size w w' → R (.returned (.int .i64 n)) w')
    (u0 u1 u4 u5 u6 u7 u8 u9 u10 u11 u12 u13 u14 u15 u16 u17 u18 u19 u20 u21 u22 u23 u24 u25 u26 u27 u28 u29 u30 u31 u32 u33 u34 u35 u36 u37 u38 u39 u40 u41 u42 u43 u44 u45 u46 u47 u48 u49 u50 u51 u52 u53 u54 u55 u56 u57 u58 u59 u60 u61 u62 u63 u64 u65 u66 u67 u68 u69 u70 u71 u72 u73 u74 u75 u76 u77 u78 u79 u80 u81 u82 u83 u84 u85 u86 u87 u88 u89 u90 u91 u92 u93 u94 u95 u96 u97 u98 u99 u100 u101 u102 u103 u104 : Value) :
    T.wp Tryz.prog (bodyPost Tryz.prog Tryz.f57 R) ⟨#[u0, u1, .pointer (some ⟨g2, 0, none⟩), .pointer (some ⟨g3, 0, none⟩), u4, u5, u6, u7, u8, u9, u10, u11, u12, u13, u14, u15, u16, u17, u18, u19, u20, u21, u22, u23, u24, u25, u26, u27, u28, u29, u30, u31, u32, u33, u34, u35, u36, u37, u38, u39, u40, u41, u42, u43, u44, u45, u46, u47, u48, u49, u50, u51, u52, u53, u54, u55, u56, u57, u58, u59, u60, u61, u62, u63, u64, u65, u66, u67, u68, u69, u70, u71, u72, u73, u74, u75, u76, u77, u78, u79, u80, u81, u82, u83, u84, u85, u86, u87, u88, u89, u90, u91, u92, u93, u94, u95, u96, u97, u98, u99, u100, u101, u102, u103, u104], []⟩ w := by
  simp only [Tryz.f57, Option.bind_some, tailAt, hasReg] at hT
  simp at hT
  subst hT
  have HRR := Lib.hid hRR
  have HEN := Lib.hid he
  have HR := Lib.hid hR
  have HP := Lib.hid hP
  have HQ := Lib.hid hQ
  have HD := Lib.hid hD
  have HC := Lib.hid hC
  have HB := Lib.hid hb
  clear hRR he hR hP hQ hD hC hb
  have bl1 := HB.out.el
  have bl2 := HB.out.rl
  have bl3 : d.revs.length ≤ 100000 := by have := HB.out.dw.len; omega
  have HMV := Lib.hid (fun x X (hX : Below w.heap.size w X) => refMoved_any c.edits c.num c.client c.text Ae Ac c.recs.length ce cc x X (HP.out.below hX) HB.out.el)
  have HNO := Lib.hid (fun x (hx : x ∈ c.edits) h => moves_no h2 hx h)
  have HYES := Lib.hid (fun h => moves_yes h2 h)
  have HQE : Hid (∀ n : Int, movesE c.edits = 117 → n = 117 → n = (if movesE c.edits ≠ 0 then movesE c.edits else if recsE d.revs c ≠ 0 then recsE d.revs c else roomE d c)) := Lib.hid (fun n h1 h3 => by rw [h1, h3]; rfl)
  generalize movesE c.edits = V at HRR HNO HYES HQE
  have HT := Lib.hid (fun T hT R W he hR hP hQ hD hC hRR => ckT24 T hT R d c Ar Aq Ae Ac cr cq ce cc g2 g3 W HB.out he hR hP hQ hD hC hs h2 hRR)
  obtain ⟨k0, k1, k2, k3, k4⟩ := box5 HC.out
  go_upto_block 4 with fail
  clear k0 k1 k2 k3 k4
  go_cut [] (fun wx => Hid (Below w.heap.size w wx ∧ V = 0))
  case first =>
    go_wp2_with fail
    go_loopw [66] (fun s wr => ∃ k : Nat, s = .int .i64 k ∧ k ≤ c.edits.length ∧ Hid (Below w.heap.size w wr ∧ ∀ j (hj : j < c.edits.length), j < k → movedB c.edits c.edits[j] = true)) (fun s _ => c.edits.length - (intOf s).toNat)
    case atStart => exact ⟨0, rfl, Nat.zero_le _, Below.refl _ _, fun j _ hj => by omega⟩
    case round =>
      obtain ⟨k, rfl, hk, HI⟩ := hrel
      by_cases hlt : k < c.edits.length
      · have qlt : decide ((k : Int) < (c.edits.length : Int)) = true := by simp; omega
        obtain ⟨ad, rfl, hab, hld⟩ := Edts.at_ (HP.out.below HI.out.1) hlt
        have hmem : c.edits[k] ∈ c.edits := List.getElem_mem hlt
        have HJ : Hid (movedB c.edits c.edits[k] = true → ∀ j (hj : j < c.edits.length), j < k + 1 → movedB c.edits c.edits[j] = true) := Lib.hid (fun h j hj hjk => by
            by_cases e : j = k
            · subst e; exact h
            · exact HI.out.2 j hj (by omega))
        generalize c.edits[k] = x at hld hmem HJ
        have HMEM := Lib.hid hmem
        clear hmem
        obtain ⟨x0, x1, x2, x3, x4, x5, x6, x7, x8, x9, x10, x11⟩ := hld
        have hX := blk_new wr [.string x.path, .int .i64 x.act, .int .i64 x.ty.base, .bool x.ty.k, .bool x.ty.l, .bool x.ty.x, .int .u64 x.sum, .int .i64 x.size, .int .i64 x.base, .string x.frm, .int .i64 x.fnum, .int .i64 x.fence] 58
        have hA1 := HI.out.1.alloc HI.out.1.size (.cells #[.string x.path, .int .i64 x.act, .int .i64 x.ty.base, .bool x.ty.k, .bool x.ty.l, .bool x.ty.x, .int .u64 x.sum, .int .i64 x.size, .int .i64 x.base, .string x.frm, .int .i64 x.fnum, .int .i64 x.fence] 58)
        go_upto_region 21 with fail
        clear x0 x1 x2 x3 x4 x5 x6 x7 x8 x9 x10 x11
        generalize wr.alloc (.cells #[.string x.path, .int .i64 x.act, .int .i64 x.ty.base, .bool x.ty.k, .bool x.ty.l, .bool x.ty.x, .int .u64 x.sum, .int .i64 x.size, .int .i64 x.base, .string x.frm, .int .i64 x.fnum, .int .i64 x.fence] 58) = V1 at hX hA1 ⊢
        generalize wr.heap.size = g10 at hX ⊢
        have HA1 := Lib.hid hA1
        obtain ⟨x0, x1, x2, x3, x4, x5, x6, x7, x8, x9, x10, x11⟩ := box12 hX
        obtain ⟨k0, k1, k2, k3, k4⟩ := box5 (HC.out.below HA1.out HC.out.lt)
        have HR1 := Lib.hid (HMV.out x V1 HA1.out)
        generalize hbb : movedB c.edits x = bb at HR1 HJ
        have HBB := Lib.hid hbb
        clear hX hA1 hbb
        go_wp2_with fail
        refine HR1.out.mono ?_
        rintro e w2 ⟨rfl, hb2⟩
        have HB2 := Lib.hid (below_next HA1.out hb2)
        clear hb2 k0 k1 k2 k3 k4 x0 x1 x2 x3 x4 x5 x6 x7 x8 x9 x10 x11
        dsimp only
        cases bb with
        | false =>
          have HF := Lib.hid (HNO.out x HMEM.out HBB.out)
          go_wp2_with fail
          exact HRR.out _ _ (HQE.out _ HF.out rfl) HB2.out
        | true =>
          have HJ2 := Lib.hid (HJ.out rfl)
          go_wp2_with fail
          go_roundw
          case rel => exact ⟨k + 1, by go_num, by omega, HB2.out, HJ2.out⟩
          case measure => simp [intOf]; omega
      · have hke : k = c.edits.length := by omega
        have q : decide ((k : Int) < (c.edits.length : Int)) = false := by simp; omega
        have q' : decide (k < c.edits.length) = false := by simp; omega
        have HZ : Hid (V = 0) := Lib.hid (HYES.out fun x hx => by obtain ⟨j, hj, rfl⟩ := List.mem_iff_getElem.1 hx; exact HI.out.2 j hj (by omega))
        have HW := Lib.hid HI.out.1
        clear hke
        go_wp2_with fail
        go_meet
        exact ⟨HW.out, HZ.out⟩
  case rest =>
    have HV := Lib.hid hcut.out
    clear hcut
    have hk := ‹∀ (a : Act) (w : World), Code.wp _ _ _ a w → _›
    exact hk _ _ (HT.out _ (by kernel_rfl) _ _ (HEN.out.below HV.out.1) (HR.out.below HV.out.1) (HP.out.below HV.out.1) (HQ.out.below HV.out.1) (HD.out.below HV.out.1 HD.out.lt) (HC.out.below HV.out.1 HC.out.lt) (fun n w' hn hw => HRR.out n w' (by rw [HV.out.2, hn]; rfl) (below_next HV.out.1 hw)) _ _ _ _ _ _ _ _ _ _ _ _ _ _ _ _ _ _ _ _ _ _ _ _ _ _ _ _ _ _ _ _ _ _ _ _ _ _ _ _ _ _ _ _ _ _ _ _ _ _ _ _ _ _ _ _ _ _ _ _ _ _ _ _ _ _ _ _ _ _ _ _ _ _ _ _ _ _ _ _ _ _ _ _ _ _ _ _ _ _ _ _ _ _ _ _ _ _ _ _ _ _ _)
set_option maxRecDepth 100000 in
set_option maxHeartbeats 8000000 in
theorem ckT11 (T : Code) (hT : Tryz.f57.body.bind (tailAt 11) = some T) (R : Ending → World → Prop) (d : Dep) (c : Chg) (Ar Aq Ae Ac : Option Addr) (cr cq ce cc g2 g3 : Nat) (w : World) (hb : CkB d c)
    (he : Env w) (hR : Revs w (.slice Ar d.revs.length cr) d.revs) (hP : Edts w (.slice Ae c.edits.length ce) c.edits) (hQ : Rcds w (.slice Ac c.recs.length cc) c.recs)
    (hD : Blk w g2 28 [.slice Ar d.revs.length cr, .slice Aq d.recs.length cq])
    (hC : Blk w g3 56 [.int .i64 c.num, .string c.client, .string c.text, .slice Ae c.edits.length ce, .slice Ac c.recs.length cc]) (hs : ∀ r ∈ d.revs, r.chg < c.num)
    (hRR : ∀ (n : Int) (w' : World), n = (if everyE (lastOf d.revs) emptyS c.edits ≠ 0 then everyE (lastOf d.revs) emptyS c.edits else if movesE c.edits ≠ 0 then movesE c.edits else if recsE d.revs c ≠ 0 then recsE d.revs c else roomE d c) → Below w.heap.size w w' → R (.returned (.int .i64 n)) w')
    (u0 u1 u4 u5 u6 u7 u8 u9 u10 u11 u12 u13 u14 u15 u16 u17 u18 u19 u20 u21 u22 u23 u24 u25 u26 u27 u28 u29 u30 u31 u32 u33 u34 u35 u36 u37 u38 u39 u40 u41 u42 u43 u44 u45 u46 u47 u48 u49 u50 u51 u52 u53 u54 u55 u56 u57 u58 u59 u60 u61 u62 u63 u64 u65 u66 u67 u68 u69 u70 u71 u72 u73 u74 u75 u76 u77 u78 u79 u80 u81 u82 u83 u84 u85 u86 u87 u88 u89 u90 u91 u92 u93 u94 u95 u96 u97 u98 u99 u100 u101 u102 u103 u104 : Value) :
    T.wp Tryz.prog (bodyPost Tryz.prog Tryz.f57 R) ⟨#[u0, u1, .pointer (some ⟨g2, 0, none⟩), .pointer (some ⟨g3, 0, none⟩), u4, u5, u6, u7, u8, u9, u10, u11, u12, u13, u14, u15, u16, u17, u18, u19, u20, u21, u22, u23, u24, u25, u26, u27, u28, u29, u30, u31, u32, u33, u34, u35, u36, u37, u38, u39, u40, u41, u42, u43, u44, u45, u46, u47, u48, u49, u50, u51, u52, u53, u54, u55, u56, u57, u58, u59, u60, u61, u62, u63, u64, u65, u66, u67, u68, u69, u70, u71, u72, u73, u74, u75, u76, u77, u78, u79, u80, u81, u82, u83, u84, u85, u86, u87, u88, u89, u90, u91, u92, u93, u94, u95, u96, u97, u98, u99, u100, u101, u102, u103, u104], []⟩ w := by
  simp only [Tryz.f57, Option.bind_some, tailAt, hasReg] at hT
  simp at hT
  subst hT
  have HRR := Lib.hid hRR
  have HEN := Lib.hid he
  have HR := Lib.hid hR
  have HP := Lib.hid hP
  have HQ := Lib.hid hQ
  have HD := Lib.hid hD
  have HC := Lib.hid hC
  have HB := Lib.hid hb
  clear hRR he hR hP hQ hD hC hb
  have bl1 := HB.out.el
  have bl2 := HB.out.rl
  have bl3 : d.revs.length ≤ 100000 := by have := HB.out.dw.len; omega
  have HED := Lib.hid (fun k (hk : k < c.edits.length) hv X (hX : Below w.heap.size w X) => refEdit_any d c (.slice Ar d.revs.length cr) (.slice Aq d.recs.length cq) Ae Ac ce cc k X (HEN.out.below hX) (HR.out.below hX) (by have := HB.out.dw.len; omega) (HP.out.below hX) hk HB.out.el HB.out.ok.log HB.out.path hv)
  have HNO := Lib.hid (fun i hi hz h => every_at (last := lastOf d.revs) c.edits emptyS i hi hz h)
  have HYES := Lib.hid (fun h => every_all (last := lastOf d.revs) c.edits emptyS h)
  have HQE : Hid (∀ n : Int, n ≠ 0 → everyE (lastOf d.revs) emptyS c.edits = n → n = (if everyE (lastOf d.revs) emptyS c.edits ≠ 0 then everyE (lastOf d.revs) emptyS c.edits else if movesE c.edits ≠ 0 then movesE c.edits else if recsE d.revs c ≠ 0 then recsE d.revs c else roomE d c)) := Lib.hid (fun n h1 h3 => by rw [h3, if_pos h1])
  obtain ⟨V, hV⟩ : ∃ V, V = everyE (lastOf d.revs) emptyS c.edits := ⟨_, rfl⟩
  rw [← hV] at HRR HNO HYES HQE
  have HVV := Lib.hid hV
  clear hV
  have HT := Lib.hid (fun T hT R W he hR hP hQ hD hC h2 hRR => ckT18 T hT R d c Ar Aq Ae Ac cr cq ce cc g2 g3 W HB.out he hR hP hQ hD hC hs h2 hRR)
  obtain ⟨k0, k1, k2, k3, k4⟩ := box5 HC.out
  go_upto_block 2 with fail
  clear k0 k1 k2 k3 k4
  go_cut [] (fun wx => Hid (Below w.heap.size w wx ∧ V = 0))
  case first =>
    go_wp2_with fail
    go_loopw [52] (fun s wr => ∃ k : Nat, s = .int .i64 k ∧ k ≤ c.edits.length ∧ Hid (Below w.heap.size w wr ∧ ∀ j (hj : j < c.edits.length), j < k → editE (lastOf d.revs) (aheadQ emptyS c.edits j) c.edits[j] = 0)) (fun s _ => c.edits.length - (intOf s).toNat)
    case atStart => exact ⟨0, rfl, Nat.zero_le _, Below.refl _ _, fun j _ hj => by omega⟩
    case round =>
      obtain ⟨k, rfl, hk, HI⟩ := hrel
      by_cases hlt : k < c.edits.length
      · have qlt : decide ((k : Int) < (c.edits.length : Int)) = true := by simp; omega
        obtain ⟨d0, d1, -, -⟩ := box2 (HD.out.below HI.out.1 HD.out.lt)
        obtain ⟨k0, k1, k2, k3, k4⟩ := box5 (HC.out.below HI.out.1 HC.out.lt)
        have HR1 := Lib.hid (HED.out k hlt (fun j hj hjk => (editE_zero (HI.out.2 j hj hjk)).1) wr HI.out.1)
        have HN1 := Lib.hid (HNO.out k hlt (fun j hj => HI.out.2 j (by omega) hj))
        have HJ : Hid (editE (lastOf d.revs) (aheadQ emptyS c.edits k) c.edits[k] = 0 → ∀ j (hj : j < c.edits.length), j < k + 1 → editE (lastOf d.revs) (aheadQ emptyS c.edits j) c.edits[j] = 0) := Lib.hid (fun h j hj hjk => by
            by_cases e : j = k
            · subst e; exact h
            · exact HI.out.2 j hj (by omega))
        generalize editE (lastOf d.revs) (aheadQ emptyS c.edits k) c.edits[k] = er at HR1 HN1 HJ
        go_wp2_with fail
        refine HR1.out.mono ?_
        rintro e w2 ⟨rfl, hb2⟩
        have HB2 := Lib.hid (below_next HI.out.1 hb2)
        clear hb2 d0 d1 k0 k1 k2 k3 k4
        dsimp only
        by_cases h0 : er = 0
        · have HJ2 := Lib.hid (HJ.out h0)
          subst h0
          go_wp2_with fail
          go_roundw
          case rel => exact ⟨k + 1, by go_num, by omega, HB2.out, HJ2.out⟩
          case measure => simp [intOf]; omega
        · have q0 : (er != 0) = true := by simpa using h0
          have HF := Lib.hid (HQE.out er h0 (HN1.out h0))
          clear h0
          go_wp2_with fail
          exact HRR.out _ _ HF.out HB2.out
      · have hke : k = c.edits.length := by omega
        have q : decide ((k : Int) < (c.edits.length : Int)) = false := by simp; omega
        have q' : decide (k < c.edits.length) = false := by simp; omega
        have HZ : Hid (V = 0) := Lib.hid (HYES.out fun j hj => HI.out.2 j hj (by omega))
        have HW := Lib.hid HI.out.1
        clear hke
        go_wp2_with fail
        go_meet
        exact ⟨HW.out, HZ.out⟩
  case rest =>
    have HV := Lib.hid hcut.out
    clear hcut
    have hk := ‹∀ (a : Act) (w : World), Code.wp _ _ _ a w → _›
    exact hk _ _ (HT.out _ (by kernel_rfl) _ _ (HEN.out.below HV.out.1) (HR.out.below HV.out.1) (HP.out.below HV.out.1) (HQ.out.below HV.out.1) (HD.out.below HV.out.1 HD.out.lt) (HC.out.below HV.out.1 HC.out.lt) (HVV.out.symm.trans HV.out.2) (fun n w' hn hw => HRR.out n w' (by rw [HV.out.2, hn]; rfl) (below_next HV.out.1 hw)) _ _ _ _ _ _ _ _ _ _ _ _ _ _ _ _ _ _ _ _ _ _ _ _ _ _ _ _ _ _ _ _ _ _ _ _ _ _ _ _ _ _ _ _ _ _ _ _ _ _ _ _ _ _ _ _ _ _ _ _ _ _ _ _ _ _ _ _ _ _ _ _ _ _ _ _ _ _ _ _ _ _ _ _ _ _ _ _ _ _ _ _ _ _ _ _ _ _ _ _ _ _ _)
end Go.Proofs.YtmhmnchdhacdbaaGreatDoor
/- The reference's Check: the walk. -/
namespace Go.Proofs.YtmhmnchdhacdbaaGreatDoor
open Go.RowKit
set_option linter.unusedVariables false
set_option linter.unusedSimpArgs false

set_option maxRecDepth 100000 in
set_option maxHeartbeats 8000000 in
theorem ckT5 (T : Code) (hT : Tryz.f57.body.bind (tailAt 5) = some T) (R : Ending → World → Prop) (d : Dep) (c : Chg) (Ar Aq Ae Ac : Option Addr) (cr cq ce cc g2 g3 : Nat) (w : World) (hb : CkB d c)
    (he : Env w) (hR : Revs w (.slice Ar d.revs.length cr) d.revs) (hP : Edts w (.slice Ae c.edits.length ce) c.edits) (hQ : Rcds w (.slice Ac c.recs.length cc) c.recs)
    (hD : Blk w g2 28 [.slice Ar d.revs.length cr, .slice Aq d.recs.length cq])
    (hC : Blk w g3 56 [.int .i64 c.num, .string c.client, .string c.text, .slice Ae c.edits.length ce, .slice Ac c.recs.length cc]) 
    (hRR : ∀ (n : Int) (w' : World), n = (if d.revs.any (fun r => decide (c.num ≤ r.chg)) then 112 else (if everyE (lastOf d.revs) emptyS c.edits ≠ 0 then everyE (lastOf d.revs) emptyS c.edits else if movesE c.edits ≠ 0 then movesE c.edits else if recsE d.revs c ≠ 0 then recsE d.revs c else roomE d c)) → Below w.heap.size w w' → R (.returned (.int .i64 n)) w')
    (u0 u1 u4 u5 u6 u7 u8 u9 u10 u11 u12 u13 u14 u15 u16 u17 u18 u19 u20 u21 u22 u23 u24 u25 u26 u27 u28 u29 u30 u31 u32 u33 u34 u35 u36 u37 u38 u39 u40 u41 u42 u43 u44 u45 u46 u47 u48 u49 u50 u51 u52 u53 u54 u55 u56 u57 u58 u59 u60 u61 u62 u63 u64 u65 u66 u67 u68 u69 u70 u71 u72 u73 u74 u75 u76 u77 u78 u79 u80 u81 u82 u83 u84 u85 u86 u87 u88 u89 u90 u91 u92 u93 u94 u95 u96 u97 u98 u99 u100 u101 u102 u103 u104 : Value) :
    T.wp Tryz.prog (bodyPost Tryz.prog Tryz.f57 R) ⟨#[u0, u1, .pointer (some ⟨g2, 0, none⟩), .pointer (some ⟨g3, 0, none⟩), u4, u5, u6, u7, u8, u9, u10, u11, u12, u13, u14, u15, u16, u17, u18, u19, u20, u21, u22, u23, u24, u25, u26, u27, u28, u29, u30, u31, u32, u33, u34, u35, u36, u37, u38, u39, u40, u41, u42, u43, u44, u45, u46, u47, u48, u49, u50, u51, u52, u53, u54, u55, u56, u57, u58, u59, u60, u61, u62, u63, u64, u65, u66, u67, u68, u69, u70, u71, u72, u73, u74, u75, u76, u77, u78, u79, u80, u81, u82, u83, u84, u85, u86, u87, u88, u89, u90, u91, u92, u93, u94, u95, u96, u97, u98, u99, u100, u101, u102, u103, u104], []⟩ w := by
  simp only [Tryz.f57, Option.bind_some, tailAt, hasReg] at hT
  simp at hT
  subst hT
  have HRR := Lib.hid hRR
  have HEN := Lib.hid he
  have HR := Lib.hid hR
  have HP := Lib.hid hP
  have HQ := Lib.hid hQ
  have HD := Lib.hid hD
  have HC := Lib.hid hC
  have HB := Lib.hid hb
  clear hRR he hR hP hQ hD hC hb
  have bl1 := HB.out.el
  have bl2 := HB.out.rl
  have bl3 : d.revs.length ≤ 100000 := by have := HB.out.dw.len; omega
  have HNO := Lib.hid (fun r (hr : r ∈ d.revs) (h : c.num ≤ r.chg) => (show d.revs.any (fun r => decide (c.num ≤ r.chg)) = true from List.any_eq_true.2 ⟨r, hr, decide_eq_true h⟩))
  have HYES : Hid ((∀ j (hj : j < d.revs.length), (d.revs[j]).chg < c.num) → (∀ r ∈ d.revs, r.chg < c.num) ∧ d.revs.any (fun r => decide (c.num ≤ r.chg)) = false) := Lib.hid (fun h => by
    have h2 : ∀ r ∈ d.revs, r.chg < c.num := fun r hr => by obtain ⟨j, hj, rfl⟩ := List.mem_iff_getElem.1 hr; exact h j hj
    refine ⟨h2, ?_⟩
    rw [List.any_eq_false]
    intro r hr hh
    have := h2 r hr
    have := of_decide_eq_true hh
    omega)
  have HT := Lib.hid (fun T hT R W hs he hR hP hQ hD hC hRR => ckT11 T hT R d c Ar Aq Ae Ac cr cq ce cc g2 g3 W HB.out he hR hP hQ hD hC hs hRR)
  generalize (if everyE (lastOf d.revs) emptyS c.edits ≠ 0 then everyE (lastOf d.revs) emptyS c.edits else if movesE c.edits ≠ 0 then movesE c.edits else if recsE d.revs c ≠ 0 then recsE d.revs c else roomE d c) = VR at HRR HT
  generalize d.revs.any (fun r => decide (c.num ≤ r.chg)) = V at HRR HNO HYES
  obtain ⟨d0, d1, -, -⟩ := box2 HD.out
  go_upto_block 0 with fail
  clear d0 d1
  go_cut [] (fun wx => Hid (Below w.heap.size w wx ∧ V = false ∧ ∀ r ∈ d.revs, r.chg < c.num))
  case first =>
    go_wp2_with fail
    go_loopw [39] (fun s wr => ∃ k : Nat, s = .int .i64 k ∧ k ≤ d.revs.length ∧ Hid (Below w.heap.size w wr ∧ ∀ j (hj : j < d.revs.length), j < k → (d.revs[j]).chg < c.num)) (fun s _ => d.revs.length - (intOf s).toNat)
    case atStart => exact ⟨0, rfl, Nat.zero_le _, Below.refl _ _, fun j _ hj => by omega⟩
    case round =>
      obtain ⟨k, rfl, hk, HI⟩ := hrel
      by_cases hlt : k < d.revs.length
      · have qlt : decide ((k : Int) < (d.revs.length : Int)) = true := by simp; omega
        obtain ⟨ad, rfl, hab, hld⟩ := Revs.at_ (HR.out.below HI.out.1) hlt
        have HN1 := Lib.hid (HNO.out d.revs[k] (List.getElem_mem hlt))
        have HJ : Hid ((d.revs[k]).chg < c.num → ∀ j (hj : j < d.revs.length), j < k + 1 → (d.revs[j]).chg < c.num) := Lib.hid (fun h j hj hjk => by
            by_cases e : j = k
            · subst e; exact h
            · exact HI.out.2 j hj (by omega))
        generalize d.revs[k] = x at hld HN1 HJ
        obtain ⟨x0, x1, x2, x3, x4, x5, x6, x7, x8, x9, x10, x11⟩ := hld
        have hX := blk_new wr [.string x.path, .int .i64 x.num, .int .i64 x.chg, .int .i64 x.act, .int .i64 x.ty.base, .bool x.ty.k, .bool x.ty.l, .bool x.ty.x, .int .u64 x.sum, .int .i64 x.size, .string x.frm, .int .i64 x.fnum] 36
        have hA1 := HI.out.1.alloc HI.out.1.size (.cells #[.string x.path, .int .i64 x.num, .int .i64 x.chg, .int .i64 x.act, .int .i64 x.ty.base, .bool x.ty.k, .bool x.ty.l, .bool x.ty.x, .int .u64 x.sum, .int .i64 x.size, .string x.frm, .int .i64 x.fnum] 36)
        go_upto_region 8 with fail
        clear x0 x1 x2 x3 x4 x5 x6 x7 x8 x9 x10 x11
        generalize wr.alloc (.cells #[.string x.path, .int .i64 x.num, .int .i64 x.chg, .int .i64 x.act, .int .i64 x.ty.base, .bool x.ty.k, .bool x.ty.l, .bool x.ty.x, .int .u64 x.sum, .int .i64 x.size, .string x.frm, .int .i64 x.fnum] 36) = V1 at hX hA1 ⊢
        generalize wr.heap.size = g6 at hX ⊢
        have HA1 := Lib.hid hA1
        obtain ⟨x0, x1, x2, x3, x4, x5, x6, x7, x8, x9, x10, x11⟩ := box12 hX
        obtain ⟨k0, k1, k2, k3, k4⟩ := box5 (HC.out.below HA1.out HC.out.lt)
        clear hX hA1
        by_cases h1 : c.num ≤ x.chg
        · have q1 : decide (c.num ≤ x.chg) = true := by simpa using h1
          have HF := Lib.hid (HN1.out h1)
          clear h1
          go_wp2_with fail
          exact HRR.out _ _ (by rw [HF.out]; rfl) HA1.out
        · have q1 : decide (c.num ≤ x.chg) = false := by simpa using h1
          have HJ2 := Lib.hid (HJ.out (by omega))
          clear h1
          go_wp2_with fail
          go_roundw
          case rel => exact ⟨k + 1, by go_num, by omega, HA1.out, HJ2.out⟩
          case measure => simp [intOf]; omega
      · have hke : k = d.revs.length := by omega
        have q : decide ((k : Int) < (d.revs.length : Int)) = false := by simp; omega
        have q' : decide (k < d.revs.length) = false := by simp; omega
        have HZ := Lib.hid (HYES.out fun j hj => HI.out.2 j hj (by omega))
        have HW := Lib.hid HI.out.1
        clear hke
        go_wp2_with fail
        go_meet
        exact ⟨HW.out, HZ.out.2, HZ.out.1⟩
  case rest =>
    have HV := Lib.hid hcut.out
    clear hcut
    have hk := ‹∀ (a : Act) (w : World), Code.wp _ _ _ a w → _›
    exact hk _ _ (HT.out _ (by kernel_rfl) _ _ HV.out.2.2 (HEN.out.below HV.out.1) (HR.out.below HV.out.1) (HP.out.below HV.out.1) (HQ.out.below HV.out.1) (HD.out.below HV.out.1 HD.out.lt) (HC.out.below HV.out.1 HC.out.lt) (fun n w' hn hw => HRR.out n w' (by rw [HV.out.2.1, hn]; rfl) (below_next HV.out.1 hw)) _ _ _ _ _ _ _ _ _ _ _ _ _ _ _ _ _ _ _ _ _ _ _ _ _ _ _ _ _ _ _ _ _ _ _ _ _ _ _ _ _ _ _ _ _ _ _ _ _ _ _ _ _ _ _ _ _ _ _ _ _ _ _ _ _ _ _ _ _ _ _ _ _ _ _ _ _ _ _ _ _ _ _ _ _ _ _ _ _ _ _ _ _ _ _ _ _ _ _ _ _ _ _)
set_option maxRecDepth 100000 in
set_option maxHeartbeats 8000000 in
theorem refCheckD_any (d : Dep) (c : Chg) (Ar Aq Ae Ac : Option Addr) (cr cq ce cc : Nat) (w : World) (hb : CkB d c) (he : Env w) (hR : Revs w (.slice Ar d.revs.length cr) d.revs) (hP : Edts w (.slice Ae c.edits.length ce) c.edits) (hQ : Rcds w (.slice Ac c.recs.length cc) c.recs) :
    Calls Tryz.prog 57 #[.agg #[.slice Ar d.revs.length cr, .slice Aq d.recs.length cq], .agg #[.int .i64 c.num, .string c.client, .string c.text, .slice Ae c.edits.length ce, .slice Ac c.recs.length cc]] w
      fun e w' => e = .returned (.int .i64 (appE d c)) ∧ Below w.heap.size w w' := by
  have HEN := Lib.hid he
  have HR := Lib.hid hR
  have HP := Lib.hid hP
  have HQ := Lib.hid hQ
  have HB := Lib.hid hb
  have b3 := hb.el
  have b4 := hb.rl
  have hb0 : Below w.heap.size w ((w.alloc (.cells #[.slice Ar d.revs.length cr, .slice Aq d.recs.length cq] 28)).alloc (.cells #[.int .i64 c.num, .string c.client, .string c.text, .slice Ae c.edits.length ce, .slice Ac c.recs.length cc] 56)) := ((Below.refl _ _).alloc (Nat.le_refl _) _).alloc (by simp) _
  have hC : Blk ((w.alloc (.cells #[.slice Ar d.revs.length cr, .slice Aq d.recs.length cq] 28)).alloc (.cells #[.int .i64 c.num, .string c.client, .string c.text, .slice Ae c.edits.length ce, .slice Ac c.recs.length cc] 56)) (w.heap.size + 1) 56 [.int .i64 c.num, .string c.client, .string c.text, .slice Ae c.edits.length ce, .slice Ac c.recs.length cc] := by
    have h1 := blk_new (w.alloc (.cells #[.slice Ar d.revs.length cr, .slice Aq d.recs.length cq] 28)) [.int .i64 c.num, .string c.client, .string c.text, .slice Ae c.edits.length ce, .slice Ac c.recs.length cc] 56
    simp only [World.size_alloc] at h1
    exact h1
  have hD : Blk ((w.alloc (.cells #[.slice Ar d.revs.length cr, .slice Aq d.recs.length cq] 28)).alloc (.cells #[.int .i64 c.num, .string c.client, .string c.text, .slice Ae c.edits.length ce, .slice Ac c.recs.length cc] 56)) w.heap.size 28 [.slice Ar d.revs.length cr, .slice Aq d.recs.length cq] := (blk_new w _ _).alloc _
  have HT := Lib.hid (fun T hT R g2 g3 W he hR hP hQ hD hC hRR => ckT5 T hT R d c Ar Aq Ae Ac cr cq ce cc g2 g3 W hb he hR hP hQ hD hC hRR)
  obtain ⟨V5, hV5⟩ : ∃ V5, V5 = (if d.revs.any (fun r => decide (c.num ≤ r.chg)) then 112 else (if everyE (lastOf d.revs) emptyS c.edits ≠ 0 then everyE (lastOf d.revs) emptyS c.edits else if movesE c.edits ≠ 0 then movesE c.edits else if recsE d.revs c ≠ 0 then recsE d.revs c else roomE d c)) := ⟨_, rfl⟩
  rw [← hV5] at HT
  have HA : Hid (appE d c = if c.edits.length = 0 ∨ 64 < c.edits.length ∨ 64 < c.recs.length then 110 else if c.num < 1 ∨ 1073741824 < c.num then 112 else V5) := Lib.hid (by
    rw [hV5]
    unfold appE firstE sizeE
    split
    · rfl
    · split
      · rfl
      · split
        · rfl
        · rw [if_neg (by simp)]
          show firstE _ = _
          by_cases h1 : everyE (lastOf d.revs) emptyS c.edits = 0
          · simp only [firstE, h1]
            by_cases h2 : movesE c.edits = 0
            · simp only [h2]
              by_cases h3 : recsE d.revs c = 0
              · simp only [h3]
                by_cases h4 : roomE d c = 0 <;> simp [h4]
              · simp [h3]
            · simp [h2]
          · simp [firstE, h1])
  generalize appE d c = VA at HA ⊢
  clear hb he hR hP hQ hV5
  go_enter Tryz.func57, Tryz.ntmps57
  go_upto_region 1 with fail
  generalize (w.alloc (.cells #[.slice Ar d.revs.length cr, .slice Aq d.recs.length cq] 28)).alloc (.cells #[.int .i64 c.num, .string c.client, .string c.text, .slice Ae c.edits.length ce, .slice Ac c.recs.length cc] 56) = W1 at hb0 hC hD ⊢
  have HC1 := Lib.hid hC
  have HD1 := Lib.hid hD
  have HW1 := Lib.hid hb0
  obtain ⟨k0, k1, k2, k3, k4⟩ := box5 hC
  clear hb0 hC hD
  go_cut [27] (fun v wx => ∃ bb, v = .bool bb ∧ Hid (wx = W1 ∧ bb = decide (c.edits.length = 0 ∨ 64 < c.edits.length ∨ 64 < c.recs.length)))
  case first =>
    by_cases h1 : c.edits.length = 0
    · have q1 : ((c.edits.length : Int) == 0) = true := by rw [beq_iff_eq]; omega
      have HF : Hid (true = decide (c.edits.length = 0 ∨ 64 < c.edits.length ∨ 64 < c.recs.length)) := Lib.hid (by simp [h1])
      have HZ := Lib.hid h1
      clear h1
      go_wp2_with fail
      go_meet
      exact ⟨true, by first | rfl | simp [HZ.out], rfl, HF.out⟩
    · have q1 : ((c.edits.length : Int) == 0) = false := by rw [beq_eq_false_iff_ne]; omega
      by_cases h2 : 64 < c.edits.length
      · have q2 : decide ((64 : Int) < (c.edits.length : Int)) = true := by simp; omega
        have HF : Hid (true = decide (c.edits.length = 0 ∨ 64 < c.edits.length ∨ 64 < c.recs.length)) := Lib.hid (by simp [h2])
        clear h1 h2
        go_wp2_with fail
        go_meet
        exact ⟨true, rfl, rfl, HF.out⟩
      · have q2 : decide ((64 : Int) < (c.edits.length : Int)) = false := by simp; omega
        by_cases h3 : 64 < c.recs.length
        · have q3 : decide ((64 : Int) < (c.recs.length : Int)) = true := by simp; omega
          have HF : Hid (true = decide (c.edits.length = 0 ∨ 64 < c.edits.length ∨ 64 < c.recs.length)) := Lib.hid (by simp [h3])
          clear h1 h2 h3
          go_wp2_with fail
          go_meet
          exact ⟨true, rfl, rfl, HF.out⟩
        · have q3 : decide ((64 : Int) < (c.recs.length : Int)) = false := by simp; omega
          have HF : Hid (false = decide (c.edits.length = 0 ∨ 64 < c.edits.length ∨ 64 < c.recs.length)) := Lib.hid (by rw [decide_eq_false (by omega)])
          clear h1 h2 h3
          go_wp2_with fail
          go_meet
          exact ⟨false, rfl, rfl, HF.out⟩
  case rest =>
    obtain ⟨bb, rfl, HV⟩ := hcut
    obtain rfl : wc = W1 := HV.out.1
    have HBB := Lib.hid HV.out.2
    clear HV
    cases bb with
    | true =>
      have HF : Hid (110 = VA) := Lib.hid (by rw [HA.out, if_pos (of_decide_eq_true HBB.out.symm)])
      go_wp2_with fail
      go_ret
      exact ⟨ret_int HF.out, HW1.out⟩
    | false =>
      have HA2 : Hid (VA = if c.num < 1 ∨ 1073741824 < c.num then 112 else V5) := Lib.hid (by rw [HA.out, if_neg (of_decide_eq_false HBB.out.symm)])
      clear HBB HA
      by_cases h1 : c.num ≤ 0
      · have q1 : decide (c.num ≤ 0) = true := by simpa using h1
        have HF : Hid (112 = VA) := Lib.hid (by rw [HA2.out, if_pos (by omega)])
        clear h1
        go_wp2_with fail
        go_ret
        exact ⟨ret_int HF.out, HW1.out⟩
      · have q1 : decide (c.num ≤ 0) = false := by simpa using h1
        by_cases h2 : 1073741824 < c.num
        · have q2 : decide (1073741824 < c.num) = true := by simpa using h2
          have HF : Hid (112 = VA) := Lib.hid (by rw [HA2.out, if_pos (by omega)])
          clear h1 h2
          go_wp2_with fail
          go_ret
          exact ⟨ret_int HF.out, HW1.out⟩
        · have q2 : decide (1073741824 < c.num) = false := by simpa using h2
          have HF : Hid (V5 = VA) := Lib.hid (by rw [HA2.out, if_neg (by omega)])
          clear h1 h2
          go_upto_if 35 with fail
          refine wp_cond_false rfl ?_
          refine wp_skip ?_
          have hk := ‹∀ (a : Act) (w : World), Code.wp _ _ _ a w → _›
          exact hk _ _ (HT.out _ (by kernel_rfl) _ _ _ _ (HEN.out.below HW1.out) (HR.out.below HW1.out) (HP.out.below HW1.out) (HQ.out.below HW1.out) HD1.out HC1.out (fun n w' hn hw => ⟨by rw [hn, HF.out], below_next HW1.out hw⟩) _ _ _ _ _ _ _ _ _ _ _ _ _ _ _ _ _ _ _ _ _ _ _ _ _ _ _ _ _ _ _ _ _ _ _ _ _ _ _ _ _ _ _ _ _ _ _ _ _ _ _ _ _ _ _ _ _ _ _ _ _ _ _ _ _ _ _ _ _ _ _ _ _ _ _ _ _ _ _ _ _ _ _ _ _ _ _ _ _ _ _ _ _ _ _ _ _ _ _ _ _ _ _)
end Go.Proofs.YtmhmnchdhacdbaaGreatDoor
