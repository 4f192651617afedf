/- The reference's Same: the walk. -/
import Derived.Test.YtnblfaagchflaaaGreatDoorMgw13
import Derived.Test.YtnblfaagchflaaaGreatDoorMgw18
import Derived.Test.YtnblfaagchflaaaGreatDoorMgw17
import Derived.Test.YtnblfaagchflaaaGreatDoorMgw4
import Derived.Test.YtnblfaagchflaaaGreatDoorMgw7
import Derived.Test.YtnblfaagchflaaaGreatDoorMgw6
import Derived.Deep.DeepCutAuto
namespace Go.Proofs.YtnblfaagchflaaaGreatDoor
open Go.RowKit
set_option linter.unusedVariables false
set_option linter.unusedSimpArgs false

def sameD (a b : Dep) : Bool := decide (a.revs = b.revs) && decide (a.recs = b.recs)
theorem same_no1 {a b : Dep} (h : a.revs ≠ b.revs) : sameD a b = false := by unfold sameD; rw [decide_eq_false h]; rfl
theorem same_no2 {a b : Dep} (h : a.recs ≠ b.recs) : sameD a b = false := by unfold sameD; rw [decide_eq_false h]; simp
theorem same_yes {a b : Dep} (h1 : a.revs = b.revs) (h2 : a.recs = b.recs) : sameD a b = true := by unfold sameD; rw [decide_eq_true h1, decide_eq_true h2]; rfl
end Go.Proofs.YtnblfaagchflaaaGreatDoor
/- The reference's examination of an edit, from the type on. -/
namespace Go.Proofs.YtnblfaagchflaaaGreatDoor
open Go.RowKit
set_option linter.unusedVariables false
set_option linter.unusedSimpArgs false

def typV (f : ByteArray → Option Rev) (x : Edt) : Int := if typeE f x = false then 116 else 0
set_option maxRecDepth 100000 in
set_option maxHeartbeats 8000000 in
theorem edT18 (T : Code) (hT : Tryz.f94.body.bind (tailAt 18) = some T) (R : Ending → World → Prop) (revs : List Rev) (c : Chg) (x : Edt) (Ar Ae Ac : Option Addr) (dr : Value) (cr ce cc g3 g4 g7 : Nat) (w4 : World)
    (hR : Revs w4 (.slice Ar revs.length cr) revs) (hl : revs.length ≤ 100000) (hlog : ∀ p, LogOk revs p) (hbs : 0 ≤ x.base ∧ x.base ≤ 1000000)
    (hD : Blk w4 g3 31 [.slice Ar revs.length cr, dr]) (hC : Blk w4 g4 53 [.int .i64 c.num, .string c.client, .string c.text, .slice Ae c.edits.length ce, .slice Ac c.recs.length cc]) (hX : Blk w4 g7 55 [.string x.path, .int .i64 x.act, .int .i64 x.ty.base, .bool x.ty.k, .bool x.ty.l, .bool x.ty.x, .int .u64 x.sum, .int .i64 x.size, .int .i64 x.base, .string x.frm, .int .i64 x.fnum, .int .i64 x.fence])
    (hRR : ∀ (n : Int) (w' : World), n = typV (lastOf revs) x → Below w4.heap.size w4 w' → R (.returned (.int .i64 n)) w')
    (u0 u1 u2 u5 u6 u8 u9 u10 u11 u12 u13 u14 u15 u16 u17 u18 u19 u20 u21 u22 u23 u24 u25 u26 u27 u28 u29 u30 u31 u32 u33 u34 u35 u36 u37 u38 u39 u40 u41 u42 u43 u44 u45 u46 u47 u48 u49 u50 u51 u52 u53 u54 u55 u56 u57 u58 u59 u60 u61 u62 u63 u64 u65 u66 u67 u68 u69 u70 u71 u72 u73 u74 u75 u76 u77 u78 u79 u80 u81 u82 u83 u84 u85 u86 u87 u88 u89 u90 u91 u92 u93 u94 u95 u96 u97 u98 u99 u100 u101 u102 u103 u104 u105 u106 u107 u108 u109 u110 u111 u112 u113 u114 u115 u116 u117 u118 u119 u120 u121 u122 u123 u124 u125 u126 u127 u128 u129 u130 u131 u132 u133 u134 u135 u136 u137 u138 u139 u140 u141 u142 u143 u144 u145 u146 u147 : Value) :
    T.wp Tryz.prog (bodyPost Tryz.prog Tryz.f94 R) ⟨#[u0, u1, u2, .pointer (some ⟨g3, 0, none⟩), .pointer (some ⟨g4, 0, none⟩), u5, u6, .pointer (some ⟨g7, 0, none⟩), u8, u9, u10, u11, u12, u13, u14, u15, u16, u17, u18, u19, u20, u21, u22, u23, u24, u25, u26, u27, u28, u29, u30, u31, u32, u33, u34, u35, u36, u37, u38, u39, u40, u41, u42, u43, u44, u45, u46, u47, u48, u49, u50, u51, u52, u53, u54, u55, u56, u57, u58, u59, u60, u61, u62, u63, u64, u65, u66, u67, u68, u69, u70, u71, u72, u73, u74, u75, u76, u77, u78, u79, u80, u81, u82, u83, u84, u85, u86, u87, u88, u89, u90, u91, u92, u93, u94, u95, u96, u97, u98, u99, u100, u101, u102, u103, u104, u105, u106, u107, u108, u109, u110, u111, u112, u113, u114, u115, u116, u117, u118, u119, u120, u121, u122, u123, u124, u125, u126, u127, u128, u129, u130, u131, u132, u133, u134, u135, u136, u137, u138, u139, u140, u141, u142, u143, u144, u145, u146, u147], []⟩ w4 := by
  simp only [Tryz.f94, Option.bind_some, tailAt, hasReg] at hT
  simp at hT
  subst hT
  have HRR := Lib.hid hRR
  have HR := Lib.hid hR
  have HLR := Lib.hid (fun p => someR_last hlog p)
  have HBS := Lib.hid hbs
  have HX4 := Lib.hid hX
  have HD4 := Lib.hid hD
  have HC4 := Lib.hid hC
  have HLAST := Lib.hid (fun p X (hX : Below w4.heap.size w4 X) => refLast_any revs p (.slice Ar revs.length cr) dr X (HR.out.below hX) (by omega))
  clear hRR hR hlog hbs hD hC hX
  generalize lastOf revs = f at HRR HLR ⊢
  obtain ⟨c0, c1, c2, c3, c4, c5, c6, c7, c8, c9, c10, c11⟩ := box12 HX4.out
  have HCK := Lib.hid (fun X => refCheck_any x.ty.base x.ty.k x.ty.l x.ty.x X)
  cases htk : tyOk x.ty.base x.ty.k x.ty.x with
  | false =>
    rw [htk] at HCK
    have HF : Hid (116 = typV f x) := Lib.hid (by unfold typV typeE Ty.ok; rw [htk]; rfl)
    clear htk
    go_wp2_with fail
    refine (HCK.out _).mono ?_
    rintro e w5 ⟨rfl, hb5⟩
    have HB5 := Lib.hid hb5
    clear hb5
    go_wp2_with fail
    exact HRR.out _ _ HF.out (HB5.out)
  | true =>
    rw [htk] at HCK
    have HTK := Lib.hid htk
    clear htk
    go_wp2_with fail
    refine (HCK.out _).mono ?_
    rintro e w5 ⟨rfl, hb5⟩
    have HW5 := Lib.hid hb5
    have HX5 := Lib.hid (HX4.out.below hb5 HX4.out.lt)
    have HD5 := Lib.hid (HD4.out.below hb5 HD4.out.lt)
    have HC5 := Lib.hid (HC4.out.below hb5 HC4.out.lt)
    clear hb5 c0 c1 c2 c3 c4 c5 c6 c7 c8 c9 c10 c11
    obtain ⟨c0, c1, c2, c3, c4, c5, c6, c7, c8, c9, c10, c11⟩ := box12 HX5.out
    by_cases hz : x.size < 0
    · have q : decide (x.size < 0) = true := by simp; omega
      have HF : Hid (116 = typV f x) := Lib.hid (by unfold typV typeE; rw [show decide (0 ≤ x.size) = false by simp; omega]; simp)
      clear hz
      go_wp2_with fail
      exact HRR.out _ _ HF.out (HW5.out)
    · have q : decide (x.size < 0) = false := by simp; omega
      have HO4 : Hid ((typV f x) = if (liveA x.act || (decide (x.ty = (lastR f x.path).ty) && (decide (x.sum = 0) && decide (x.size = 0)))) = false then 116 else 0) := Lib.hid (by
        unfold typV; rw [typeE_eq]; unfold Ty.ok; rw [HTK.out, show decide (0 ≤ x.size) = true by simp; omega]; rfl)
      clear hz
      obtain ⟨d0, d1, -, -⟩ := box2 HD5.out
      have HL2 := Lib.hid (HLAST.out x.path w5 HW5.out)
      go_wp2_with fail
      refine HL2.out.mono ?_
      rintro e w6 ⟨rfl, hb6⟩
      rw [HLR.out x.path]
      generalize lastR f x.path = r at HO4 ⊢
      generalize (rLast revs x.path).isSome = okb
      have hY := blk_new w6 [.string r.path, .int .i64 r.num, .int .i64 r.chg, .int .i64 r.act, .int .i64 r.ty.base, .bool r.ty.k, .bool r.ty.l, .bool r.ty.x, .int .u64 r.sum, .int .i64 r.size, .string r.frm, .int .i64 r.fnum] 40
      have hA6 : Below w5.heap.size w5 (w6.alloc (.cells #[.string r.path, .int .i64 r.num, .int .i64 r.chg, .int .i64 r.act, .int .i64 r.ty.base, .bool r.ty.k, .bool r.ty.l, .bool r.ty.x, .int .u64 r.sum, .int .i64 r.size, .string r.frm, .int .i64 r.fnum] 40)) := below_alloc' hb6 _
      clear hb6 c0 c1 c2 c3 c4 c5 c6 c7 c8 c9 c10 c11 d0 d1
      go_upto_region 21 with fail
      generalize w6.alloc (.cells #[.string r.path, .int .i64 r.num, .int .i64 r.chg, .int .i64 r.act, .int .i64 r.ty.base, .bool r.ty.k, .bool r.ty.l, .bool r.ty.x, .int .u64 r.sum, .int .i64 r.size, .string r.frm, .int .i64 r.fnum] 40) = w7 at hY hA6 ⊢
      generalize w6.heap.size = g14 at hY ⊢
      have HX7 := Lib.hid (HX5.out.below hA6 HX5.out.lt)
      have HC7 := Lib.hid (HC5.out.below hA6 HC5.out.lt)
      have HY := Lib.hid hY
      have HW7 := Lib.hid (below_next HW5.out hA6)
      clear hY hA6
      obtain ⟨c0, c1, c2, c3, c4, c5, c6, c7, c8, c9, c10, c11⟩ := box12 HX7.out
      obtain ⟨k0, k1, k2, k3, k4⟩ := box5 HC7.out
      have HMD := Lib.hid (refMade_any c.num c.client c.text Ae Ac c.edits.length c.recs.length ce cc x w7 HBS.out)
      go_wp2_with fail
      refine HMD.out.mono ?_
      rintro e w8 ⟨rfl, hb8⟩
      have HB8 := Lib.hid hb8
      clear hb8 c0 c1 c2 c3 c4 c5 c6 c7 c8 c9 c10 c11 k0 k1 k2 k3 k4
      have HGO := Lib.hid (refGone_any (madeX c.num x) w8)
      go_wp2_with fail
      refine HGO.out.mono ?_
      rintro e w9 ⟨rfl, hb9⟩
      have HB9 := Lib.hid (below_next HB8.out hb9)
      clear hb9
      obtain ⟨c0, c1, c2, c3, c4, c5, c6, c7, c8, c9, c10, c11⟩ := box12 (HX7.out.below HB9.out HX7.out.lt)
      obtain ⟨b0, b1, b2, b3, b4, b5, b6, b7, b8, b9, b10, b11⟩ := box12 (HY.out.below HB9.out HY.out.lt)
      have hact : (madeX c.num x).act = x.act := rfl
      rw [hact]
      clear hact
      have hty := run_neq_ty x.ty r.ty
      have hcn := run_neq_con x.sum x.size 0 0
      generalize (decide (x.sum = 0) && decide (x.size = 0)) = bc at hcn HO4
      generalize decide (x.ty = r.ty) = bt at hty HO4
      cases hlv : liveA x.act with
      | true =>
        have HF : Hid (0 = typV f x) := Lib.hid (by rw [HO4.out, hlv]; rfl)
        clear hlv
        go_wp2_with fail
        exact HRR.out _ _ HF.out (below_next HW7.out HB9.out)
      | false =>
        rw [hlv] at HO4
        clear hlv
        cases bt with
        | false =>
          go_wp2_with fail
          exact HRR.out _ _ HO4.out.symm (below_next HW7.out HB9.out)
        | true =>
          cases bc with
          | false =>
            go_wp2_with fail
            exact HRR.out _ _ HO4.out.symm (below_next HW7.out HB9.out)
          | true =>
            go_wp2_with fail
            exact HRR.out _ _ HO4.out.symm (below_next HW7.out HB9.out)
end Go.Proofs.YtnblfaagchflaaaGreatDoor
/- Patterns: the walk of Check. -/
namespace Go.Proofs.YtnblfaagchflaaaGreatDoor
open Go.RowKit
set_option linter.unusedVariables false
set_option linter.unusedSimpArgs false

theorem patE_0 {p : Pat} (h : p.parts.length = 0) : patE p = 30 := by unfold patE; rw [if_pos (.inl h)]
theorem patE_1 {p : Pat} (h : p.parts.length = 1) (hr : p.rest = false) : patE p = 30 := by unfold patE; rw [if_pos (.inr ⟨h, hr⟩)]
theorem patE_form {p : Pat} (h : partsOk p.parts = false) : patE p = 30 := by
  unfold patE
  by_cases h1 : p.parts.length = 0 ∨ (p.parts.length = 1 ∧ p.rest = false)
  · rw [if_pos h1]
  · rw [if_neg h1, if_pos h]
theorem patE_end {p : Pat} (h1 : ¬ (p.parts.length = 0 ∨ (p.parts.length = 1 ∧ p.rest = false))) (h : partsOk p.parts = true) : patE p = if 12 < p.parts.length then 31 else 0 := by
  unfold patE
  rw [if_neg h1, if_neg (by rw [h]; simp)]
theorem formI_cases (s : ByteArray) : formI s = 0 ∨ formI s = 1 ∨ formI s = 2 := by
  unfold formI
  split
  · exact .inr (.inl rfl)
  · split
    · split
      · exact .inr (.inr rfl)
      · exact .inl rfl
    · exact .inl rfl
set_option maxRecDepth 100000 in
set_option maxHeartbeats 4000000 in
theorem patCheck_any (p : Pat) (A : Option Addr) (c : Nat) (w : World) (hS : Strs w (.slice A p.parts.length c) p.parts) (hz : ∀ x ∈ p.parts, x.size ≤ maxLen) :
    Calls Tryz.prog 18 #[.agg #[.slice A p.parts.length c, .bool p.rest]] w fun e w' => e = .returned (.int .i64 (patE p)) ∧ Below w.heap.size w w' := by
  obtain ⟨A', c', e', hcc, hmm, -⟩ := id hS
  injection e' with e1 e2 e3
  subst e1 e3
  unfold maxLen at hmm
  have HS := Lib.hid hS
  have HZ := Lib.hid hz
  have HF := Lib.hid (fun x (hx : x.size ≤ maxLen) X => formOf_any x X hx)
  obtain ⟨parts, rest⟩ := p
  dsimp only at hcc hmm HS HZ ⊢
  have HE0 := Lib.hid (@patE_0 ⟨parts, rest⟩)
  have HE1 := Lib.hid (@patE_1 ⟨parts, rest⟩)
  have HEF := Lib.hid (@patE_form ⟨parts, rest⟩)
  have HEE := Lib.hid (@patE_end ⟨parts, rest⟩)
  have hB := blk_new w [.slice A parts.length c, .bool rest] 25
  have hA : Below w.heap.size w (w.alloc (.cells #[.slice A parts.length c, .bool rest] 25)) := (Below.refl _ _).alloc (Nat.le_refl _) _
  clear hS hz e2
  go_enter Tryz.func18, Tryz.ntmps18
  go_upto_region 1 with fail
  generalize w.alloc (.cells #[.slice A parts.length c, .bool rest] 25) = W1 at hB hA ⊢
  have d0 : W1.cell? ⟨w.heap.size, 0, none⟩ = some (.slice A parts.length c) := hB.cell 0
  have d1 : W1.cell? ⟨w.heap.size, 1, none⟩ = some (.bool rest) := hB.cell 1
  have HB := Lib.hid hB
  have HA := Lib.hid hA
  clear hB hA
  by_cases h0 : parts.length = 0
  · have q0 : ((parts.length : Int) == 0) = true := by rw [beq_iff_eq]; omega
    have HR := Lib.hid (HE0.out h0)
    clear h0
    go_wp2_with fail
    go_ret
    exact ⟨ret_intP HR.out.symm, HA.out⟩
  have q0 : ((parts.length : Int) == 0) = false := by rw [beq_eq_false_iff_ne]; omega
  have HN1 : Hid (parts.length = 1 ∧ rest = false ∨ ¬ (parts.length = 0 ∨ (parts.length = 1 ∧ rest = false))) := Lib.hid (by
    by_cases h : parts.length = 1 ∧ rest = false
    · exact .inl h
    · exact .inr (fun hh => by rcases hh with hh | hh; exact h0 hh; exact h hh))
  clear h0
  rcases HN1.out with ⟨h1, hr⟩ | hgood
  · have q1 : ((parts.length : Int) == 1) = true := by rw [beq_iff_eq]; omega
    have HR := Lib.hid (HE1.out h1 hr)
    subst hr
    clear h1 HN1
    go_wp2_with fail
    go_ret
    exact ⟨ret_intP HR.out.symm, HA.out⟩
  have HG := Lib.hid hgood
  clear HN1 hgood
  go_cut [19] (fun v wx => v = .bool false ∧ wx = W1)
  case first =>
    by_cases h1 : parts.length = 1
    · have q1 : ((parts.length : Int) == 1) = true := by rw [beq_iff_eq]; omega
      have hr : rest = true := by
        cases rest with
        | true => rfl
        | false => exact absurd (.inr ⟨h1, rfl⟩) HG.out
      subst hr
      clear h1
      go_wp2_with fail
      go_meet
      exact ⟨rfl, rfl⟩
    · have q1 : ((parts.length : Int) == 1) = false := by rw [beq_eq_false_iff_ne]; omega
      clear h1
      go_wp2_with fail
      go_meet
      exact ⟨rfl, rfl⟩
  case rest =>
    obtain ⟨rfl, rfl⟩ := hcut
    clear q0
    go_wp2_with fail
    go_loop [23] (fun i => ∃ k : Nat, k ≤ parts.length ∧ i = .int .i64 k ∧ Hid (∀ j (hj : j < parts.length), j < k → partOk j parts[j] = true)) (fun i => parts.length - (intOf i).toNat)
    case atStart => exact ⟨0, Nat.zero_le _, rfl, fun j _ a => by omega⟩
    case round =>
      obtain ⟨k, hk, rfl, HI⟩ := hrel
      by_cases hlt : k < parts.length
      · obtain ⟨ad, rfl, hab, x0⟩ := Strs.at_ (HS.out.below HA.out) hlt
        have HX := Lib.hid (HF.out parts[k] (HZ.out _ (List.getElem_mem hlt)))
        have HNO := Lib.hid (fun h => HEF.out (partsOk_no hlt h))
        have HYS : Hid (partOk k parts[k] = true → ∀ j (hj : j < parts.length), j < k + 1 → partOk j parts[j] = true) := Lib.hid (fun h j hj a => by
          by_cases e : j = k
          · subst e; exact h
          · exact HI.out j hj (by omega))
        have HPO : Hid (partOk k parts[k] = (decide (formI parts[k] ≠ 0) && !(decide (k = 0) && decide (formI parts[k] = 2)))) := Lib.hid rfl
        have hfc := formI_cases parts[k]
        generalize parts[k] = x at x0 HX HNO HYS HPO hfc
        generalize formI x = f at HX HPO hfc
        clear HI
        rcases hfc with rfl | rfl | rfl
        · have HR := Lib.hid (HNO.out (by rw [HPO.out]; rfl))
          go_wp2_with (go_at_call 48; refine (HX.out _).mono ?_; rintro e w' ⟨rfl, rfl⟩)
          go_ret
          exact ⟨ret_intP HR.out.symm, HA.out⟩
        · have HR := Lib.hid (HYS.out (by rw [HPO.out]; simp))
          go_wp2_with (go_at_call 48; refine (HX.out _).mono ?_; rintro e w' ⟨rfl, rfl⟩)
          go_round
          case rel => exact ⟨k + 1, by omega, by go_num, HR.out⟩
          case measure => simp [intOf]; omega
        · by_cases hk0 : k = 0
          · have HR := Lib.hid (HNO.out (by rw [HPO.out, hk0]; rfl))
            have qk : ((k : Int) == 0) = true := by rw [beq_iff_eq]; omega
            have HK := Lib.hid hk0
            clear hk0
            go_wp2_with (go_at_call 48; refine (HX.out _).mono ?_; rintro e w' ⟨rfl, rfl⟩)
            go_ret
            exact ⟨ret_intP HR.out.symm, HA.out⟩
          · have HR := Lib.hid (HYS.out (by rw [HPO.out]; simp [hk0]))
            have qk : ((k : Int) == 0) = false := by rw [beq_eq_false_iff_ne]; omega
            clear hk0
            go_wp2_with (go_at_call 48; refine (HX.out _).mono ?_; rintro e w' ⟨rfl, rfl⟩)
            go_round
            case rel => exact ⟨k + 1, by omega, by go_num, HR.out⟩
            case measure => simp [intOf]; omega
      · have HR := Lib.hid (HEE.out HG.out (partsOk_yes (fun j hj => HI.out j hj (by omega))))
        have hge : ¬ ((k : Int) < (parts.length : Int)) := by omega
        clear HI
        by_cases h12 : 12 < parts.length
        · have q12 : decide ((12 : Int) < (parts.length : Int)) = true := by simp; omega
          rw [if_pos h12] at HR
          clear h12
          go_wp2_with fail
          go_ret
          exact ⟨ret_intP HR.out.symm, HA.out⟩
        · have q12 : decide ((12 : Int) < (parts.length : Int)) = false := by simp; omega
          rw [if_neg h12] at HR
          clear h12
          go_wp2_with fail
          go_ret
          exact ⟨ret_intP HR.out.symm, HA.out⟩
end Go.Proofs.YtnblfaagchflaaaGreatDoor
/- Patterns: the walk of MatchPart. -/
namespace Go.Proofs.YtnblfaagchflaaaGreatDoor
open Go.RowKit
set_option linter.unusedVariables false
set_option linter.unusedSimpArgs false

def sufS (part : ByteArray) : ByteArray := part.extract 1 part.size
/-- What a component captures of a part, and whether it matches. -/
def capV (part comp : ByteArray) : ByteArray := if starS part then ⟨(Lib.trimSuffix comp.data.toList (sufS part).data.toList).toArray⟩ else emptyS
def capB (part comp : ByteArray) : Bool := if starS part then Lib.hasSuffix comp.data.toList (sufS part).data.toList && !decide (capV part comp = emptyS) else decide (part = comp)
theorem star_size {s : ByteArray} (h : starS s = true) : 1 ≤ s.size := by
  rcases Nat.eq_zero_or_pos s.size with h0 | h0
  · have : s.data.toList = [] := List.eq_nil_of_length_eq_zero (by simpa using h0)
    unfold starS at h
    rw [this] at h; cases h
  · exact h0
theorem str_eqP (a b : ByteArray) : (a.toList == b.toList) = decide (a = b) := by
  rw [Bool.eq_iff_iff, beq_iff_eq, decide_eq_true_eq, toList_inj]
theorem ret_sb {x y : ByteArray} {a b : Bool} (h1 : x = y) (h2 : a = b) : Ending.returned (.tuple #[.string x, .bool a]) = .returned (.tuple #[.string y, .bool b]) := by rw [h1, h2]
set_option maxHeartbeats 1000000 in
theorem matchPart_any (part comp : ByteArray) (w : World) (hp : part.size ≤ 9223372036854775807) (hs : comp.size ≤ 9223372036854775807) :
    Calls Tryz.prog 29 #[.string part, .string comp] w fun e w' => e = .returned (.tuple #[.string (capV part comp), .bool (capB part comp)]) ∧ w = w' := by
  have HI := Lib.hid (isStar_any part w)
  have HC := Lib.hid (Tryz.strings_CutSuffix comp (part.extract 1 part.size) w hs)
  cases hst : starS part with
  | false =>
    have HV : Hid (capV part comp = ⟨#[]⟩ ∧ capB part comp = decide (part = comp)) := Lib.hid (by unfold capV capB; rw [hst]; exact ⟨rfl, rfl⟩)
    have HE := Lib.hid (str_eqP part comp)
    rw [hst] at HI
    clear hst
    go_enter Tryz.func29, Tryz.ntmps29
    go_wp2_with (go_at_call 30; refine HI.out.mono ?_; rintro e w' ⟨rfl, rfl⟩)
    go_ret2
    exact ⟨ret_sb HV.out.1.symm (by rw [HV.out.2]; exact HE.out), rfl⟩
  | true =>
    have h1 : 1 ≤ part.size := star_size hst
    have HV : Hid (capV part comp = ⟨(Lib.trimSuffix comp.data.toList (sufS part).data.toList).toArray⟩ ∧ capB part comp = (Lib.hasSuffix comp.data.toList (sufS part).data.toList && !decide (capV part comp = emptyS))) := Lib.hid ⟨by unfold capV; rw [hst]; rfl, by unfold capB; rw [hst]; rfl⟩
    rw [hst] at HI
    clear hst
    change Hid (Calls Tryz.prog 56 #[.string comp, .string (part.extract 1 part.size)] w fun e w' => e = .returned (.tuple #[.string ⟨(Lib.trimSuffix comp.data.toList (sufS part).data.toList).toArray⟩, .bool (Lib.hasSuffix comp.data.toList (sufS part).data.toList)]) ∧ w' = w) at HC
    generalize (⟨(Lib.trimSuffix comp.data.toList (sufS part).data.toList).toArray⟩ : ByteArray) = x at HC HV
    generalize Lib.hasSuffix comp.data.toList (sufS part).data.toList = ok at HC HV
    have HE := Lib.hid (str_eqP x ⟨#[]⟩)
    go_enter Tryz.func29, Tryz.ntmps29
    cases ok with
    | false =>
      go_wp2_with (first
        | (go_at_call 30; refine HI.out.mono ?_; rintro e w' ⟨rfl, rfl⟩)
        | (go_at_call 56; refine HC.out.mono ?_; rintro e w' ⟨rfl, rfl⟩))
      go_ret2
      exact ⟨ret_sb HV.out.1.symm (by rw [HV.out.2]; rfl), rfl⟩
    | true =>
      by_cases hx : x = ⟨#[]⟩
      · have HX := Lib.hid hx
        have q : (x.toList == (⟨#[]⟩ : ByteArray).toList) = true := by rw [HE.out]; simpa using hx
        have q2 : x.toList = [] := by rw [hx, ByteArray.toList_eq]
        clear hx
        go_wp2_with (first
          | (go_at_call 30; refine HI.out.mono ?_; rintro e w' ⟨rfl, rfl⟩)
          | (go_at_call 56; refine HC.out.mono ?_; rintro e w' ⟨rfl, rfl⟩))
        go_ret2
        exact ⟨ret_sb HV.out.1.symm (by rw [HV.out.2, HV.out.1, HX.out]; rfl), rfl⟩
      · have HX := Lib.hid hx
        have q : (x.toList == (⟨#[]⟩ : ByteArray).toList) = false := by rw [HE.out]; simpa using hx
        have q2 : ¬ x.toList = [] := fun h => hx (toList_inj.1 (h.trans (by rw [ByteArray.toList_eq])))
        have q3 : x.toList.isEmpty = false := by cases hh : x.toList; exact absurd hh q2; rfl
        clear hx
        go_wp2_with (first
          | (go_at_call 30; refine HI.out.mono ?_; rintro e w' ⟨rfl, rfl⟩)
          | (go_at_call 56; refine HC.out.mono ?_; rintro e w' ⟨rfl, rfl⟩))
        go_ret2
        exact ⟨ret_sb HV.out.1.symm (by rw [HV.out.2, HV.out.1, decide_eq_false (show ¬ x = emptyS from HX.out)]; rfl), rfl⟩
end Go.Proofs.YtnblfaagchflaaaGreatDoor
/- Patterns: the walk of Match. -/
namespace Go.Proofs.YtnblfaagchflaaaGreatDoor
open Go.RowKit
set_option linter.unusedVariables false
set_option linter.unusedSimpArgs false

theorem strElemP : ElemOk Tryz.prog 23 9 1 16 := elemOk_of Tryz.underlying23 (z := .string ⟨#[]⟩) (by kernel_rfl) rfl (by decide)
def prtAt (l : List ByteArray) (j : Nat) : ByteArray := (l[j]?).getD emptyS
def compAt (cs : List (List UInt8)) (j : Nat) : ByteArray := baL ((cs[j]?).getD [])
/-- The first k parts match. -/
def zipB (parts : List ByteArray) (cs : List (List UInt8)) (k : Nat) : Bool := (List.range k).all fun j => capB (prtAt parts j) (compAt cs j)
/-- What the wildcards among the first k parts capture. -/
def zipC (parts : List ByteArray) (cs : List (List UInt8)) : Nat → List ByteArray
  | 0 => []
  | k + 1 => zipC parts cs k ++ (if starS (prtAt parts k) then [capV (prtAt parts k) (compAt cs k)] else [])
def fitsB (p : Pat) (cs : List (List UInt8)) : Bool := decide (p.parts.length ≤ cs.length) && (decide (p.parts.length < cs.length) == p.rest)
def capsP (p : Pat) (cs : List (List UInt8)) : List ByteArray := zipC p.parts cs p.parts.length ++ (if p.rest then [baL (Lib.join (cs.drop p.parts.length) [47])] else [])
/-- What Match answers: the captures, or none. -/
def matchP (p : Pat) (s : ByteArray) : Option (List ByteArray) :=
  match dirL s.data.toList 2 with
  | none => none
  | some cs => if patE p = 0 ∧ fitsB p cs = true ∧ zipB p.parts cs p.parts.length = true then some (capsP p cs) else none
theorem zipB_next {parts : List ByteArray} {cs : List (List UInt8)} {k : Nat} : zipB parts cs (k + 1) = (zipB parts cs k && capB (prtAt parts k) (compAt cs k)) := by
  unfold zipB
  rw [List.range_succ, List.all_append]; simp
theorem zipB_no {parts : List ByteArray} {cs : List (List UInt8)} {k n : Nat} (hk : k < n) (h : capB (prtAt parts k) (compAt cs k) = false) : zipB parts cs n = false := by
  unfold zipB
  rw [List.all_eq_false]
  exact ⟨k, List.mem_range.2 hk, by rw [h]; simp⟩
theorem zipC_len {parts : List ByteArray} {cs : List (List UInt8)} : ∀ k, (zipC parts cs k).length ≤ k
  | 0 => Nat.le_refl _
  | k + 1 => by
    have := zipC_len (parts := parts) (cs := cs) k
    show (zipC parts cs k ++ _).length ≤ k + 1
    rw [List.length_append]
    split
    · simp; omega
    · simp; omega
/-- What Match leaves. -/
def MatchPost (w : World) (p : Pat) (s : ByteArray) (e : Ending) (w' : World) : Prop := ∃ A n c, e = .returned (.tuple #[.slice A n c, .bool (matchP p s).isSome]) ∧ Below w.heap.size w w' ∧ ∀ l, matchP p s = some l → n = l.length ∧ Strs w' (.slice A n c) l
set_option maxRecDepth 100000 in
set_option maxHeartbeats 4000000 in
theorem split_pat (s : ByteArray) (w : World) (he : Env w) (hs : s.size ≤ 2000000) :
    Calls Tryz.prog 28 #[.string s] w fun e w' => (dirL s.data.toList 2 = none ∧ e = .returned (.tuple #[.slice none 0 0, .bool false]) ∧ Below w.heap.size w w') ∨ ∃ cs, dirL s.data.toList 2 = some cs ∧ e = .returned (.tuple #[.slice (some ⟨w.heap.size, 0, none⟩) cs.length cs.length, .bool true]) ∧ w.alloc (.cells (strCells cs).toArray 9) = w' := by
  cases hd : dirL s.data.toList 2 with
  | none =>
    have H := Lib.hid (split_none s w he hs hd)
    clear hd he
    go_enter Tryz.func28, Tryz.ntmps28
    go_wp2_with fail
    refine H.out.mono ?_
    rintro e w' ⟨rfl, hb⟩
    have HB := Lib.hid hb
    clear hb
    go_wp2_with fail
    go_ret2
    exact .inl ⟨by first | rfl | trivial, rfl, HB.out⟩
  | some cs =>
    have H := Lib.hid (split_some s cs w he hs hd)
    clear hd he
    generalize hW : w.alloc (.cells (strCells cs).toArray 9) = W at H
    have HW := Lib.hid hW
    clear hW
    go_enter Tryz.func28, Tryz.ntmps28
    go_wp2_with fail
    refine H.out.mono ?_
    rintro e w' ⟨rfl, rfl⟩
    go_wp2_with fail
    go_ret2
    exact .inr ⟨cs, rfl, rfl, HW.out⟩
end Go.Proofs.YtnblfaagchflaaaGreatDoor
/- Region 3 of HistoryOnce: the change appended to what the changes make. -/
namespace Go.Proofs.YtnblfaagchflaaaGreatDoor
open Go.RowKit
set_option linter.unusedVariables false
set_option linter.unusedSimpArgs false

/-- What region 3 of HistoryOnce leaves. -/
def R3Post (V w' : World) (g7 : Nat) (err : Int) (c : Chg) : Prop :=
  Below V.heap.size V w' ∧ V.heap.size ≤ g7 ∧ (err ≠ 0 ∨ err = 0 ∧ ∃ d rs dv dr, appE d c = 0 ∧ Blk w' g7 31 [dv, dr] ∧ DepAt w' dv dr ⟨newRevs d c, rs⟩ ∧ Fresh V.heap.size dv ∧ Fresh V.heap.size dr)
/-- What Append leaves, both ways in one form. -/
def ApU (w : World) (d : Dep) (c : Chg) (e : Ending) (w' : World) : Prop :=
  ∃ A5 n5 c5 A6 n6 c6 err, e = .returned (.tuple #[.agg #[.slice A5 n5 c5, .slice A6 n6 c6], .int .i64 err]) ∧ Below w.heap.size w w' ∧ err = appE d c ∧ (err ≠ 0 ∧ A5 = none ∧ n5 = 0 ∧ c5 = 0 ∧ A6 = none ∧ n6 = 0 ∧ c6 = 0 ∨ err = 0 ∧ appE d c = 0 ∧ ∃ rs, rs.Perm (d.recs ++ c.recs) ∧ rs.Pairwise (fun a b => 0 ≤ cmpR b a) ∧ DepAt w' (.slice A5 n5 c5) (.slice A6 n6 c6) ⟨newRevs d c, rs⟩) ∧ Fresh w.heap.size (.slice A5 n5 c5) ∧ Fresh w.heap.size (.slice A6 n6 c6)
theorem append_u (d : Dep) (c : Chg) (dv dr ev rv : Value) (w : World) (hd : DepAt w dv dr d) (hE : Edts w ev c.edits) (hC : Rcds w rv c.recs) (hW : ChgW c) :
    Calls Tryz.prog 15 #[.agg #[dv, dr], .agg #[.int .i64 c.num, .string c.client, .string c.text, ev, rv]] w (ApU w d c) :=
  (append_any d c dv dr ev rv w hd.1 hd.2.1 hE hC hd.2.2 hW).mono fun e w' h => by
    obtain ⟨hb, ⟨h0, rfl⟩ | ⟨h0, dv', dr', rs, rfl, h1, h2, h3, h4, h5, h6⟩⟩ := h
    · exact ⟨none, 0, 0, none, 0, 0, appE d c, rfl, hb, rfl, .inl ⟨h0, rfl, rfl, rfl, rfl, rfl, rfl⟩, fun x e => (by cases e), fun x e => (by cases e)⟩
    · obtain ⟨A5, c5, e5, -⟩ := id h1
      obtain ⟨A6, c6, e6, -⟩ := id h2
      subst e5 e6
      exact ⟨_, _, _, _, _, _, 0, rfl, hb, h0.symm, .inr ⟨rfl, h0, rs, h3, h4, h1, h2, appE_keeps hd.2.2 hW h0 rs h3⟩, h5, h6⟩
theorem r3_any {V w6 : World} {c : Chg} {d : Dep} {A5 A6 : Option Addr} {n5 n6 c5 c6 : Nat} {err : Int} (h : Below V.heap.size V w6) (f1 : Fresh V.heap.size (.slice A5 n5 c5)) (f2 : Fresh V.heap.size (.slice A6 n6 c6)) (hd : err ≠ 0 ∧ A5 = none ∧ n5 = 0 ∧ c5 = 0 ∧ A6 = none ∧ n6 = 0 ∧ c6 = 0 ∨ err = 0 ∧ appE d c = 0 ∧ ∃ rs, rs.Perm (d.recs ++ c.recs) ∧ rs.Pairwise (fun a b => 0 ≤ cmpR b a) ∧ DepAt w6 (.slice A5 n5 c5) (.slice A6 n6 c6) ⟨newRevs d c, rs⟩) :
    R3Post V (w6.alloc (.cells #[.slice A5 n5 c5, .slice A6 n6 c6] 31)) w6.heap.size err c := by
  refine ⟨below_alloc' h _, h.size, ?_⟩
  rcases hd with h1 | ⟨h1, h2, rs, -, -, h3⟩
  · exact .inl h1.1
  · exact .inr ⟨h1, d, rs, _, _, h2, blk_new w6 _ _, h3.below ((Below.refl _ _).alloc (Nat.le_refl _) _), f1, f2⟩

theorem r3_set {V X w6 : World} {c : Chg} {d : Dep} {A5 A6 : Option Addr} {n5 n6 c5 c6 g7 : Nat} {err : Int} {a b : Value} (h : Below V.heap.size V w6) (hb : Blk w6 g7 31 [a, b]) (hg : V.heap.size ≤ g7) (hX : g7 < X.heap.size) (f1 : Fresh X.heap.size (.slice A5 n5 c5)) (f2 : Fresh X.heap.size (.slice A6 n6 c6))
    (hd : err ≠ 0 ∧ A5 = none ∧ n5 = 0 ∧ c5 = 0 ∧ A6 = none ∧ n6 = 0 ∧ c6 = 0 ∨ err = 0 ∧ appE d c = 0 ∧ ∃ rs, rs.Perm (d.recs ++ c.recs) ∧ rs.Pairwise (fun a b => 0 ≤ cmpR b a) ∧ DepAt w6 (.slice A5 n5 c5) (.slice A6 n6 c6) ⟨newRevs d c, rs⟩) :
    R3Post V ((w6.setCell ⟨g7, 0, none⟩ (.slice A5 n5 c5)).setCell ⟨g7, 1, none⟩ (.slice A6 n6 c6)) g7 err c := by
  have n1 : (Value.slice A5 n5 c5).ownBlock ≠ some g7 := fun e => by have := f1 _ e; omega
  have n2 : (Value.slice A6 n6 c6).ownBlock ≠ some g7 := fun e => by have := f2 _ e; omega
  refine ⟨(h.setCell (p := ⟨g7, 0, none⟩) hg _).setCell (p := ⟨g7, 1, none⟩) hg _, hg, ?_⟩
  rcases hd with h1 | ⟨h1, h2, rs, -, -, h3⟩
  · exact .inl h1.1
  · exact .inr ⟨h1, d, rs, _, _, h2, (hb.set_ 0 _).set_ 1 _, (h3.setCell n1 n2).setCell n1 n2, fun x e => Nat.le_trans hg (Nat.le_trans (Nat.le_of_lt hX) (f1 x e)), fun x e => Nat.le_trans hg (Nat.le_trans (Nat.le_of_lt hX) (f2 x e))⟩

end Go.Proofs.YtnblfaagchflaaaGreatDoor
/- HistoryOnce: the walk. -/
namespace Go.Proofs.YtnblfaagchflaaaGreatDoor
open Go.RowKit
set_option linter.unusedVariables false
set_option linter.unusedSimpArgs false

theorem smallL_init {l : List Chg} {c : Chg} (h : smallL (l ++ [c])) : smallL l ∧ chgSm c ∧ chgLen c ≤ 200 := by
  obtain ⟨h1, h2, h3⟩ := h
  rw [lenSum_snoc] at h3
  rw [List.length_append] at h2
  exact ⟨⟨fun x hx => h1 x (List.mem_append_left _ hx), by simp at h2; omega, by omega⟩, h1 c (by simp), by omega⟩
end Go.Proofs.YtnblfaagchflaaaGreatDoor
