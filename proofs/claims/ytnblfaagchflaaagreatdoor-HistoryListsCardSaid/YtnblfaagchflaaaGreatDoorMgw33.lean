/- The reference's record: the bounds. -/
import Derived.Test.YtnblfaagchflaaaGreatDoorMgw32
namespace Go.Proofs.YtnblfaagchflaaaGreatDoor
open Go.RowKit
set_option linter.unusedVariables false
set_option linter.unusedSimpArgs false

/-- What is left to say of a record whose edit is known. -/
def rcVal (revs : List Rev) (c : Chg) (x : Rcd) (o : Option Edt) : Bool := match o with | none => false | some t => decide (1 ≤ x.first ∧ x.first ≤ x.last ∧ x.last ≤ (logOf revs x.frm).length) && (refSteps revs x && ((decide (t.act = 1) || !decide (rFirst revs (someR (rPrev revs (madeX c.num t))) = refLine revs x)) && (refCopy revs t x && refIgn revs c.recs t x)))
theorem rcVal_no2 {revs : List Rev} {c : Chg} {x : Rcd} {o : Option Edt} (h : ¬ (1 ≤ x.first ∧ x.first ≤ x.last ∧ x.last ≤ (logOf revs x.frm).length)) : rcVal revs c x o = false := by
  cases o with
  | none => rfl
  | some t => unfold rcVal; rw [decide_eq_false h]; rfl
theorem rcVal_yes {revs : List Rev} {c : Chg} {x : Rcd} {t : Edt} (h : 1 ≤ x.first ∧ x.first ≤ x.last ∧ x.last ≤ (logOf revs x.frm).length) : rcVal revs c x (some t) = (refSteps revs x && ((decide (t.act = 1) || !decide (rFirst revs (someR (rPrev revs (madeX c.num t))) = refLine revs x)) && (refCopy revs t x && refIgn revs c.recs t x))) := by
  show (decide _ && _) = _
  rw [decide_eq_true h]
  exact Bool.true_and _
set_option maxRecDepth 100000 in
set_option maxHeartbeats 8000000 in
theorem rcT17 (T : Code) (hT : Tryz.f96.body.bind (tailAt 17) = some T) (R : Ending → World → Prop) (revs : List Rev) (c : Chg) (x : Rcd) (o : Option Edt) (t : Edt) (Ar Ae Ac : Option Addr) (dr : Value) (cr ce cc g3 g4 g7 g8 : Nat) (w : World)
    (hR : Revs w (.slice Ar revs.length cr) revs) (hl : revs.length ≤ 100000) (hns : ∀ r ∈ revs, 0 ≤ r.num ∧ r.num ≤ 1000000) (ho : t = o.getD zeroEdt) (hact : ∀ y, o = some y → 1 ≤ y.act) (hbs : 0 ≤ t.base ∧ t.base ≤ 100000)
    (hD : Blk w g3 31 [.slice Ar revs.length cr, dr])
    (hC : Blk w g4 53 [.int .i64 c.num, .string c.client, .string c.text, .slice Ae c.edits.length ce, .slice Ac c.recs.length cc])
    (hX : Blk w g7 57 [.string x.frm, .int .i64 x.first, .int .i64 x.last, .string x.to, .int .i64 x.num, .int .i64 x.how])
    (hE : Blk w g8 55 [.string t.path, .int .i64 t.act, .int .i64 t.ty.base, .bool t.ty.k, .bool t.ty.l, .bool t.ty.x, .int .u64 t.sum, .int .i64 t.size, .int .i64 t.base, .string t.frm, .int .i64 t.fnum, .int .i64 t.fence])
    (hRR : ∀ (b : Bool) (w' : World), b = rcVal revs c x o → Below w.heap.size w w' → R (.returned (.bool b)) w')
    (u0 u1 u2 u5 u6 u10 u11 u12 u13 u14 u15 u16 u17 u18 u19 u20 u21 u22 u23 u24 u25 u26 u27 u28 u29 u30 u31 u32 u33 u34 u35 u36 u37 u38 u39 u40 u41 u42 u43 u44 u45 u46 u47 u48 u49 u50 u51 u52 u53 u54 u55 u56 u57 u58 u59 u60 u61 u62 u63 u64 u65 u66 u67 u68 u69 u70 u71 u72 u73 u74 u75 u76 u77 u78 u79 u80 u81 u82 u83 u84 u85 u86 u87 u88 u89 u90 u91 u92 u93 u94 u95 u96 u97 u98 u99 u100 u101 u102 u103 u104 u105 u106 u107 u108 u109 u110 u111 u112 u113 u114 u115 u116 u117 u118 u119 u120 u121 u122 u123 u124 u125 u126 u127 u128 u129 u130 u131 u132 u133 u134 u135 u136 u137 u138 u139 u140 u141 u142 u143 u144 u145 u146 u147 u148 u149 u150 u151 u152 u153 u154 u155 u156 u157 u158 u159 u160 u161 u162 u163 u164 u165 u166 u167 u168 u169 u170 u171 u172 u173 u174 u175 u176 u177 u178 u179 u180 u181 u182 u183 u184 u185 u186 u187 u188 u189 u190 u191 u192 u193 u194 u195 u196 u197 u198 u199 u200 u201 u202 u203 u204 u205 u206 u207 u208 u209 u210 u211 u212 u213 u214 u215 u216 u217 u218 u219 u220 u221 u222 u223 u224 u225 u226 u227 u228 u229 u230 u231 u232 u233 u234 u235 u236 u237 u238 u239 u240 u241 u242 : Value) :
    T.wp Tryz.prog (bodyPost Tryz.prog Tryz.f96 R) ⟨#[u0, u1, u2, .pointer (some ⟨g3, 0, none⟩), .pointer (some ⟨g4, 0, none⟩), u5, u6, .pointer (some ⟨g7, 0, none⟩), .pointer (some ⟨g8, 0, none⟩), .bool (ignB c.recs x), u10, u11, u12, u13, u14, u15, u16, u17, u18, u19, u20, u21, u22, u23, u24, u25, u26, u27, u28, u29, u30, u31, u32, u33, u34, u35, u36, u37, u38, u39, u40, u41, u42, u43, u44, u45, u46, u47, u48, u49, u50, u51, u52, u53, u54, u55, u56, u57, u58, u59, u60, u61, u62, u63, u64, u65, u66, u67, u68, u69, u70, u71, u72, u73, u74, u75, u76, u77, u78, u79, u80, u81, u82, u83, u84, u85, u86, u87, u88, u89, u90, u91, u92, u93, u94, u95, u96, u97, u98, u99, u100, u101, u102, u103, u104, u105, u106, u107, u108, u109, u110, u111, u112, u113, u114, u115, u116, u117, u118, u119, u120, u121, u122, u123, u124, u125, u126, u127, u128, u129, u130, u131, u132, u133, u134, u135, u136, u137, u138, u139, u140, u141, u142, u143, u144, u145, u146, u147, u148, u149, u150, u151, u152, u153, u154, u155, u156, u157, u158, u159, u160, u161, u162, u163, u164, u165, u166, u167, u168, u169, u170, u171, u172, u173, u174, u175, u176, u177, u178, u179, u180, u181, u182, u183, u184, u185, u186, u187, u188, u189, u190, u191, u192, u193, u194, u195, u196, u197, u198, u199, u200, u201, u202, u203, u204, u205, u206, u207, u208, u209, u210, u211, u212, u213, u214, u215, u216, u217, u218, u219, u220, u221, u222, u223, u224, u225, u226, u227, u228, u229, u230, u231, u232, u233, u234, u235, u236, u237, u238, u239, u240, u241, u242], []⟩ w := by
  simp only [Tryz.f96, Option.bind_some, tailAt, hasReg] at hT
  simp at hT
  subst hT
  have HRR := Lib.hid hRR
  have HR := Lib.hid hR
  clear hRR hR
  have HD := Lib.hid hD
  have HC := Lib.hid hC
  have HX := Lib.hid hX
  have HE := Lib.hid hE
  have HT := Lib.hid (fun T hT R W hR hfl hD hC hX hE hRR => rcT19 T hT R revs c x t Ar Ae Ac dr cr ce cc g3 g4 g7 g8 W hR hl hns hbs hfl hD hC hX hE hRR)
  have HLG := Lib.hid (fun X (hX : Below w.heap.size w X) => refLog_any revs x.frm (.slice Ar revs.length cr) dr X (HR.out.below hX) (by omega))
  have HLL : Hid ((logOf revs x.frm).length ≤ revs.length) := Lib.hid (log_len revs x.frm)
  have HACT : Hid (o = none ∧ t.act = 0 ∨ o = some t ∧ t.act ≠ 0) := Lib.hid (by
    cases o with
    | none => exact .inl ⟨rfl, by rw [ho]; rfl⟩
    | some y => exact .inr ⟨by rw [ho]; rfl, by rw [ho]; have := hact y rfl; simp only [Option.getD_some]; omega⟩)
  have HN1 : Hid (¬ (1 ≤ x.first ∧ x.first ≤ x.last ∧ x.last ≤ (logOf revs x.frm).length) → rcVal revs c x o = false) := Lib.hid fun h => rcVal_no2 h
  have HN2 : Hid (o = none → rcVal revs c x o = false) := Lib.hid fun h => by rw [h]; rfl
  have HY : Hid (o = some t → (1 ≤ x.first ∧ x.first ≤ x.last ∧ x.last ≤ (logOf revs x.frm).length) → rcVal revs c x o = (refSteps revs x && ((decide (t.act = 1) || !decide (rFirst revs (someR (rPrev revs (madeX c.num t))) = refLine revs x)) && (refCopy revs t x && refIgn revs c.recs t x)))) := Lib.hid fun h1 h2 => by rw [h1]; exact rcVal_yes h2
  generalize (refSteps revs x && ((decide (t.act = 1) || !decide (rFirst revs (someR (rPrev revs (madeX c.num t))) = refLine revs x)) && (refCopy revs t x && refIgn revs c.recs t x))) = V21 at HT HY
  generalize rcVal revs c x o = V at HRR HN1 HN2 HY
  obtain ⟨x0, x1, x2, x3, x4, x5⟩ := box6 HX.out
  obtain ⟨c0, c1, c2, c3, c4, c5, c6, c7, c8, c9, c10, c11⟩ := box12 HE.out
  obtain ⟨d0, d1, -, -⟩ := box2 HD.out
  clear hns hbs hD hC hX hE ho hact
  dsimp only
  go_upto_region 17 with fail
  go_cut [132] (fun v wx => ∃ bb, v = .bool bb ∧ Hid (Below w.heap.size w wx ∧ (bb = true → V = false) ∧ (bb = false → o = some t ∧ 1 ≤ x.first ∧ x.first ≤ x.last ∧ x.last ≤ (logOf revs x.frm).length)))
  case first =>
    by_cases h0 : t.act = 0
    case pos =>
      have q0 : (t.act == 0) = true := by simpa using h0
      have HF : Hid (V = false) := Lib.hid (HN2.out (by rcases HACT.out with h | h; exact h.1; exact absurd h0 h.2))
      clear h0
      go_quiet (fail)
      go_wp2_with fail
      go_meet
      exact ⟨true, rfl, below_dN (Below.refl _ _) _, fun _ => HF.out, fun h => by cases h⟩
    have q0 : (t.act == 0) = false := by simpa using h0
    have HO : Hid (o = some t) := Lib.hid (by rcases HACT.out with h | h; exact absurd h.2 h0; exact h.1)
    clear h0
    by_cases h1 : x.first < 1
    case pos =>
      have q1 : decide (x.first < 1) = true := by simpa using h1
      have HF : Hid (V = false) := Lib.hid (HN1.out (by omega))
      clear h1
      go_quiet (fail)
      go_wp2_with fail
      go_meet
      exact ⟨true, rfl, below_dN (Below.refl _ _) _, fun _ => HF.out, fun h => by cases h⟩
    have q1 : decide (x.first < 1) = false := by simpa using h1
    by_cases h2 : x.last < x.first
    case pos =>
      have q2 : decide (x.last < x.first) = true := by simpa using h2
      have HF : Hid (V = false) := Lib.hid (HN1.out (by omega))
      clear h1 h2
      go_quiet (fail)
      go_wp2_with fail
      go_meet
      exact ⟨true, rfl, below_dN (Below.refl _ _) _, fun _ => HF.out, fun h => by cases h⟩
    have q2 : decide (x.last < x.first) = false := by simpa using h2
    have HFL : Hid (1 ≤ x.first ∧ x.first ≤ x.last) := Lib.hid ⟨by omega, by omega⟩
    clear h1 h2
    have HFD : Hid (∀ w', Below w.heap.size w w' → w'.cell? ⟨g7, 0, none⟩ = some (.string x.frm) ∧ w'.cell? ⟨g7, 1, none⟩ = some (.int .i64 x.first) ∧ w'.cell? ⟨g7, 2, none⟩ = some (.int .i64 x.last) ∧ w'.cell? ⟨g3, 0, none⟩ = some (.slice Ar revs.length cr) ∧ w'.cell? ⟨g3, 1, none⟩ = some dr ∧ w'.cell? ⟨g8, 1, none⟩ = some (.int .i64 t.act)) := Lib.hid fun w' hb => by
      obtain ⟨a, b, -, -⟩ := box2 (HD.out.below hb HD.out.lt)
      obtain ⟨e, g, f, -, -, -⟩ := box6 (HX.out.below hb HX.out.lt)
      exact ⟨e, g, f, a, b, (box12 (HE.out.below hb HE.out.lt)).2.1⟩
    clear x0 x1 x2 x3 x4 x5 c0 c1 c2 c3 c4 c5 c6 c7 c8 c9 c10 c11 d0 d1
    generalize hln : (logOf revs x.frm).length = ln at HN1 HY HLL ⊢
    have HLN := Lib.hid hln
    clear hln
    by_cases h3 : (ln : Int) < x.last
    · have q3 : decide ((ln : Int) < x.last) = true := by simpa using h3
      have HF : Hid (V = false) := Lib.hid (HN1.out (by omega))
      clear h3
      go_region_held3 (fun w' => Below w.heap.size w w' ∧ w'.cell? ⟨g7, 0, none⟩ = some (.string x.frm) ∧ w'.cell? ⟨g7, 1, none⟩ = some (.int .i64 x.first) ∧ w'.cell? ⟨g7, 2, none⟩ = some (.int .i64 x.last) ∧ w'.cell? ⟨g3, 0, none⟩ = some (.slice Ar revs.length cr) ∧ w'.cell? ⟨g3, 1, none⟩ = some dr ∧ w'.cell? ⟨g8, 1, none⟩ = some (.int .i64 t.act))
        ((refine and_of ?_ (HFD.out _); first | with_reducible exact (Below.refl _ _).drew | with_reducible assumption | with_reducible exact HS6.out))
        ((go_at_call 64; refine (HLG.out _ (Below.refl _ _).drew).mono ?_; rintro e w6 ⟨A6, c6, rfl, hb6, -⟩; rw [HLN.out]; have HS6 : Hid (Below w.heap.size w w6) := Lib.hid ((Below.refl _ _).drew.trans hb6); clear hb6; dsimp only))
      go_wp2_with fail
      go_meet
      exact ⟨true, rfl, HS6.out, fun _ => HF.out, fun h => by cases h⟩
    · have q3 : decide ((ln : Int) < x.last) = false := by simpa using h3
      have HF : Hid (x.last ≤ ln) := Lib.hid (by omega)
      clear h3
      go_region_held3 (fun w' => Below w.heap.size w w' ∧ w'.cell? ⟨g7, 0, none⟩ = some (.string x.frm) ∧ w'.cell? ⟨g7, 1, none⟩ = some (.int .i64 x.first) ∧ w'.cell? ⟨g7, 2, none⟩ = some (.int .i64 x.last) ∧ w'.cell? ⟨g3, 0, none⟩ = some (.slice Ar revs.length cr) ∧ w'.cell? ⟨g3, 1, none⟩ = some dr ∧ w'.cell? ⟨g8, 1, none⟩ = some (.int .i64 t.act))
        ((refine and_of ?_ (HFD.out _); first | with_reducible exact (Below.refl _ _).drew | with_reducible assumption | with_reducible exact HS6.out))
        ((go_at_call 64; refine (HLG.out _ (Below.refl _ _).drew).mono ?_; rintro e w6 ⟨A6, c6, rfl, hb6, -⟩; rw [HLN.out]; have HS6 : Hid (Below w.heap.size w w6) := Lib.hid ((Below.refl _ _).drew.trans hb6); clear hb6; dsimp only))
      go_wp2_with fail
      go_meet
      exact ⟨false, rfl, HS6.out, fun h => (by cases h), fun _ => ⟨HO.out, HFL.out.1, HFL.out.2, by rw [HLN.out]; exact HF.out⟩⟩
  case rest =>
    obtain ⟨bb, rfl, HV⟩ := hcut
    have HB := Lib.hid HV.out.1
    cases bb with
    | true =>
      have HF : Hid (false = V) := Lib.hid (HV.out.2.1 rfl).symm
      clear HV
      go_wp2_with fail
      exact HRR.out _ _ HF.out HB.out
    | false =>
      have HK := Lib.hid (HV.out.2.2 rfl)
      have HW : Hid (V = V21) := Lib.hid (HY.out HK.out.1 HK.out.2)
      clear HV
      have hcs : ∀ K : Act → World → Prop, True := fun _ => trivial
      clear hcs
      go_upto_if 132 with fail
      refine wp_cond_false rfl ?_
      refine wp_skip ?_
      have hk := ‹∀ (a : Act) (w : World), Code.wp _ _ _ a w → _›
      exact hk _ _ (HT.out _ (by kernel_rfl) _ _ (HR.out.below HB.out) ⟨HK.out.2.1, HK.out.2.2.1, by have := HK.out.2.2.2; have := HLL.out; omega⟩ (HD.out.below HB.out HD.out.lt) (HC.out.below HB.out HC.out.lt) (HX.out.below HB.out HX.out.lt) (HE.out.below HB.out HE.out.lt) (fun b w' hb hw => HRR.out b w' (by rw [HW.out, hb]) (below_next HB.out hw)) _ _ _ _ _ _ _ _ _ _ _ _ _ _ _ _ _ _ _ _ _ _ _ _ _ _ _ _ _ _ _ _ _ _ _ _ _ _ _ _ _ _ _ _ _ _ _ _ _ _ _ _ _ _ _ _ _ _ _ _ _ _ _ _ _ _ _ _ _ _ _ _ _ _ _ _ _ _ _ _ _ _ _ _ _ _ _ _ _ _ _ _ _ _ _ _ _ _ _ _ _ _ _ _ _ _ _ _ _ _ _ _ _ _ _ _ _ _ _ _ _ _ _ _ _ _ _ _ _ _ _ _ _ _ _ _ _ _ _ _ _ _ _ _ _ _ _ _ _ _ _ _ _ _ _ _ _ _ _ _ _ _ _ _ _ _ _ _ _ _ _ _ _ _ _ _ _ _ _ _ _ _ _ _ _ _ _ _ _ _ _ _ _ _ _ _ _ _ _ _ _ _ _ _ _ _ _ _ _ _ _ _ _ _ _ _ _ _ _ _ _ _ _ _ _ _ _ _ _ _ _ _ _ _ _ _ _ _)
end Go.Proofs.YtnblfaagchflaaaGreatDoor
/- The reference's record: its edit, and whether it is ignored. -/
namespace Go.Proofs.YtnblfaagchflaaaGreatDoor
open Go.RowKit
set_option linter.unusedVariables false
set_option linter.unusedSimpArgs false

theorem ign_next (rs : List Rcd) (x : Rcd) (k : Nat) (h : k < rs.length) : ignB (rs.take (k + 1)) x = (ignB (rs.take k) x && (decide (rs[k].to ≠ x.to) || (decide (rs[k].num ≠ x.num) || decide (rs[k].how = 3)))) := by
  unfold ignB
  rw [List.take_succ_eq_append_getElem h, List.all_append]
  simp
theorem tgt_next (es : List Edt) (x : Rcd) (k : Nat) (h : k < es.length) : tgt (es.take (k + 1)) x = tgtM x (tgt (es.take k) x) es[k] := by
  unfold tgt
  rw [List.take_succ_eq_append_getElem h, List.foldl_append]; rfl
theorem tgtM_yes {x : Rcd} {o : Option Edt} {y : Edt} (h1 : y.path = x.to) (h2 : y.base + 1 = x.num) (h3 : y.act ≠ 5) : tgtM x o y = some y := by unfold tgtM; rw [if_pos ⟨h1, h2, h3⟩]
theorem tgtM_no {x : Rcd} {o : Option Edt} {y : Edt} (h : ¬ (y.path = x.to ∧ y.base + 1 = x.num ∧ y.act ≠ 5)) : tgtM x o y = o := by unfold tgtM; rw [if_neg h]
set_option maxRecDepth 100000 in
set_option maxHeartbeats 8000000 in
theorem rcT12 (T : Code) (hT : Tryz.f96.body.bind (tailAt 12) = some T) (R : Ending → World → Prop) (revs : List Rev) (c : Chg) (x : Rcd) (o : Option Edt) (t : Edt) (Ar Ae Ac : Option Addr) (dr : Value) (cr ce cc g3 g4 g7 g8 : Nat) (w : World)
    (hR : Revs w (.slice Ar revs.length cr) revs) (hl : revs.length ≤ 100000) (hns : ∀ r ∈ revs, 0 ≤ r.num ∧ r.num ≤ 1000000) (ho : t = o.getD zeroEdt) (hact : ∀ y, o = some y → 1 ≤ y.act) (hbs : 0 ≤ t.base ∧ t.base ≤ 100000) (hQ : Rcds w (.slice Ac c.recs.length cc) c.recs) (hlr : c.recs.length ≤ 100000)
    (hD : Blk w g3 31 [.slice Ar revs.length cr, dr])
    (hC : Blk w g4 53 [.int .i64 c.num, .string c.client, .string c.text, .slice Ae c.edits.length ce, .slice Ac c.recs.length cc])
    (hX : Blk w g7 57 [.string x.frm, .int .i64 x.first, .int .i64 x.last, .string x.to, .int .i64 x.num, .int .i64 x.how])
    (hE : Blk w g8 55 [.string t.path, .int .i64 t.act, .int .i64 t.ty.base, .bool t.ty.k, .bool t.ty.l, .bool t.ty.x, .int .u64 t.sum, .int .i64 t.size, .int .i64 t.base, .string t.frm, .int .i64 t.fnum, .int .i64 t.fence])
    (hRR : ∀ (b : Bool) (w' : World), b = rcVal revs c x o → Below w.heap.size w w' → R (.returned (.bool b)) w')
    (u0 u1 u2 u5 u6 u10 u11 u12 u13 u14 u15 u16 u17 u18 u19 u20 u21 u22 u23 u24 u25 u26 u27 u28 u29 u30 u31 u32 u33 u34 u35 u36 u37 u38 u39 u40 u41 u42 u43 u44 u45 u46 u47 u48 u49 u50 u51 u52 u53 u54 u55 u56 u57 u58 u59 u60 u61 u62 u63 u64 u65 u66 u67 u68 u69 u70 u71 u72 u73 u74 u75 u76 u77 u78 u79 u80 u81 u82 u83 u84 u85 u86 u87 u88 u89 u90 u91 u92 u93 u94 u95 u96 u97 u98 u99 u100 u101 u102 u103 u104 u105 u106 u107 u108 u109 u110 u111 u112 u113 u114 u115 u116 u117 u118 u119 u120 u121 u122 u123 u124 u125 u126 u127 u128 u129 u130 u131 u132 u133 u134 u135 u136 u137 u138 u139 u140 u141 u142 u143 u144 u145 u146 u147 u148 u149 u150 u151 u152 u153 u154 u155 u156 u157 u158 u159 u160 u161 u162 u163 u164 u165 u166 u167 u168 u169 u170 u171 u172 u173 u174 u175 u176 u177 u178 u179 u180 u181 u182 u183 u184 u185 u186 u187 u188 u189 u190 u191 u192 u193 u194 u195 u196 u197 u198 u199 u200 u201 u202 u203 u204 u205 u206 u207 u208 u209 u210 u211 u212 u213 u214 u215 u216 u217 u218 u219 u220 u221 u222 u223 u224 u225 u226 u227 u228 u229 u230 u231 u232 u233 u234 u235 u236 u237 u238 u239 u240 u241 u242 : Value) :
    T.wp Tryz.prog (bodyPost Tryz.prog Tryz.f96 R) ⟨#[u0, u1, u2, .pointer (some ⟨g3, 0, none⟩), .pointer (some ⟨g4, 0, none⟩), u5, u6, .pointer (some ⟨g7, 0, none⟩), .pointer (some ⟨g8, 0, none⟩), .bool true, u10, u11, u12, u13, u14, u15, u16, u17, u18, u19, u20, u21, u22, u23, u24, u25, u26, u27, u28, u29, u30, u31, u32, u33, u34, u35, u36, u37, u38, u39, u40, u41, u42, u43, u44, u45, u46, u47, u48, u49, u50, u51, u52, u53, u54, u55, u56, u57, u58, u59, u60, u61, u62, u63, u64, u65, u66, u67, u68, u69, u70, u71, u72, u73, u74, u75, u76, u77, u78, u79, u80, u81, u82, u83, u84, u85, u86, u87, u88, u89, u90, u91, u92, u93, u94, u95, u96, u97, u98, u99, u100, u101, u102, u103, u104, u105, u106, u107, u108, u109, u110, u111, u112, u113, u114, u115, u116, u117, u118, u119, u120, u121, u122, u123, u124, u125, u126, u127, u128, u129, u130, u131, u132, u133, u134, u135, u136, u137, u138, u139, u140, u141, u142, u143, u144, u145, u146, u147, u148, u149, u150, u151, u152, u153, u154, u155, u156, u157, u158, u159, u160, u161, u162, u163, u164, u165, u166, u167, u168, u169, u170, u171, u172, u173, u174, u175, u176, u177, u178, u179, u180, u181, u182, u183, u184, u185, u186, u187, u188, u189, u190, u191, u192, u193, u194, u195, u196, u197, u198, u199, u200, u201, u202, u203, u204, u205, u206, u207, u208, u209, u210, u211, u212, u213, u214, u215, u216, u217, u218, u219, u220, u221, u222, u223, u224, u225, u226, u227, u228, u229, u230, u231, u232, u233, u234, u235, u236, u237, u238, u239, u240, u241, u242], []⟩ w := by
  simp only [Tryz.f96, Option.bind_some, tailAt, hasReg] at hT
  simp at hT
  subst hT
  have HRR := Lib.hid hRR
  have HR := Lib.hid hR
  clear hRR hR
  have HQ := Lib.hid hQ
  have HD := Lib.hid hD
  have HC := Lib.hid hC
  have HX := Lib.hid hX
  have HE := Lib.hid hE
  have HT := Lib.hid (fun T hT R W hR hD hC hX hE hRR => rcT17 T hT R revs c x o t Ar Ae Ac dr cr ce cc g3 g4 g7 g8 W hR hl hns ho hact hbs hD hC hX hE hRR)
  clear hns ho hact hbs hQ hD hC hX hE
  generalize rcVal revs c x o = V at HRR HT
  obtain ⟨k0, k1, k2, k3, k4⟩ := box5 HC.out
  go_upto_block 2 with fail
  clear k0 k1 k2 k3 k4
  go_cut [9] (fun v wx => v = .bool (ignB c.recs x) ∧ Hid (Below w.heap.size w wx))
  case first =>
    go_wp2_with fail
    go_loopw [9, 83] (fun v s wr => ∃ k : Nat, s = .int .i64 k ∧ v = .bool (ignB (c.recs.take k) x) ∧ k ≤ c.recs.length ∧ Hid (Below w.heap.size w wr)) (fun _ s _ => c.recs.length - (intOf s).toNat)
    case atStart => exact ⟨0, rfl, rfl, Nat.zero_le _, Below.refl _ _⟩
    case round =>
      obtain ⟨k, rfl, rfl, hk, HI⟩ := hrel
      by_cases hlt : k < c.recs.length
      · obtain ⟨ad, rfl, hab, hld⟩ := Rcds.at_ (HQ.out.below HI.out) hlt
        have HN := Lib.hid (ign_next c.recs x k hlt)
        generalize c.recs[k] = y at hld HN
        obtain ⟨x0, x1, x2, x3, x4, x5⟩ := hld
        have hY := blk_new wr [.string y.frm, .int .i64 y.first, .int .i64 y.last, .string y.to, .int .i64 y.num, .int .i64 y.how] 57
        have hA1 := HI.out.alloc HI.out.size (.cells #[.string y.frm, .int .i64 y.first, .int .i64 y.last, .string y.to, .int .i64 y.num, .int .i64 y.how] 57)
        go_upto_region 15 with fail
        clear x0 x1 x2 x3 x4 x5
        generalize wr.alloc (.cells #[.string y.frm, .int .i64 y.first, .int .i64 y.last, .string y.to, .int .i64 y.num, .int .i64 y.how] 57) = V1 at hY hA1 ⊢
        generalize wr.heap.size = g13 at hY ⊢
        have HA1 := Lib.hid hA1
        obtain ⟨y0, y1, y2, y3, y4, y5⟩ := box6 hY
        obtain ⟨x0, x1, x2, x3, x4, x5⟩ := box6 (HX.out.below HA1.out HX.out.lt)
        clear hY hA1
        generalize ignB (c.recs.take k) x = ig at HN ⊢
        cases ig with
        | false =>
          have HF : Hid (ignB (c.recs.take (k + 1)) x = false) := Lib.hid (by rw [HN.out]; rfl)
          go_wp2_with fail
          go_roundw
          case rel => exact ⟨k + 1, by go_num, by rw [HF.out], by omega, HA1.out⟩
          case measure => simp [intOf]; omega
        | true =>
          have sq := str_eqB y.to x.to
          by_cases h1 : y.to = x.to
          · rw [decide_eq_true h1] at sq
            by_cases h2 : y.num = x.num
            · have q2 : (y.num != x.num) = false := by rw [bne_dec]; simp [h2]
              by_cases h3 : y.how = 3
              · have q3 : (y.how == 3) = true := by simpa using h3
                have HF : Hid (ignB (c.recs.take (k + 1)) x = true) := Lib.hid (by rw [HN.out]; simp [h1, h2, h3])
                clear h1 h2 h3
                go_wp2_with fail
                go_roundw
                case rel => exact ⟨k + 1, by go_num, by rw [HF.out], by omega, HA1.out⟩
                case measure => simp [intOf]; omega
              · have q3 : (y.how == 3) = false := by simpa using h3
                have HF : Hid (ignB (c.recs.take (k + 1)) x = false) := Lib.hid (by rw [HN.out]; simp [h1, h2, h3])
                clear h1 h2 h3
                go_wp2_with fail
                go_roundw
                case rel => exact ⟨k + 1, by go_num, by rw [HF.out], by omega, HA1.out⟩
                case measure => simp [intOf]; omega
            · have q2 : (y.num != x.num) = true := by rw [bne_dec]; simp [h2]
              have HF : Hid (ignB (c.recs.take (k + 1)) x = true) := Lib.hid (by rw [HN.out]; simp [h2])
              clear h1 h2
              go_wp2_with fail
              go_roundw
              case rel => exact ⟨k + 1, by go_num, by rw [HF.out], by omega, HA1.out⟩
              case measure => simp [intOf]; omega
          · rw [decide_eq_false h1] at sq
            have HF : Hid (ignB (c.recs.take (k + 1)) x = true) := Lib.hid (by rw [HN.out]; simp [h1])
            clear h1
            go_wp2_with fail
            go_roundw
            case rel => exact ⟨k + 1, by go_num, by rw [HF.out], by omega, HA1.out⟩
            case measure => simp [intOf]; omega
      · have hke : k = c.recs.length := by omega
        have HTK : Hid (ignB (c.recs.take k) x = ignB c.recs x) := Lib.hid (by rw [hke, List.take_length])
        have q : decide ((k : Int) < (c.recs.length : Int)) = false := by simp; omega
        have q' : decide (k < c.recs.length) = false := by simp; omega
        rw [HTK.out]
        clear hke
        go_wp2_with fail
        go_meet
        exact ⟨rfl, HI.out⟩
  case rest =>
    obtain ⟨rfl, HV⟩ := hcut
    have hk := ‹∀ (a : Act) (w : World), Code.wp _ _ _ a w → _›
    exact hk _ _ (HT.out _ (by kernel_rfl) _ _ (HR.out.below HV.out) (HD.out.below HV.out HD.out.lt) (HC.out.below HV.out HC.out.lt) (HX.out.below HV.out HX.out.lt) (HE.out.below HV.out HE.out.lt) (fun b w' hb hw => HRR.out b w' hb (below_next HV.out hw)) _ _ _ _ _ _ _ _ _ _ _ _ _ _ _ _ _ _ _ _ _ _ _ _ _ _ _ _ _ _ _ _ _ _ _ _ _ _ _ _ _ _ _ _ _ _ _ _ _ _ _ _ _ _ _ _ _ _ _ _ _ _ _ _ _ _ _ _ _ _ _ _ _ _ _ _ _ _ _ _ _ _ _ _ _ _ _ _ _ _ _ _ _ _ _ _ _ _ _ _ _ _ _ _ _ _ _ _ _ _ _ _ _ _ _ _ _ _ _ _ _ _ _ _ _ _ _ _ _ _ _ _ _ _ _ _ _ _ _ _ _ _ _ _ _ _ _ _ _ _ _ _ _ _ _ _ _ _ _ _ _ _ _ _ _ _ _ _ _ _ _ _ _ _ _ _ _ _ _ _ _ _ _ _ _ _ _ _ _ _ _ _ _ _ _ _ _ _ _ _ _ _ _ _ _ _ _ _ _ _ _ _ _ _ _ _ _ _ _ _ _ _ _ _ _ _ _ _ _ _ _ _ _ _ _ _ _ _)
end Go.Proofs.YtnblfaagchflaaaGreatDoor
