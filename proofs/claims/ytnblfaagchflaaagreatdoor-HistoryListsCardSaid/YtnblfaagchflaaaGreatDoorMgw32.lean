/- The reference's record: the target's previous revision, then the rest. -/
import Derived.Test.YtnblfaagchflaaaGreatDoorMgw21
import Derived.Test.YtnblfaagchflaaaGreatDoorMzRcB
import Derived.Test.YtnblfaagchflaaaGreatDoorMgw31
import Derived.Deep.CutBlock
namespace Go.Proofs.YtnblfaagchflaaaGreatDoor
open Go.RowKit
set_option linter.unusedVariables false
set_option linter.unusedSimpArgs false

set_option maxRecDepth 100000 in
set_option maxHeartbeats 8000000 in
theorem rcT27 (T : Code) (hT : Tryz.f96.body.bind (tailAt 27) = some T) (R : Ending → World → Prop) (revs : List Rev) (c : Chg) (x : Rcd) (t : Edt) (s : Rev) (l : Fil) (Ar Ae Ac : Option Addr) (dr : Value) (cr ce cc g3 g4 g7 g8 g14 g16 : Nat) (w : World)
    (hR : Revs w (.slice Ar revs.length cr) revs) (hl : revs.length ≤ 100000) (hns : ∀ r ∈ revs, 0 ≤ r.num ∧ r.num ≤ 1000000) (hbs : 0 ≤ t.base ∧ t.base ≤ 100000) (hs : atR revs x.frm x.last = s)
    (hD : Blk w g3 31 [.slice Ar revs.length cr, dr])
    (hC : Blk w g4 53 [.int .i64 c.num, .string c.client, .string c.text, .slice Ae c.edits.length ce, .slice Ac c.recs.length cc])
    (hX : Blk w g7 57 [.string x.frm, .int .i64 x.first, .int .i64 x.last, .string x.to, .int .i64 x.num, .int .i64 x.how])
    (hE : Blk w g8 55 [.string t.path, .int .i64 t.act, .int .i64 t.ty.base, .bool t.ty.k, .bool t.ty.l, .bool t.ty.x, .int .u64 t.sum, .int .i64 t.size, .int .i64 t.base, .string t.frm, .int .i64 t.fnum, .int .i64 t.fence])
    (hS : Blk w g14 40 [.string s.path, .int .i64 s.num, .int .i64 s.chg, .int .i64 s.act, .int .i64 s.ty.base, .bool s.ty.k, .bool s.ty.l, .bool s.ty.x, .int .u64 s.sum, .int .i64 s.size, .string s.frm, .int .i64 s.fnum])
    (hL : Blk w g16 90 [.string l.1, .int .i64 l.2])
    (hRR : ∀ (b : Bool) (w' : World), b = ((decide (t.act = 1) || !decide (rFirst revs (someR (rPrev revs (madeX c.num t))) = l)) && (refCopy revs t x && refIgn revs c.recs t x)) → Below w.heap.size w w' → R (.returned (.bool b)) w')
    (u0 u1 u2 u5 u6 u10 u11 u12 u13 u15 u17 u18 u19 u20 u21 u22 u23 u24 u25 u26 u27 u28 u29 u30 u31 u32 u33 u34 u35 u36 u37 u38 u39 u40 u41 u42 u43 u44 u45 u46 u47 u48 u49 u50 u51 u52 u53 u54 u55 u56 u57 u58 u59 u60 u61 u62 u63 u64 u65 u66 u67 u68 u69 u70 u71 u72 u73 u74 u75 u76 u77 u78 u79 u80 u81 u82 u83 u84 u85 u86 u87 u88 u89 u90 u91 u92 u93 u94 u95 u96 u97 u98 u99 u100 u101 u102 u103 u104 u105 u106 u107 u108 u109 u110 u111 u112 u113 u114 u115 u116 u117 u118 u119 u120 u121 u122 u123 u124 u125 u126 u127 u128 u129 u130 u131 u132 u133 u134 u135 u136 u137 u138 u139 u140 u141 u142 u143 u144 u145 u146 u147 u148 u149 u150 u151 u152 u153 u154 u155 u156 u157 u158 u159 u160 u161 u162 u163 u164 u165 u166 u167 u168 u169 u170 u171 u172 u173 u174 u175 u176 u177 u178 u179 u180 u181 u182 u183 u184 u185 u186 u187 u188 u189 u190 u191 u192 u193 u194 u195 u196 u197 u198 u199 u200 u201 u202 u203 u204 u205 u206 u207 u208 u209 u210 u211 u212 u213 u214 u215 u216 u217 u218 u219 u220 u221 u222 u223 u224 u225 u226 u227 u228 u229 u230 u231 u232 u233 u234 u235 u236 u237 u238 u239 u240 u241 u242 : Value) :
    T.wp Tryz.prog (bodyPost Tryz.prog Tryz.f96 R) ⟨#[u0, u1, u2, .pointer (some ⟨g3, 0, none⟩), .pointer (some ⟨g4, 0, none⟩), u5, u6, .pointer (some ⟨g7, 0, none⟩), .pointer (some ⟨g8, 0, none⟩), .bool (ignB c.recs x), u10, u11, u12, u13, .pointer (some ⟨g14, 0, none⟩), u15, .pointer (some ⟨g16, 0, none⟩), u17, u18, u19, u20, u21, u22, u23, u24, u25, u26, u27, u28, u29, u30, u31, u32, u33, u34, u35, u36, u37, u38, u39, u40, u41, u42, u43, u44, u45, u46, u47, u48, u49, u50, u51, u52, u53, u54, u55, u56, u57, u58, u59, u60, u61, u62, u63, u64, u65, u66, u67, u68, u69, u70, u71, u72, u73, u74, u75, u76, u77, u78, u79, u80, u81, u82, u83, u84, u85, u86, u87, u88, u89, u90, u91, u92, u93, u94, u95, u96, u97, u98, u99, u100, u101, u102, u103, u104, u105, u106, u107, u108, u109, u110, u111, u112, u113, u114, u115, u116, u117, u118, u119, u120, u121, u122, u123, u124, u125, u126, u127, u128, u129, u130, u131, u132, u133, u134, u135, u136, u137, u138, u139, u140, u141, u142, u143, u144, u145, u146, u147, u148, u149, u150, u151, u152, u153, u154, u155, u156, u157, u158, u159, u160, u161, u162, u163, u164, u165, u166, u167, u168, u169, u170, u171, u172, u173, u174, u175, u176, u177, u178, u179, u180, u181, u182, u183, u184, u185, u186, u187, u188, u189, u190, u191, u192, u193, u194, u195, u196, u197, u198, u199, u200, u201, u202, u203, u204, u205, u206, u207, u208, u209, u210, u211, u212, u213, u214, u215, u216, u217, u218, u219, u220, u221, u222, u223, u224, u225, u226, u227, u228, u229, u230, u231, u232, u233, u234, u235, u236, u237, u238, u239, u240, u241, u242], []⟩ w := by
  simp only [Tryz.f96, Option.bind_some, tailAt, hasReg] at hT
  simp at hT
  subst hT
  have HRR := Lib.hid hRR
  have HR := Lib.hid hR
  clear hRR hR
  have HNS := Lib.hid hns
  have HBS := Lib.hid hbs
  have HD := Lib.hid hD
  have HC := Lib.hid hC
  have HX := Lib.hid hX
  have HE := Lib.hid hE
  have HS := Lib.hid hS
  have HL := Lib.hid hL
  have HPN : Hid (0 ≤ (someR (rPrev revs (madeX c.num t))).num ∧ (someR (rPrev revs (madeX c.num t))).num ≤ 1000000) := Lib.hid (by
    unfold someR
    cases hp : rPrev revs (madeX c.num t) with
    | none => simp [zeroRev]
    | some v => exact hns v (rPrev_mem hp))
  have HT := Lib.hid (fun T hT R W hR hD hX hE hS hRR => rcT31 T hT R revs c.recs x t s Ar dr cr g3 g7 g8 g14 W hR hl hs hD hX hE hS hRR)
  have HR28 := Lib.hid (fun ops hops Q => rcR28 ops hops Q revs c t Ar Ae Ac dr cr ce cc g3 g4 g8 w HR.out hl hbs hD hC hE)
  have HR29 := Lib.hid (fun ops hops Q g20 W hR hD hL hU => rcR29 ops hops Q revs (someR (rPrev revs (madeX c.num t))) l Ar dr cr g3 g16 g20 W hR hl hns HPN.out hD hL hU)
  clear hns hbs hD hC hX hE hS hL hs HPN HNS HBS
  generalize (refCopy revs t x && refIgn revs c.recs t x) = V31 at HRR HT
  generalize someR (rPrev revs (madeX c.num t)) = u at HRR HR28 HR29
  generalize rFirst revs u = fu at HRR HR29
  obtain ⟨c0, c1, c2, c3, c4, c5, c6, c7, c8, c9, c10, c11⟩ := box12 HE.out
  go_upto_if 173 with fail
  go_cut [] (fun wx => Hid (Below w.heap.size w wx ∧ (decide (t.act = 1) || !decide (fu = l)) = true))
  case first =>
    by_cases h1 : t.act = 1
    · have q1 : (t.act != 1) = false := by simpa using h1
      have HW : Hid ((decide (t.act = 1) || !decide (fu = l)) = true) := Lib.hid (by simp [h1])
      clear h1
      go_wp2_with fail
      go_meet
      exact ⟨Below.refl _ _, HW.out⟩
    · have q1 : (t.act != 1) = true := by simpa using h1
      have HW : Hid ((decide (t.act = 1) || !decide (fu = l)) = !decide (fu = l)) := Lib.hid (by simp [h1])
      clear h1
      go_upto_region 28 with fail
      refine HR28.out _ (by kernel_rfl) _ _ _ _ _ _ _ _ _ _ _ _ _ _ _ _ _ _ _ _ _ _ _ _ _ _ _ _ _ _ _ _ _ _ _ _ _ _ _ _ _ _ _ _ _ _ _ _ _ _ _ _ _ _ _ _ _ _ _ _ _ _ _ _ _ _ _ _ _ _ _ _ _ _ _ _ _ _ _ _ _ _ _ _ _ _ _ _ _ _ _ _ _ _ _ _ _ _ _ _ _ _ _ _ _ _ _ _ _ _ _ _ _ _ _ _ _ _ _ _ _ _ _ _ _ _ _ _ _ _ _ _ _ _ _ _ _ _ _ _ _ _ _ _ _ _ _ _ _ _ _ _ _ _ _ _ _ _ _ _ _ _ _ _ _ _ _ _ _ _ _ _ _ _ _ _ _ _ _ _ _ _ _ _ _ _ _ _ _ _ _ _ _ _ _ _ _ _ _ _ _ _ _ _ _ _ _ _ _ _ _ _ _ _ _ _ _ _ _ _ _ _ _ _ _ _ _ _ _ _ _ _ _ _ _ _ _ _ _ _ _ ?_
      intro t174 t175 t176 t177 t178 t179 t180 t181 v21 g20 w2 H2
      clear c0 c1 c2 c3 c4 c5 c6 c7 c8 c9 c10 c11 HR28
      go_upto_region 29 with fail
      refine HR29.out _ (by kernel_rfl) _ g20 w2 (HR.out.below H2.out.1) (HD.out.below H2.out.1 HD.out.lt) (HL.out.below H2.out.1 HL.out.lt) H2.out.2 _ _ _ _ _ _ _ _ _ _ _ _ _ _ _ _ _ _ _ _ _ _ _ _ _ _ _ _ _ _ _ _ _ _ _ _ _ _ _ _ _ _ _ _ _ _ _ _ _ _ _ _ _ _ _ _ _ _ _ _ _ _ _ _ _ _ _ _ _ _ _ _ _ _ _ _ _ _ _ _ _ _ _ _ _ _ _ _ _ _ _ _ _ _ _ _ _ _ _ _ _ _ _ _ _ _ _ _ _ _ _ _ _ _ _ _ _ _ _ _ _ _ _ _ _ _ _ _ _ _ _ _ _ _ _ _ _ _ _ _ _ _ _ _ _ _ _ _ _ _ _ _ _ _ _ _ _ _ _ _ _ _ _ _ _ _ _ _ _ _ _ _ _ _ _ _ _ _ _ _ _ _ _ _ _ _ _ _ _ _ _ _ _ _ _ _ _ _ _ _ _ _ _ _ _ _ _ _ _ _ _ _ _ _ _ _ _ _ _ _ _ _ _ _ _ _ _ _ _ _ _ _ _ _ _ _ _ _ _ _ ?_
      intro t182 t183 t184 t185 w3 H3
      have HB3 := Lib.hid (below_next H2.out.1 H3.out)
      clear H2 H3 HR29
      cases hfu : decide (fu = l) with
      | true =>
        have HF : Hid (false = ((decide (t.act = 1) || !decide (fu = l)) && V31)) := Lib.hid (by rw [HW.out, hfu]; rfl)
        clear hfu
        go_wp2_with fail
        exact HRR.out _ _ HF.out HB3.out
      | false =>
        have HF : Hid ((decide (t.act = 1) || !decide (fu = l)) = true) := Lib.hid (by rw [HW.out, hfu]; rfl)
        clear hfu
        go_wp2_with fail
        go_meet
        exact ⟨HB3.out, HF.out⟩
  case rest =>
    have HB := Lib.hid hcut.out.1
    have HW : Hid ((decide (t.act = 1) || !decide (fu = l)) = true) := Lib.hid hcut.out.2
    clear hcut
    have hk := ‹∀ (a : Act) (w : World), Code.wp _ _ _ a w → _›
    exact hk _ _ (HT.out _ (by kernel_rfl) _ _ (HR.out.below HB.out) (HD.out.below HB.out HD.out.lt) (HX.out.below HB.out HX.out.lt) (HE.out.below HB.out HE.out.lt) (HS.out.below HB.out HS.out.lt) (fun b w' hb hw => HRR.out b w' (by rw [HW.out, hb]; rfl) (below_next HB.out hw)) _ _ _ _ _ _ _ _ _ _ _ _ _ _ _ _ _ _ _ _ _ _ _ _ _ _ _ _ _ _ _ _ _ _ _ _ _ _ _ _ _ _ _ _ _ _ _ _ _ _ _ _ _ _ _ _ _ _ _ _ _ _ _ _ _ _ _ _ _ _ _ _ _ _ _ _ _ _ _ _ _ _ _ _ _ _ _ _ _ _ _ _ _ _ _ _ _ _ _ _ _ _ _ _ _ _ _ _ _ _ _ _ _ _ _ _ _ _ _ _ _ _ _ _ _ _ _ _ _ _ _ _ _ _ _ _ _ _ _ _ _ _ _ _ _ _ _ _ _ _ _ _ _ _ _ _ _ _ _ _ _ _ _ _ _ _ _ _ _ _ _ _ _ _ _ _ _ _ _ _ _ _ _ _ _ _ _ _ _ _ _ _ _ _ _ _ _ _ _ _ _ _ _ _ _ _ _ _ _ _ _ _ _ _ _ _ _ _ _ _ _ _ _ _ _ _ _ _ _ _ _ _ _ _ _ _ _ _)
end Go.Proofs.YtnblfaagchflaaaGreatDoor
/- The reference's record: the steps of the revisions. -/
namespace Go.Proofs.YtnblfaagchflaaaGreatDoor
open Go.RowKit
set_option linter.unusedVariables false
set_option linter.unusedSimpArgs false

theorem steps_no {D : List Rev} {x : Rcd} {k : Nat} (hk : (k : Int) < x.last - x.first + 1) (h : (decide ((someR (rGet D x.frm (x.first + k))).act = 5) || !decide (rFirst D (someR (rGet D x.frm (x.first + k))) = refLine D x)) = true) : refSteps D x = false := by
  unfold refSteps
  refine all_range_bad (k := k) (by omega) ?_
  unfold atR
  unfold someR at h
  generalize (rGet D x.frm (x.first + (k : Int))).getD zeroRev = u at h ⊢
  by_cases h5 : u.act = 5
  · simp [h5]
  · simp [h5] at h
    simp [h5, h]
theorem steps_yes {D : List Rev} {x : Rcd} (h : ∀ k : Nat, (k : Int) < x.last - x.first + 1 → (decide ((someR (rGet D x.frm (x.first + k))).act = 5) || !decide (rFirst D (someR (rGet D x.frm (x.first + k))) = refLine D x)) = false) : refSteps D x = true := by
  unfold refSteps
  refine all_range_ok fun k hk => ?_
  have h := h k (by omega)
  unfold atR
  unfold someR at h
  generalize (rGet D x.frm (x.first + (k : Int))).getD zeroRev = u at h ⊢
  rw [Bool.or_eq_false_iff] at h
  obtain ⟨a, b⟩ := h
  simp at a b
  simp [a, b]
set_option maxRecDepth 100000 in
set_option maxHeartbeats 8000000 in
theorem rcT21 (T : Code) (hT : Tryz.f96.body.bind (tailAt 21) = some T) (R : Ending → World → Prop) (revs : List Rev) (c : Chg) (x : Rcd) (t : Edt) (s : Rev) (Ar Ae Ac : Option Addr) (dr : Value) (cr ce cc g3 g4 g7 g8 g14 g16 : Nat) (w : World)
    (hR : Revs w (.slice Ar revs.length cr) revs) (hl : revs.length ≤ 100000) (hns : ∀ r ∈ revs, 0 ≤ r.num ∧ r.num ≤ 1000000) (hbs : 0 ≤ t.base ∧ t.base ≤ 100000) (hs : atR revs x.frm x.last = s) (hfl : 1 ≤ x.first ∧ x.first ≤ x.last ∧ x.last ≤ 1000000)
    (hD : Blk w g3 31 [.slice Ar revs.length cr, dr])
    (hC : Blk w g4 53 [.int .i64 c.num, .string c.client, .string c.text, .slice Ae c.edits.length ce, .slice Ac c.recs.length cc])
    (hX : Blk w g7 57 [.string x.frm, .int .i64 x.first, .int .i64 x.last, .string x.to, .int .i64 x.num, .int .i64 x.how])
    (hE : Blk w g8 55 [.string t.path, .int .i64 t.act, .int .i64 t.ty.base, .bool t.ty.k, .bool t.ty.l, .bool t.ty.x, .int .u64 t.sum, .int .i64 t.size, .int .i64 t.base, .string t.frm, .int .i64 t.fnum, .int .i64 t.fence])
    (hS : Blk w g14 40 [.string s.path, .int .i64 s.num, .int .i64 s.chg, .int .i64 s.act, .int .i64 s.ty.base, .bool s.ty.k, .bool s.ty.l, .bool s.ty.x, .int .u64 s.sum, .int .i64 s.size, .string s.frm, .int .i64 s.fnum])
    (hL : Blk w g16 90 [.string ((refLine revs x)).1, .int .i64 ((refLine revs x)).2])
    (hRR : ∀ (b : Bool) (w' : World), b = (refSteps revs x && ((decide (t.act = 1) || !decide (rFirst revs (someR (rPrev revs (madeX c.num t))) = refLine revs x)) && (refCopy revs t x && refIgn revs c.recs t x))) → Below w.heap.size w w' → R (.returned (.bool b)) w')
    (u0 u1 u2 u5 u6 u10 u11 u12 u13 u15 u17 u18 u19 u20 u21 u22 u23 u24 u25 u26 u27 u28 u29 u30 u31 u32 u33 u34 u35 u36 u37 u38 u39 u40 u41 u42 u43 u44 u45 u46 u47 u48 u49 u50 u51 u52 u53 u54 u55 u56 u57 u58 u59 u60 u61 u62 u63 u64 u65 u66 u67 u68 u69 u70 u71 u72 u73 u74 u75 u76 u77 u78 u79 u80 u81 u82 u83 u84 u85 u86 u87 u88 u89 u90 u91 u92 u93 u94 u95 u96 u97 u98 u99 u100 u101 u102 u103 u104 u105 u106 u107 u108 u109 u110 u111 u112 u113 u114 u115 u116 u117 u118 u119 u120 u121 u122 u123 u124 u125 u126 u127 u128 u129 u130 u131 u132 u133 u134 u135 u136 u137 u138 u139 u140 u141 u142 u143 u144 u145 u146 u147 u148 u149 u150 u151 u152 u153 u154 u155 u156 u157 u158 u159 u160 u161 u162 u163 u164 u165 u166 u167 u168 u169 u170 u171 u172 u173 u174 u175 u176 u177 u178 u179 u180 u181 u182 u183 u184 u185 u186 u187 u188 u189 u190 u191 u192 u193 u194 u195 u196 u197 u198 u199 u200 u201 u202 u203 u204 u205 u206 u207 u208 u209 u210 u211 u212 u213 u214 u215 u216 u217 u218 u219 u220 u221 u222 u223 u224 u225 u226 u227 u228 u229 u230 u231 u232 u233 u234 u235 u236 u237 u238 u239 u240 u241 u242 : Value) :
    T.wp Tryz.prog (bodyPost Tryz.prog Tryz.f96 R) ⟨#[u0, u1, u2, .pointer (some ⟨g3, 0, none⟩), .pointer (some ⟨g4, 0, none⟩), u5, u6, .pointer (some ⟨g7, 0, none⟩), .pointer (some ⟨g8, 0, none⟩), .bool (ignB c.recs x), u10, u11, u12, u13, .pointer (some ⟨g14, 0, none⟩), u15, .pointer (some ⟨g16, 0, none⟩), u17, u18, u19, u20, u21, u22, u23, u24, u25, u26, u27, u28, u29, u30, u31, u32, u33, u34, u35, u36, u37, u38, u39, u40, u41, u42, u43, u44, u45, u46, u47, u48, u49, u50, u51, u52, u53, u54, u55, u56, u57, u58, u59, u60, u61, u62, u63, u64, u65, u66, u67, u68, u69, u70, u71, u72, u73, u74, u75, u76, u77, u78, u79, u80, u81, u82, u83, u84, u85, u86, u87, u88, u89, u90, u91, u92, u93, u94, u95, u96, u97, u98, u99, u100, u101, u102, u103, u104, u105, u106, u107, u108, u109, u110, u111, u112, u113, u114, u115, u116, u117, u118, u119, u120, u121, u122, u123, u124, u125, u126, u127, u128, u129, u130, u131, u132, u133, u134, u135, u136, u137, u138, u139, u140, u141, u142, u143, u144, u145, u146, u147, u148, u149, u150, u151, u152, u153, u154, u155, u156, u157, u158, u159, u160, u161, u162, u163, u164, u165, u166, u167, u168, u169, u170, u171, u172, u173, u174, u175, u176, u177, u178, u179, u180, u181, u182, u183, u184, u185, u186, u187, u188, u189, u190, u191, u192, u193, u194, u195, u196, u197, u198, u199, u200, u201, u202, u203, u204, u205, u206, u207, u208, u209, u210, u211, u212, u213, u214, u215, u216, u217, u218, u219, u220, u221, u222, u223, u224, u225, u226, u227, u228, u229, u230, u231, u232, u233, u234, u235, u236, u237, u238, u239, u240, u241, u242], []⟩ w := by
  simp only [Tryz.f96, Option.bind_some, tailAt, hasReg] at hT
  simp at hT
  subst hT
  have HRR := Lib.hid hRR
  have HR := Lib.hid hR
  clear hRR hR
  have HD := Lib.hid hD
  have HC := Lib.hid hC
  have HX := Lib.hid hX
  have HE := Lib.hid hE
  have HS := Lib.hid hS
  have HL := Lib.hid hL
  have b1 := hfl.1
  have b2 := hfl.2.1
  have b3 := hfl.2.2
  have HGN : Hid (∀ n, 0 ≤ (someR (rGet revs x.frm n)).num ∧ (someR (rGet revs x.frm n)).num ≤ 1000000) := Lib.hid (fun n => by
    unfold someR
    cases hp : rGet revs x.frm n with
    | none => simp [zeroRev]
    | some v => exact hns v (rGet_mem hp).1)
  have HT := Lib.hid (fun T hT R W hR hD hC hX hE hS hL hRR => rcT27 T hT R revs c x t s (refLine revs x) Ar Ae Ac dr cr ce cc g3 g4 g7 g8 g14 g16 W hR hl hns hbs hs hD hC hX hE hS hL hRR)
  have HR25 := Lib.hid (fun ops hops Q u g20 W hR hn hD hL hU => rcR25 ops hops Q revs u (refLine revs x) Ar dr cr g3 g16 g20 W hR hl hns hn hD hL hU)
  have HNO := Lib.hid (fun k hk h => @steps_no revs x k hk h)
  have HYES := Lib.hid (fun h => @steps_yes revs x h)
  have HG := Lib.hid (fun n X (hX : Below w.heap.size w X) => refGet_any revs x.frm n (.slice Ar revs.length cr) dr X (HR.out.below hX) (by omega))
  clear hns hbs hD hC hX hE hS hL hs hfl
  generalize refSteps revs x = VS at HRR HNO HYES
  generalize refLine revs x = l at HRR HT HR25 HNO HYES HL
  generalize ((decide (t.act = 1) || !decide (rFirst revs (someR (rPrev revs (madeX c.num t))) = l)) && (refCopy revs t x && refIgn revs c.recs t x)) = V27 at HRR HT
  obtain ⟨x0, x1, x2, x3, x4, x5⟩ := box6 HX.out
  go_upto_block 4 with fail
  go_cut [] (fun wx => Hid (Below w.heap.size w wx ∧ VS = true))
  case first =>
    clear x0 x1 x2 x3 x4 x5
    go_wp2_with fail
    go_loopw [17] (fun s wr => ∃ k : Nat, s = .int .i64 (x.first + k) ∧ (k : Int) ≤ x.last - x.first + 1 ∧ Hid (Below w.heap.size w wr ∧ ∀ j : Nat, j < k → (decide ((someR (rGet revs x.frm (x.first + j))).act = 5) || !decide (rFirst revs (someR (rGet revs x.frm (x.first + j))) = l)) = false)) (fun s _ => (x.last + 1 - intOf s).toNat)
    case atStart => exact ⟨0, by simp, by omega, Below.refl _ _, fun j hj => by omega⟩
    case round =>
      obtain ⟨k, rfl, hk, HI⟩ := hrel
      obtain ⟨x0, x1, x2, x3, x4, x5⟩ := box6 (HX.out.below HI.out.1 HX.out.lt)
      obtain ⟨d0, d1, -, -⟩ := box2 (HD.out.below HI.out.1 HD.out.lt)
      by_cases hlt : x.first + (k : Int) ≤ x.last
      · have HG1 := Lib.hid (HG.out (x.first + k) wr HI.out.1)
        have q : decide (x.first + (k : Int) ≤ x.last) = true := by simpa using hlt
        have HKB : Hid ((k : Int) < x.last - x.first + 1) := Lib.hid (by omega)
        go_upto_region 24 with fail
        go_wp2_with fail
        refine HG1.out.mono ?_
        rintro e w2 ⟨rfl, hb2⟩
        have HNB := Lib.hid (HGN.out (x.first + k))
        have HNO1 := Lib.hid (HNO.out k HKB.out)
        have HJ : Hid (∀ bb, (decide ((someR (rGet revs x.frm (x.first + (k : Int)))).act = 5) || !decide (rFirst revs (someR (rGet revs x.frm (x.first + (k : Int)))) = l)) = bb → bb = false → ∀ j : Nat, j < k + 1 → (decide ((someR (rGet revs x.frm (x.first + j))).act = 5) || !decide (rFirst revs (someR (rGet revs x.frm (x.first + j))) = l)) = false) := Lib.hid (fun bb h1 h2 j hj => by
          by_cases e : j = k
          · rw [e, h1, h2]
          · exact HI.out.2 j (by omega))
        generalize someR (rGet revs x.frm (x.first + (k : Int))) = u at HNB HNO1 HJ ⊢
        generalize (rGet revs x.frm (x.first + (k : Int))).isSome = okb
        have hY := blk_new w2 [.string u.path, .int .i64 u.num, .int .i64 u.chg, .int .i64 u.act, .int .i64 u.ty.base, .bool u.ty.k, .bool u.ty.l, .bool u.ty.x, .int .u64 u.sum, .int .i64 u.size, .string u.frm, .int .i64 u.fnum] 40
        have hA : Below wr.heap.size wr (w2.alloc (.cells #[.string u.path, .int .i64 u.num, .int .i64 u.chg, .int .i64 u.act, .int .i64 u.ty.base, .bool u.ty.k, .bool u.ty.l, .bool u.ty.x, .int .u64 u.sum, .int .i64 u.size, .string u.frm, .int .i64 u.fnum] 40)) := below_alloc' hb2 _
        clear hb2 x0 x1 x2 x3 x4 x5 d0 d1 q
        dsimp only
        go_upto_region 25 with fail
        generalize w2.alloc (.cells #[.string u.path, .int .i64 u.num, .int .i64 u.chg, .int .i64 u.act, .int .i64 u.ty.base, .bool u.ty.k, .bool u.ty.l, .bool u.ty.x, .int .u64 u.sum, .int .i64 u.size, .string u.frm, .int .i64 u.fnum] 40) = w3 at hY hA ⊢
        generalize w2.heap.size = g18 at hY ⊢
        have HA3 := Lib.hid (below_next HI.out.1 hA)
        have HY3 := Lib.hid hY
        clear hY hA
        refine HR25.out _ (by kernel_rfl) _ u g18 w3 (HR.out.below HA3.out) HNB.out (HD.out.below HA3.out HD.out.lt) (HL.out.below HA3.out HL.out.lt) HY3.out _ _ _ _ _ _ _ _ _ _ _ _ _ _ _ _ _ _ _ _ _ _ _ _ _ _ _ _ _ _ _ _ _ _ _ _ _ _ _ _ _ _ _ _ _ _ _ _ _ _ _ _ _ _ _ _ _ _ _ _ _ _ _ _ _ _ _ _ _ _ _ _ _ _ _ _ _ _ _ _ _ _ _ _ _ _ _ _ _ _ _ _ _ _ _ _ _ _ _ _ _ _ _ _ _ _ _ _ _ _ _ _ _ _ _ _ _ _ _ _ _ _ _ _ _ _ _ _ _ _ _ _ _ _ _ _ _ _ _ _ _ _ _ _ _ _ _ _ _ _ _ _ _ _ _ _ _ _ _ _ _ _ _ _ _ _ _ _ _ _ _ _ _ _ _ _ _ _ _ _ _ _ _ _ _ _ _ _ _ _ _ _ _ _ _ _ _ _ _ _ _ _ _ _ _ _ _ _ _ _ _ _ _ _ _ _ _ _ _ _ _ _ _ _ _ _ _ _ _ _ _ _ _ _ _ _ _ _ _ _ ?_
        intro t161 t162 t163 t164 t165 t166 t167 t168 t169 w4 H4
        have HB4 := Lib.hid (below_next HA3.out H4.out)
        clear H4
        generalize (decide (u.act = 5) || !decide (rFirst revs u = l)) = bb at HNO1 HJ ⊢
        cases bb with
        | true =>
          have HF : Hid (false = (VS && V27)) := Lib.hid (by rw [HNO1.out rfl]; rfl)
          go_wp2_with fail
          exact HRR.out _ _ HF.out HB4.out
        | false =>
          have HJ2 := Lib.hid (HJ.out false rfl rfl)
          go_wp2_with fail
          go_roundw
          case rel => exact ⟨k + 1, by rw [Int.natCast_add, Int.natCast_one, Int.add_assoc], by have := HKB.out; omega, HB4.out, HJ2.out⟩
          case measure => simp [intOf]; omega
      · have q : decide (x.first + (k : Int) ≤ x.last) = false := by simpa using hlt
        have HF : Hid (VS = true) := Lib.hid (HYES.out fun j hj => HI.out.2 j (by omega))
        have HB := Lib.hid HI.out.1
        go_wp2_with fail
        go_meet
        exact ⟨HB.out, HF.out⟩
  case rest =>
    have HB := Lib.hid hcut.out.1
    have HW : Hid (VS = true) := Lib.hid hcut.out.2
    clear hcut
    have hk := ‹∀ (a : Act) (w : World), Code.wp _ _ _ a w → _›
    exact hk _ _ (HT.out _ (by kernel_rfl) _ _ (HR.out.below HB.out) (HD.out.below HB.out HD.out.lt) (HC.out.below HB.out HC.out.lt) (HX.out.below HB.out HX.out.lt) (HE.out.below HB.out HE.out.lt) (HS.out.below HB.out HS.out.lt) (HL.out.below HB.out HL.out.lt) (fun b w' hb hw => HRR.out b w' (by rw [HW.out, hb]; rfl) (below_next HB.out hw)) _ _ _ _ _ _ _ _ _ _ _ _ _ _ _ _ _ _ _ _ _ _ _ _ _ _ _ _ _ _ _ _ _ _ _ _ _ _ _ _ _ _ _ _ _ _ _ _ _ _ _ _ _ _ _ _ _ _ _ _ _ _ _ _ _ _ _ _ _ _ _ _ _ _ _ _ _ _ _ _ _ _ _ _ _ _ _ _ _ _ _ _ _ _ _ _ _ _ _ _ _ _ _ _ _ _ _ _ _ _ _ _ _ _ _ _ _ _ _ _ _ _ _ _ _ _ _ _ _ _ _ _ _ _ _ _ _ _ _ _ _ _ _ _ _ _ _ _ _ _ _ _ _ _ _ _ _ _ _ _ _ _ _ _ _ _ _ _ _ _ _ _ _ _ _ _ _ _ _ _ _ _ _ _ _ _ _ _ _ _ _ _ _ _ _ _ _ _ _ _ _ _ _ _ _ _ _ _ _ _ _ _ _ _ _ _ _ _ _ _ _ _ _ _ _ _ _ _ _ _ _ _ _ _ _ _)
end Go.Proofs.YtnblfaagchflaaaGreatDoor
/- The reference's record: the source, its line; the bounds. -/
namespace Go.Proofs.YtnblfaagchflaaaGreatDoor
open Go.RowKit
set_option linter.unusedVariables false
set_option linter.unusedSimpArgs false

set_option maxRecDepth 100000 in
set_option maxHeartbeats 8000000 in
theorem rcT19 (T : Code) (hT : Tryz.f96.body.bind (tailAt 19) = some T) (R : Ending → World → Prop) (revs : List Rev) (c : Chg) (x : Rcd) (t : Edt) (Ar Ae Ac : Option Addr) (dr : Value) (cr ce cc g3 g4 g7 g8 : Nat) (w : World)
    (hR : Revs w (.slice Ar revs.length cr) revs) (hl : revs.length ≤ 100000) (hns : ∀ r ∈ revs, 0 ≤ r.num ∧ r.num ≤ 1000000) (hbs : 0 ≤ t.base ∧ t.base ≤ 100000) (hfl : 1 ≤ x.first ∧ x.first ≤ x.last ∧ x.last ≤ 1000000)
    (hD : Blk w g3 31 [.slice Ar revs.length cr, dr])
    (hC : Blk w g4 53 [.int .i64 c.num, .string c.client, .string c.text, .slice Ae c.edits.length ce, .slice Ac c.recs.length cc])
    (hX : Blk w g7 57 [.string x.frm, .int .i64 x.first, .int .i64 x.last, .string x.to, .int .i64 x.num, .int .i64 x.how])
    (hE : Blk w g8 55 [.string t.path, .int .i64 t.act, .int .i64 t.ty.base, .bool t.ty.k, .bool t.ty.l, .bool t.ty.x, .int .u64 t.sum, .int .i64 t.size, .int .i64 t.base, .string t.frm, .int .i64 t.fnum, .int .i64 t.fence])
    (hRR : ∀ (b : Bool) (w' : World), b = (refSteps revs x && ((decide (t.act = 1) || !decide (rFirst revs (someR (rPrev revs (madeX c.num t))) = refLine revs x)) && (refCopy revs t x && refIgn revs c.recs t x))) → Below w.heap.size w w' → R (.returned (.bool b)) w')
    (u0 u1 u2 u5 u6 u10 u11 u12 u13 u14 u15 u16 u17 u18 u19 u20 u21 u22 u23 u24 u25 u26 u27 u28 u29 u30 u31 u32 u33 u34 u35 u36 u37 u38 u39 u40 u41 u42 u43 u44 u45 u46 u47 u48 u49 u50 u51 u52 u53 u54 u55 u56 u57 u58 u59 u60 u61 u62 u63 u64 u65 u66 u67 u68 u69 u70 u71 u72 u73 u74 u75 u76 u77 u78 u79 u80 u81 u82 u83 u84 u85 u86 u87 u88 u89 u90 u91 u92 u93 u94 u95 u96 u97 u98 u99 u100 u101 u102 u103 u104 u105 u106 u107 u108 u109 u110 u111 u112 u113 u114 u115 u116 u117 u118 u119 u120 u121 u122 u123 u124 u125 u126 u127 u128 u129 u130 u131 u132 u133 u134 u135 u136 u137 u138 u139 u140 u141 u142 u143 u144 u145 u146 u147 u148 u149 u150 u151 u152 u153 u154 u155 u156 u157 u158 u159 u160 u161 u162 u163 u164 u165 u166 u167 u168 u169 u170 u171 u172 u173 u174 u175 u176 u177 u178 u179 u180 u181 u182 u183 u184 u185 u186 u187 u188 u189 u190 u191 u192 u193 u194 u195 u196 u197 u198 u199 u200 u201 u202 u203 u204 u205 u206 u207 u208 u209 u210 u211 u212 u213 u214 u215 u216 u217 u218 u219 u220 u221 u222 u223 u224 u225 u226 u227 u228 u229 u230 u231 u232 u233 u234 u235 u236 u237 u238 u239 u240 u241 u242 : Value) :
    T.wp Tryz.prog (bodyPost Tryz.prog Tryz.f96 R) ⟨#[u0, u1, u2, .pointer (some ⟨g3, 0, none⟩), .pointer (some ⟨g4, 0, none⟩), u5, u6, .pointer (some ⟨g7, 0, none⟩), .pointer (some ⟨g8, 0, none⟩), .bool (ignB c.recs x), u10, u11, u12, u13, u14, u15, u16, u17, u18, u19, u20, u21, u22, u23, u24, u25, u26, u27, u28, u29, u30, u31, u32, u33, u34, u35, u36, u37, u38, u39, u40, u41, u42, u43, u44, u45, u46, u47, u48, u49, u50, u51, u52, u53, u54, u55, u56, u57, u58, u59, u60, u61, u62, u63, u64, u65, u66, u67, u68, u69, u70, u71, u72, u73, u74, u75, u76, u77, u78, u79, u80, u81, u82, u83, u84, u85, u86, u87, u88, u89, u90, u91, u92, u93, u94, u95, u96, u97, u98, u99, u100, u101, u102, u103, u104, u105, u106, u107, u108, u109, u110, u111, u112, u113, u114, u115, u116, u117, u118, u119, u120, u121, u122, u123, u124, u125, u126, u127, u128, u129, u130, u131, u132, u133, u134, u135, u136, u137, u138, u139, u140, u141, u142, u143, u144, u145, u146, u147, u148, u149, u150, u151, u152, u153, u154, u155, u156, u157, u158, u159, u160, u161, u162, u163, u164, u165, u166, u167, u168, u169, u170, u171, u172, u173, u174, u175, u176, u177, u178, u179, u180, u181, u182, u183, u184, u185, u186, u187, u188, u189, u190, u191, u192, u193, u194, u195, u196, u197, u198, u199, u200, u201, u202, u203, u204, u205, u206, u207, u208, u209, u210, u211, u212, u213, u214, u215, u216, u217, u218, u219, u220, u221, u222, u223, u224, u225, u226, u227, u228, u229, u230, u231, u232, u233, u234, u235, u236, u237, u238, u239, u240, u241, u242], []⟩ w := by
  simp only [Tryz.f96, Option.bind_some, tailAt, hasReg] at hT
  simp at hT
  subst hT
  have HRR := Lib.hid hRR
  have HR := Lib.hid hR
  clear hRR hR
  have HD := Lib.hid hD
  have HC := Lib.hid hC
  have HX := Lib.hid hX
  have HE := Lib.hid hE
  have HG := Lib.hid (refGet_any revs x.frm x.last (.slice Ar revs.length cr) dr w HR.out (by omega))
  have hat : atR revs x.frm x.last = someR (rGet revs x.frm x.last) := rfl
  have HLN : Hid (refLine revs x = rFirst revs (someR (rGet revs x.frm x.last))) := Lib.hid rfl
  have HPN : Hid (0 ≤ (someR (rGet revs x.frm x.last)).num ∧ (someR (rGet revs x.frm x.last)).num ≤ 1000000) := Lib.hid (by
    unfold someR
    cases hp : rGet revs x.frm x.last with
    | none => simp [zeroRev]
    | some v => exact hns v (rGet_mem hp).1)
  generalize hsd : someR (rGet revs x.frm x.last) = s at hat HLN HPN
  have HT := Lib.hid (fun T hT R g14 g16 W hR hD hC hX hE hS hL hRR => rcT21 T hT R revs c x t s Ar Ae Ac dr cr ce cc g3 g4 g7 g8 g14 g16 W hR hl hns hbs hat hfl hD hC hX hE hS hL hRR)
  have HFI := Lib.hid (fun X (hX : Below w.heap.size w X) => refFirst_any revs s (.slice Ar revs.length cr) dr X (HR.out.below hX) (by omega) HPN.out hns)
  have HSD := Lib.hid hsd
  obtain ⟨d0, d1, -, -⟩ := box2 HD.out
  obtain ⟨x0, x1, x2, x3, x4, x5⟩ := box6 HX.out
  clear hns hbs hD hC hX hE hfl hat hsd
  generalize (refSteps revs x && ((decide (t.act = 1) || !decide (rFirst revs (someR (rPrev revs (madeX c.num t))) = refLine revs x)) && (refCopy revs t x && refIgn revs c.recs t x))) = V21 at HRR HT
  generalize refLine revs x = l at HLN HT
  go_wp2_with fail
  refine HG.out.mono ?_
  rintro e w2 ⟨rfl, hb2⟩
  rw [HSD.out]
  generalize (rGet revs x.frm x.last).isSome = okb
  have hY := blk_new w2 [.string s.path, .int .i64 s.num, .int .i64 s.chg, .int .i64 s.act, .int .i64 s.ty.base, .bool s.ty.k, .bool s.ty.l, .bool s.ty.x, .int .u64 s.sum, .int .i64 s.size, .string s.frm, .int .i64 s.fnum] 40
  have hA : Below w.heap.size w (w2.alloc (.cells #[.string s.path, .int .i64 s.num, .int .i64 s.chg, .int .i64 s.act, .int .i64 s.ty.base, .bool s.ty.k, .bool s.ty.l, .bool s.ty.x, .int .u64 s.sum, .int .i64 s.size, .string s.frm, .int .i64 s.fnum] 40)) := below_alloc' hb2 _
  clear hb2 x0 x1 x2 x3 x4 x5 d0 d1
  try dsimp only
  go_upto_region 20 with fail
  generalize w2.alloc (.cells #[.string s.path, .int .i64 s.num, .int .i64 s.chg, .int .i64 s.act, .int .i64 s.ty.base, .bool s.ty.k, .bool s.ty.l, .bool s.ty.x, .int .u64 s.sum, .int .i64 s.size, .string s.frm, .int .i64 s.fnum] 40) = w3 at hY hA ⊢
  generalize w2.heap.size = g14 at hY ⊢
  have HA3 := Lib.hid hA
  have HY3 := Lib.hid hY
  clear hY hA
  obtain ⟨d0, d1, -, -⟩ := box2 (HD.out.below HA3.out HD.out.lt)
  obtain ⟨b0, b1, b2, b3, b4, b5, b6, b7, b8, b9, b10, b11⟩ := box12 HY3.out
  have HF3 := Lib.hid (HFI.out w3 HA3.out)
  rw [← HLN.out] at HF3
  go_cut [16] (fun v wx => ∃ g16, v = .pointer (some ⟨g16, 0, none⟩) ∧ Hid (Below w3.heap.size w3 wx ∧ Blk wx g16 90 [.string l.1, .int .i64 l.2]))
  case first =>
    go_wp2_with fail
    refine HF3.out.mono ?_
    rintro e w4 ⟨rfl, hb4⟩
    have HB4 := Lib.hid hb4
    clear hb4
    dsimp only
    go_wp2_with fail
    go_meet
    exact ⟨_, rfl, below_alloc' HB4.out _, blk_new w4 [.string l.1, .int .i64 l.2] _⟩
  case rest =>
    obtain ⟨g16, rfl, HV⟩ := hcut
    have HB := Lib.hid (below_next HA3.out HV.out.1)
    have hk := ‹∀ (a : Act) (w : World), Code.wp _ _ _ a w → _›
    exact hk _ _ (HT.out _ (by kernel_rfl) _ g14 g16 _ (HR.out.below HB.out) (HD.out.below HB.out HD.out.lt) (HC.out.below HB.out HC.out.lt) (HX.out.below HB.out HX.out.lt) (HE.out.below HB.out HE.out.lt) (HY3.out.below HV.out.1 HY3.out.lt) HV.out.2 (fun b w' hb hw => HRR.out b w' hb (below_next HB.out hw)) _ _ _ _ _ _ _ _ _ _ _ _ _ _ _ _ _ _ _ _ _ _ _ _ _ _ _ _ _ _ _ _ _ _ _ _ _ _ _ _ _ _ _ _ _ _ _ _ _ _ _ _ _ _ _ _ _ _ _ _ _ _ _ _ _ _ _ _ _ _ _ _ _ _ _ _ _ _ _ _ _ _ _ _ _ _ _ _ _ _ _ _ _ _ _ _ _ _ _ _ _ _ _ _ _ _ _ _ _ _ _ _ _ _ _ _ _ _ _ _ _ _ _ _ _ _ _ _ _ _ _ _ _ _ _ _ _ _ _ _ _ _ _ _ _ _ _ _ _ _ _ _ _ _ _ _ _ _ _ _ _ _ _ _ _ _ _ _ _ _ _ _ _ _ _ _ _ _ _ _ _ _ _ _ _ _ _ _ _ _ _ _ _ _ _ _ _ _ _ _ _ _ _ _ _ _ _ _ _ _ _ _ _ _ _ _ _ _ _ _ _ _ _ _ _ _ _ _ _ _ _ _ _ _ _ _)
end Go.Proofs.YtnblfaagchflaaaGreatDoor
