/- The reference's record: the last part (ignored; the copy). -/
import Derived.Test.YtmhmnchdhacdbaaGreatDoorMgw3
import Derived.Deep.RegionHeld3
namespace Go.Proofs.YtmhmnchdhacdbaaGreatDoor
open Go.RowKit
set_option linter.unusedVariables false
set_option linter.unusedSimpArgs false

theorem refIgn_val (D : List Rev) (rs : List Rcd) (t : Edt) (x : Rcd) : refIgn D rs t x = if ignB rs x then (decide (t.act = 2) && (decide (t.ty = (someR (rGet D x.to t.base)).ty) && (decide (t.sum = (someR (rGet D x.to t.base)).sum) && decide (t.size = (someR (rGet D x.to t.base)).size)))) else true := by
  unfold refIgn atR someR; simp only [Bool.and_assoc]
theorem refCopy_val (D : List Rev) (t : Edt) (x : Rcd) {s : Rev} (h : atR D x.frm x.last = s) : refCopy D t x = if x.how = 1 then (decide (s.act = 3) == decide (t.act = 3)) && (decide (s.act = 3) || (decide (s.ty = t.ty) && (decide (s.sum = t.sum) && decide (s.size = t.size)))) else true := by
  subst h; unfold refCopy; simp only [Bool.and_assoc]
set_option maxRecDepth 100000 in
set_option maxHeartbeats 8000000 in
theorem rcT35 (T : Code) (hT : Tryz.f89.body.bind (tailAt 35) = some T) (R : Ending → World → Prop) (revs : List Rev) (rs : List Rcd) (x : Rcd) (t : Edt) (Ar : Option Addr) (dr : Value) (cr g3 g7 g8 : Nat) (w : World)
    (hR : Revs w (.slice Ar revs.length cr) revs) (hl : revs.length ≤ 100000) (hD : Blk w g3 28 [.slice Ar revs.length cr, dr])
    (hX : Blk w g7 60 [.string x.frm, .int .i64 x.first, .int .i64 x.last, .string x.to, .int .i64 x.num, .int .i64 x.how])
    (hE : Blk w g8 58 [.string t.path, .int .i64 t.act, .int .i64 t.ty.base, .bool t.ty.k, .bool t.ty.l, .bool t.ty.x, .int .u64 t.sum, .int .i64 t.size, .int .i64 t.base, .string t.frm, .int .i64 t.fnum, .int .i64 t.fence])
    (hRR : ∀ (b : Bool) (w' : World), b = refIgn revs rs t x → Below w.heap.size w w' → R (.returned (.bool b)) w')
    (u0 u1 u2 u4 u5 u6 u10 u11 u12 u13 u14 u15 u16 u17 u18 u19 u20 u21 u22 u23 u24 u25 u26 u27 u28 u29 u30 u31 u32 u33 u34 u35 u36 u37 u38 u39 u40 u41 u42 u43 u44 u45 u46 u47 u48 u49 u50 u51 u52 u53 u54 u55 u56 u57 u58 u59 u60 u61 u62 u63 u64 u65 u66 u67 u68 u69 u70 u71 u72 u73 u74 u75 u76 u77 u78 u79 u80 u81 u82 u83 u84 u85 u86 u87 u88 u89 u90 u91 u92 u93 u94 u95 u96 u97 u98 u99 u100 u101 u102 u103 u104 u105 u106 u107 u108 u109 u110 u111 u112 u113 u114 u115 u116 u117 u118 u119 u120 u121 u122 u123 u124 u125 u126 u127 u128 u129 u130 u131 u132 u133 u134 u135 u136 u137 u138 u139 u140 u141 u142 u143 u144 u145 u146 u147 u148 u149 u150 u151 u152 u153 u154 u155 u156 u157 u158 u159 u160 u161 u162 u163 u164 u165 u166 u167 u168 u169 u170 u171 u172 u173 u174 u175 u176 u177 u178 u179 u180 u181 u182 u183 u184 u185 u186 u187 u188 u189 u190 u191 u192 u193 u194 u195 u196 u197 u198 u199 u200 u201 u202 u203 u204 u205 u206 u207 u208 u209 u210 u211 u212 u213 u214 u215 u216 u217 u218 u219 u220 u221 u222 u223 u224 u225 u226 u227 u228 u229 u230 u231 u232 u233 u234 u235 u236 u237 u238 u239 u240 u241 u242 : Value) :
    T.wp Tryz.prog (bodyPost Tryz.prog Tryz.f89 R) ⟨#[u0, u1, u2, .pointer (some ⟨g3, 0, none⟩), u4, u5, u6, .pointer (some ⟨g7, 0, none⟩), .pointer (some ⟨g8, 0, none⟩), .bool (ignB rs x), u10, u11, u12, u13, u14, u15, u16, u17, u18, u19, u20, u21, u22, u23, u24, u25, u26, u27, u28, u29, u30, u31, u32, u33, u34, u35, u36, u37, u38, u39, u40, u41, u42, u43, u44, u45, u46, u47, u48, u49, u50, u51, u52, u53, u54, u55, u56, u57, u58, u59, u60, u61, u62, u63, u64, u65, u66, u67, u68, u69, u70, u71, u72, u73, u74, u75, u76, u77, u78, u79, u80, u81, u82, u83, u84, u85, u86, u87, u88, u89, u90, u91, u92, u93, u94, u95, u96, u97, u98, u99, u100, u101, u102, u103, u104, u105, u106, u107, u108, u109, u110, u111, u112, u113, u114, u115, u116, u117, u118, u119, u120, u121, u122, u123, u124, u125, u126, u127, u128, u129, u130, u131, u132, u133, u134, u135, u136, u137, u138, u139, u140, u141, u142, u143, u144, u145, u146, u147, u148, u149, u150, u151, u152, u153, u154, u155, u156, u157, u158, u159, u160, u161, u162, u163, u164, u165, u166, u167, u168, u169, u170, u171, u172, u173, u174, u175, u176, u177, u178, u179, u180, u181, u182, u183, u184, u185, u186, u187, u188, u189, u190, u191, u192, u193, u194, u195, u196, u197, u198, u199, u200, u201, u202, u203, u204, u205, u206, u207, u208, u209, u210, u211, u212, u213, u214, u215, u216, u217, u218, u219, u220, u221, u222, u223, u224, u225, u226, u227, u228, u229, u230, u231, u232, u233, u234, u235, u236, u237, u238, u239, u240, u241, u242], []⟩ w := by
  simp only [Tryz.f89, Option.bind_some, tailAt, hasReg] at hT
  simp at hT
  subst hT
  have HRR := Lib.hid hRR
  have HR := Lib.hid hR
  clear hRR hR
  have HD := Lib.hid hD
  have HX := Lib.hid hX
  have HE := Lib.hid hE
  have HV := Lib.hid (refIgn_val revs rs t x)
  clear hD hX hE
  generalize refIgn revs rs t x = V at HRR HV
  cases hig : ignB rs x with
  | false =>
    have HF : Hid (true = V) := Lib.hid (by rw [HV.out, hig]; rfl)
    clear hig
    go_wp2_with fail
    exact HRR.out _ _ HF.out (Below.refl _ _)
  | true =>
    have HW : Hid (V = (decide (t.act = 2) && (decide (t.ty = (someR (rGet revs x.to t.base)).ty) && (decide (t.sum = (someR (rGet revs x.to t.base)).sum) && decide (t.size = (someR (rGet revs x.to t.base)).size))))) := Lib.hid (by rw [HV.out, if_pos hig])
    clear hig HV
    obtain ⟨d0, d1, -, -⟩ := box2 HD.out
    obtain ⟨x0, x1, x2, x3, x4, x5⟩ := box6 HX.out
    obtain ⟨c0, c1, c2, c3, c4, c5, c6, c7, c8, c9, c10, c11⟩ := box12 HE.out
    have HG := Lib.hid (refGet_any revs x.to t.base (.slice Ar revs.length cr) dr w HR.out (by omega))
    go_wp2_with fail
    refine HG.out.mono ?_
    rintro e w2 ⟨rfl, hb2⟩
    generalize someR (rGet revs x.to t.base) = u at HW ⊢
    generalize (rGet revs x.to t.base).isSome = ok
    have hY := blk_new w2 [.string u.path, .int .i64 u.num, .int .i64 u.chg, .int .i64 u.act, .int .i64 u.ty.base, .bool u.ty.k, .bool u.ty.l, .bool u.ty.x, .int .u64 u.sum, .int .i64 u.size, .string u.frm, .int .i64 u.fnum] 36
    have hA : Below w.heap.size w (w2.alloc (.cells #[.string u.path, .int .i64 u.num, .int .i64 u.chg, .int .i64 u.act, .int .i64 u.ty.base, .bool u.ty.k, .bool u.ty.l, .bool u.ty.x, .int .u64 u.sum, .int .i64 u.size, .string u.frm, .int .i64 u.fnum] 36)) := below_alloc' hb2 _
    clear hb2 d0 d1 x0 x1 x2 x3 x4 x5 c0 c1 c2 c3 c4 c5 c6 c7 c8 c9 c10 c11
    go_upto_region 37 with fail
    generalize w2.alloc (.cells #[.string u.path, .int .i64 u.num, .int .i64 u.chg, .int .i64 u.act, .int .i64 u.ty.base, .bool u.ty.k, .bool u.ty.l, .bool u.ty.x, .int .u64 u.sum, .int .i64 u.size, .string u.frm, .int .i64 u.fnum] 36) = w3 at hY hA ⊢
    generalize w2.heap.size = g23 at hY ⊢
    obtain ⟨c0, c1, c2, c3, c4, c5, c6, c7, c8, c9, c10, c11⟩ := box12 (HE.out.below hA HE.out.lt)
    obtain ⟨b0, b1, b2, b3, b4, b5, b6, b7, b8, b9, b10, b11⟩ := box12 hY
    have HB := Lib.hid hA
    clear hA hY
    have hty := run_eql_ty t.ty u.ty
    have hcn := run_eql_con t.sum t.size u.sum u.size
    generalize (decide (t.sum = u.sum) && decide (t.size = u.size)) = bc at hcn HW
    generalize decide (t.ty = u.ty) = bt at hty HW
    by_cases h2 : t.act = 2
    · have q2 : (t.act == 2) = true := by simpa using h2
      rw [decide_eq_true h2] at HW
      clear h2
      cases bt <;> cases bc
      all_goals
        go_wp2_with fail
        exact HRR.out _ _ HW.out.symm HB.out
    · have q2 : (t.act == 2) = false := by simpa using h2
      rw [decide_eq_false h2] at HW
      clear h2
      go_wp2_with fail
      exact HRR.out _ _ HW.out.symm HB.out
set_option maxRecDepth 100000 in
set_option maxHeartbeats 8000000 in
theorem rcT31 (T : Code) (hT : Tryz.f89.body.bind (tailAt 31) = some T) (R : Ending → World → Prop) (revs : List Rev) (rs : List Rcd) (x : Rcd) (t : Edt) (s : Rev) (Ar : Option Addr) (dr : Value) (cr g3 g7 g8 g14 : Nat) (w : World)
    (hR : Revs w (.slice Ar revs.length cr) revs) (hl : revs.length ≤ 100000) (hs : atR revs x.frm x.last = s) (hD : Blk w g3 28 [.slice Ar revs.length cr, dr])
    (hX : Blk w g7 60 [.string x.frm, .int .i64 x.first, .int .i64 x.last, .string x.to, .int .i64 x.num, .int .i64 x.how])
    (hE : Blk w g8 58 [.string t.path, .int .i64 t.act, .int .i64 t.ty.base, .bool t.ty.k, .bool t.ty.l, .bool t.ty.x, .int .u64 t.sum, .int .i64 t.size, .int .i64 t.base, .string t.frm, .int .i64 t.fnum, .int .i64 t.fence])
    (hS : Blk w g14 36 [.string s.path, .int .i64 s.num, .int .i64 s.chg, .int .i64 s.act, .int .i64 s.ty.base, .bool s.ty.k, .bool s.ty.l, .bool s.ty.x, .int .u64 s.sum, .int .i64 s.size, .string s.frm, .int .i64 s.fnum])
    (hRR : ∀ (b : Bool) (w' : World), b = (refCopy revs t x && refIgn revs rs t x) → Below w.heap.size w w' → R (.returned (.bool b)) w')
    (u0 u1 u2 u4 u5 u6 u10 u11 u12 u13 u15 u16 u17 u18 u19 u20 u21 u22 u23 u24 u25 u26 u27 u28 u29 u30 u31 u32 u33 u34 u35 u36 u37 u38 u39 u40 u41 u42 u43 u44 u45 u46 u47 u48 u49 u50 u51 u52 u53 u54 u55 u56 u57 u58 u59 u60 u61 u62 u63 u64 u65 u66 u67 u68 u69 u70 u71 u72 u73 u74 u75 u76 u77 u78 u79 u80 u81 u82 u83 u84 u85 u86 u87 u88 u89 u90 u91 u92 u93 u94 u95 u96 u97 u98 u99 u100 u101 u102 u103 u104 u105 u106 u107 u108 u109 u110 u111 u112 u113 u114 u115 u116 u117 u118 u119 u120 u121 u122 u123 u124 u125 u126 u127 u128 u129 u130 u131 u132 u133 u134 u135 u136 u137 u138 u139 u140 u141 u142 u143 u144 u145 u146 u147 u148 u149 u150 u151 u152 u153 u154 u155 u156 u157 u158 u159 u160 u161 u162 u163 u164 u165 u166 u167 u168 u169 u170 u171 u172 u173 u174 u175 u176 u177 u178 u179 u180 u181 u182 u183 u184 u185 u186 u187 u188 u189 u190 u191 u192 u193 u194 u195 u196 u197 u198 u199 u200 u201 u202 u203 u204 u205 u206 u207 u208 u209 u210 u211 u212 u213 u214 u215 u216 u217 u218 u219 u220 u221 u222 u223 u224 u225 u226 u227 u228 u229 u230 u231 u232 u233 u234 u235 u236 u237 u238 u239 u240 u241 u242 : Value) :
    T.wp Tryz.prog (bodyPost Tryz.prog Tryz.f89 R) ⟨#[u0, u1, u2, .pointer (some ⟨g3, 0, none⟩), u4, u5, u6, .pointer (some ⟨g7, 0, none⟩), .pointer (some ⟨g8, 0, none⟩), .bool (ignB rs x), u10, u11, u12, u13, .pointer (some ⟨g14, 0, none⟩), u15, u16, u17, u18, u19, u20, u21, u22, u23, u24, u25, u26, u27, u28, u29, u30, u31, u32, u33, u34, u35, u36, u37, u38, u39, u40, u41, u42, u43, u44, u45, u46, u47, u48, u49, u50, u51, u52, u53, u54, u55, u56, u57, u58, u59, u60, u61, u62, u63, u64, u65, u66, u67, u68, u69, u70, u71, u72, u73, u74, u75, u76, u77, u78, u79, u80, u81, u82, u83, u84, u85, u86, u87, u88, u89, u90, u91, u92, u93, u94, u95, u96, u97, u98, u99, u100, u101, u102, u103, u104, u105, u106, u107, u108, u109, u110, u111, u112, u113, u114, u115, u116, u117, u118, u119, u120, u121, u122, u123, u124, u125, u126, u127, u128, u129, u130, u131, u132, u133, u134, u135, u136, u137, u138, u139, u140, u141, u142, u143, u144, u145, u146, u147, u148, u149, u150, u151, u152, u153, u154, u155, u156, u157, u158, u159, u160, u161, u162, u163, u164, u165, u166, u167, u168, u169, u170, u171, u172, u173, u174, u175, u176, u177, u178, u179, u180, u181, u182, u183, u184, u185, u186, u187, u188, u189, u190, u191, u192, u193, u194, u195, u196, u197, u198, u199, u200, u201, u202, u203, u204, u205, u206, u207, u208, u209, u210, u211, u212, u213, u214, u215, u216, u217, u218, u219, u220, u221, u222, u223, u224, u225, u226, u227, u228, u229, u230, u231, u232, u233, u234, u235, u236, u237, u238, u239, u240, u241, u242], []⟩ w := by
  simp only [Tryz.f89, Option.bind_some, tailAt, hasReg] at hT
  simp at hT
  subst hT
  have HRR := Lib.hid hRR
  have HR := Lib.hid hR
  clear hRR hR
  have HX := Lib.hid hX
  have HE := Lib.hid hE
  have HS := Lib.hid hS
  have HV := Lib.hid (refCopy_val revs t x hs)
  have HT := Lib.hid (fun T hT R hRR => rcT35 T hT R revs rs x t Ar dr cr g3 g7 g8 w HR.out hl hD hX hE hRR)
  clear hD hX hE hS hs HR
  generalize refCopy revs t x = V at HRR HV
  obtain ⟨x0, x1, x2, x3, x4, x5⟩ := box6 HX.out
  go_upto_if 189 with fail
  go_cut [] (fun wx => Hid (wx = w ∧ V = true))
  case first =>
    by_cases h1 : x.how = 1
    · have q1 : (x.how == 1) = true := by simpa using h1
      have HW : Hid (V = ((decide (s.act = 3) == decide (t.act = 3)) && (decide (s.act = 3) || (decide (s.ty = t.ty) && (decide (s.sum = t.sum) && decide (s.size = t.size)))))) := Lib.hid (by rw [HV.out, if_pos h1])
      clear h1 HV
      obtain ⟨c0, c1, c2, c3, c4, c5, c6, c7, c8, c9, c10, c11⟩ := box12 HE.out
      obtain ⟨b0, b1, b2, b3, b4, b5, b6, b7, b8, b9, b10, b11⟩ := box12 HS.out
      have hty := run_neq_ty s.ty t.ty
      have hcn := run_neq_con s.sum s.size t.sum t.size
      generalize (decide (s.sum = t.sum) && decide (s.size = t.size)) = bc at hcn HW
      generalize decide (s.ty = t.ty) = bt at hty HW
      have HQ3 : Hid ((s.act == 3) = decide (s.act = 3) ∧ (t.act == 3) = decide (t.act = 3)) := Lib.hid ⟨by rw [Bool.eq_iff_iff]; simp, by rw [Bool.eq_iff_iff]; simp⟩
      have qs := HQ3.out.1
      have qt := HQ3.out.2
      generalize decide (s.act = 3) = bs at qs HW
      generalize decide (t.act = 3) = bd at qt HW
      clear HQ3
      cases bs <;> cases bd <;> cases bt <;> cases bc
      all_goals
        go_wp2_with fail
        first
          | (exact HRR.out _ _ (by rw [HW.out]; rfl) (Below.refl _ _))
          | (go_meet
             exact ⟨rfl, HW.out⟩)
    · have q1 : (x.how == 1) = false := by simpa using h1
      have HW : Hid (V = true) := Lib.hid (by rw [HV.out, if_neg h1])
      clear h1 HV
      go_wp2_with fail
      go_meet
      exact ⟨rfl, HW.out⟩
  case rest =>
    obtain rfl : wc = w := hcut.out.1
    have HW : Hid (V = true) := Lib.hid hcut.out.2
    clear hcut
    have hk := ‹∀ (a : Act) (w : World), Code.wp _ _ _ a w → _›
    exact hk _ _ (HT.out _ (by kernel_rfl) _ (fun b w' hb hw => HRR.out b w' (by rw [HW.out, hb]; rfl) hw) _ _ _ _ _ _ _ _ _ _ _ _ _ _ _ _ _ _ _ _ _ _ _ _ _ _ _ _ _ _ _ _ _ _ _ _ _ _ _ _ _ _ _ _ _ _ _ _ _ _ _ _ _ _ _ _ _ _ _ _ _ _ _ _ _ _ _ _ _ _ _ _ _ _ _ _ _ _ _ _ _ _ _ _ _ _ _ _ _ _ _ _ _ _ _ _ _ _ _ _ _ _ _ _ _ _ _ _ _ _ _ _ _ _ _ _ _ _ _ _ _ _ _ _ _ _ _ _ _ _ _ _ _ _ _ _ _ _ _ _ _ _ _ _ _ _ _ _ _ _ _ _ _ _ _ _ _ _ _ _ _ _ _ _ _ _ _ _ _ _ _ _ _ _ _ _ _ _ _ _ _ _ _ _ _ _ _ _ _ _ _ _ _ _ _ _ _ _ _ _ _ _ _ _ _ _ _ _ _ _ _ _ _ _ _ _ _ _ _ _ _ _ _ _ _ _ _ _ _ _ _ _ _ _ _ _ _ _ _)
end Go.Proofs.YtmhmnchdhacdbaaGreatDoor
/- The reference's record: the line of the target's previous revision. -/
namespace Go.Proofs.YtmhmnchdhacdbaaGreatDoor
open Go.RowKit
set_option linter.unusedVariables false
set_option linter.unusedSimpArgs false

set_option maxRecDepth 100000 in
set_option maxHeartbeats 8000000 in
theorem rcR28 (ops : Array Oper) (hops : Tryz.f89.body.bind (regAt 28) = some ops) (Q : Exit → Act → World → Prop) (revs : List Rev) (c : Chg) (t : Edt) (Ar Ae Ac : Option Addr) (dr : Value) (cr ce cc g3 g4 g8 : Nat) (w : World)
    (hR : Revs w (.slice Ar revs.length cr) revs) (hl : revs.length ≤ 100000) (hbs : 0 ≤ t.base ∧ t.base ≤ 100000) (hD : Blk w g3 28 [.slice Ar revs.length cr, dr])
    (hC : Blk w g4 56 [.int .i64 c.num, .string c.client, .string c.text, .slice Ae c.edits.length ce, .slice Ac c.recs.length cc])
    (hE : Blk w g8 58 [.string t.path, .int .i64 t.act, .int .i64 t.ty.base, .bool t.ty.k, .bool t.ty.l, .bool t.ty.x, .int .u64 t.sum, .int .i64 t.size, .int .i64 t.base, .string t.frm, .int .i64 t.fnum, .int .i64 t.fence])
    (u0 u1 u2 u5 u6 u7 u9 u10 u11 u12 u13 u14 u15 u16 u17 u18 u19 u20 u21 u22 u23 u24 u25 u26 u27 u28 u29 u30 u31 u32 u33 u34 u35 u36 u37 u38 u39 u40 u41 u42 u43 u44 u45 u46 u47 u48 u49 u50 u51 u52 u53 u54 u55 u56 u57 u58 u59 u60 u61 u62 u63 u64 u65 u66 u67 u68 u69 u70 u71 u72 u73 u74 u75 u76 u77 u78 u79 u80 u81 u82 u83 u84 u85 u86 u87 u88 u89 u90 u91 u92 u93 u94 u95 u96 u97 u98 u99 u100 u101 u102 u103 u104 u105 u106 u107 u108 u109 u110 u111 u112 u113 u114 u115 u116 u117 u118 u119 u120 u121 u122 u123 u124 u125 u126 u127 u128 u129 u130 u131 u132 u133 u134 u135 u136 u137 u138 u139 u140 u141 u142 u143 u144 u145 u146 u147 u148 u149 u150 u151 u152 u153 u154 u155 u156 u157 u158 u159 u160 u161 u162 u163 u164 u165 u166 u167 u168 u169 u170 u171 u172 u173 u174 u175 u176 u177 u178 u179 u180 u181 u182 u183 u184 u185 u186 u187 u188 u189 u190 u191 u192 u193 u194 u195 u196 u197 u198 u199 u200 u201 u202 u203 u204 u205 u206 u207 u208 u209 u210 u211 u212 u213 u214 u215 u216 u217 u218 u219 u220 u221 u222 u223 u224 u225 u226 u227 u228 u229 u230 u231 u232 u233 u234 u235 u236 u237 u238 u239 u240 u241 u242 : Value)
    (hQ : ∀ (t174 t175 t176 t177 t178 t179 t180 t181 v21 : Value) (g20 : Nat) (w' : World), Hid (Below w.heap.size w w' ∧ Blk w' g20 36 [.string (someR (rPrev revs (madeX c.num t))).path, .int .i64 (someR (rPrev revs (madeX c.num t))).num, .int .i64 (someR (rPrev revs (madeX c.num t))).chg, .int .i64 (someR (rPrev revs (madeX c.num t))).act, .int .i64 (someR (rPrev revs (madeX c.num t))).ty.base, .bool (someR (rPrev revs (madeX c.num t))).ty.k, .bool (someR (rPrev revs (madeX c.num t))).ty.l, .bool (someR (rPrev revs (madeX c.num t))).ty.x, .int .u64 (someR (rPrev revs (madeX c.num t))).sum, .int .i64 (someR (rPrev revs (madeX c.num t))).size, .string (someR (rPrev revs (madeX c.num t))).frm, .int .i64 (someR (rPrev revs (madeX c.num t))).fnum]) → Q .normal ⟨#[u0, u1, u2, .pointer (some ⟨g3, 0, none⟩), .pointer (some ⟨g4, 0, none⟩), u5, u6, u7, .pointer (some ⟨g8, 0, none⟩), u9, u10, u11, u12, u13, u14, u15, u16, u17, u18, u19, .pointer (some ⟨g20, 0, none⟩), v21, u22, u23, u24, u25, u26, u27, u28, u29, u30, u31, u32, u33, u34, u35, u36, u37, u38, u39, u40, u41, u42, u43, u44, u45, u46, u47, u48, u49, u50, u51, u52, u53, u54, u55, u56, u57, u58, u59, u60, u61, u62, u63, u64, u65, u66, u67, u68, u69, u70, u71, u72, u73, u74, u75, u76, u77, u78, u79, u80, u81, u82, u83, u84, u85, u86, u87, u88, u89, u90, u91, u92, u93, u94, u95, u96, u97, u98, u99, u100, u101, u102, u103, u104, u105, u106, u107, u108, u109, u110, u111, u112, u113, u114, u115, u116, u117, u118, u119, u120, u121, u122, u123, u124, u125, u126, u127, u128, u129, u130, u131, u132, u133, u134, u135, u136, u137, u138, u139, u140, u141, u142, u143, u144, u145, u146, u147, u148, u149, u150, u151, u152, u153, u154, u155, u156, u157, u158, u159, u160, u161, u162, u163, u164, u165, u166, u167, u168, u169, u170, u171, u172, u173, t174, t175, t176, t177, t178, t179, t180, t181, u182, u183, u184, u185, u186, u187, u188, u189, u190, u191, u192, u193, u194, u195, u196, u197, u198, u199, u200, u201, u202, u203, u204, u205, u206, u207, u208, u209, u210, u211, u212, u213, u214, u215, u216, u217, u218, u219, u220, u221, u222, u223, u224, u225, u226, u227, u228, u229, u230, u231, u232, u233, u234, u235, u236, u237, u238, u239, u240, u241, u242], []⟩ w') :
    (Code.region 28 ops true).wp Tryz.prog Q ⟨#[u0, u1, u2, .pointer (some ⟨g3, 0, none⟩), .pointer (some ⟨g4, 0, none⟩), u5, u6, u7, .pointer (some ⟨g8, 0, none⟩), u9, u10, u11, u12, u13, u14, u15, u16, u17, u18, u19, u20, u21, u22, u23, u24, u25, u26, u27, u28, u29, u30, u31, u32, u33, u34, u35, u36, u37, u38, u39, u40, u41, u42, u43, u44, u45, u46, u47, u48, u49, u50, u51, u52, u53, u54, u55, u56, u57, u58, u59, u60, u61, u62, u63, u64, u65, u66, u67, u68, u69, u70, u71, u72, u73, u74, u75, u76, u77, u78, u79, u80, u81, u82, u83, u84, u85, u86, u87, u88, u89, u90, u91, u92, u93, u94, u95, u96, u97, u98, u99, u100, u101, u102, u103, u104, u105, u106, u107, u108, u109, u110, u111, u112, u113, u114, u115, u116, u117, u118, u119, u120, u121, u122, u123, u124, u125, u126, u127, u128, u129, u130, u131, u132, u133, u134, u135, u136, u137, u138, u139, u140, u141, u142, u143, u144, u145, u146, u147, u148, u149, u150, u151, u152, u153, u154, u155, u156, u157, u158, u159, u160, u161, u162, u163, u164, u165, u166, u167, u168, u169, u170, u171, u172, u173, u174, u175, u176, u177, u178, u179, u180, u181, u182, u183, u184, u185, u186, u187, u188, u189, u190, u191, u192, u193, u194, u195, u196, u197, u198, u199, u200, u201, u202, u203, u204, u205, u206, u207, u208, u209, u210, u211, u212, u213, u214, u215, u216, u217, u218, u219, u220, u221, u222, u223, u224, u225, u226, u227, u228, u229, u230, u231, u232, u233, u234, u235, u236, u237, u238, u239, u240, u241, u242], []⟩ w := by
  simp only [Tryz.f89, Option.bind_some, regAt] at hops
  simp at hops
  subst hops
  have HQ := Lib.hid hQ
  have HR := Lib.hid hR
  have HD := Lib.hid hD
  have HC := Lib.hid hC
  have HE := Lib.hid hE
  have HMD := Lib.hid (fun X => refMade_any c.num c.client c.text Ae Ac c.edits.length c.recs.length ce cc t X ⟨hbs.1, by omega⟩)
  have HPV := Lib.hid (fun X (hX : Below w.heap.size w X) => (show Calls Tryz.prog 123 #[.agg #[.slice Ar revs.length cr, dr], .agg #[.string (madeX c.num t).path, .int .i64 (madeX c.num t).num, .int .i64 (madeX c.num t).chg, .int .i64 (madeX c.num t).act, .int .i64 (madeX c.num t).ty.base, .bool (madeX c.num t).ty.k, .bool (madeX c.num t).ty.l, .bool (madeX c.num t).ty.x, .int .u64 (madeX c.num t).sum, .int .i64 (madeX c.num t).size, .string (madeX c.num t).frm, .int .i64 (madeX c.num t).fnum]] X (fun e w' => e = .returned (.tuple #[.agg #[.string (someR (rPrev revs (madeX c.num t))).path, .int .i64 (someR (rPrev revs (madeX c.num t))).num, .int .i64 (someR (rPrev revs (madeX c.num t))).chg, .int .i64 (someR (rPrev revs (madeX c.num t))).act, .int .i64 (someR (rPrev revs (madeX c.num t))).ty.base, .bool (someR (rPrev revs (madeX c.num t))).ty.k, .bool (someR (rPrev revs (madeX c.num t))).ty.l, .bool (someR (rPrev revs (madeX c.num t))).ty.x, .int .u64 (someR (rPrev revs (madeX c.num t))).sum, .int .i64 (someR (rPrev revs (madeX c.num t))).size, .string (someR (rPrev revs (madeX c.num t))).frm, .int .i64 (someR (rPrev revs (madeX c.num t))).fnum], .bool (rPrev revs (madeX c.num t)).isSome]) ∧ Below X.heap.size X w') from refPrev_any revs (madeX c.num t) (.slice Ar revs.length cr) dr X (HR.out.below hX) (by omega) (by unfold madeX; dsimp only; omega)))
  have hf : ∀ w', Below w.heap.size w w' → w'.cell? ⟨g3, 0, none⟩ = some (.slice Ar revs.length cr) ∧ w'.cell? ⟨g3, 1, none⟩ = some dr ∧ w'.cell? ⟨g4, 0, none⟩ = some (.int .i64 c.num) ∧ w'.cell? ⟨g4, 1, none⟩ = some (.string c.client) ∧ w'.cell? ⟨g4, 2, none⟩ = some (.string c.text) ∧ w'.cell? ⟨g4, 3, none⟩ = some (.slice Ae c.edits.length ce) ∧ w'.cell? ⟨g4, 4, none⟩ = some (.slice Ac c.recs.length cc) := fun w' hb => by
    obtain ⟨a, b, -, -⟩ := box2 (HD.out.below hb HD.out.lt)
    obtain ⟨e, f, g, h, i⟩ := box5 (HC.out.below hb HC.out.lt)
    exact ⟨a, b, e, f, g, h, i⟩
  have he : ∀ w', Below w.heap.size w w' → _ := fun w' hb => box12 (HE.out.below hb HE.out.lt)
  have HF := Lib.hid hf
  have HE2 := Lib.hid he
  clear hQ hR hD hC hE hf he hbs
  have HCC : Hid (∀ w', Below w.heap.size w w' → w'.cell? ⟨g3, 0, none⟩ = some (.slice Ar revs.length cr) ∧ w'.cell? ⟨g3, 1, none⟩ = some dr ∧ w'.cell? ⟨g4, 0, none⟩ = some (.int .i64 c.num) ∧ w'.cell? ⟨g4, 1, none⟩ = some (.string c.client) ∧ w'.cell? ⟨g4, 2, none⟩ = some (.string c.text) ∧ w'.cell? ⟨g4, 3, none⟩ = some (.slice Ae c.edits.length ce) ∧ w'.cell? ⟨g4, 4, none⟩ = some (.slice Ac c.recs.length cc) ∧ w'.cell? ⟨g8, 0, none⟩ = some (.string t.path) ∧ w'.cell? ⟨g8, 1, none⟩ = some (.int .i64 t.act) ∧ w'.cell? ⟨g8, 2, none⟩ = some (.int .i64 t.ty.base) ∧ w'.cell? ⟨g8, 3, none⟩ = some (.bool t.ty.k) ∧ w'.cell? ⟨g8, 4, none⟩ = some (.bool t.ty.l) ∧ w'.cell? ⟨g8, 5, none⟩ = some (.bool t.ty.x) ∧ w'.cell? ⟨g8, 6, none⟩ = some (.int .u64 t.sum) ∧ w'.cell? ⟨g8, 7, none⟩ = some (.int .i64 t.size) ∧ w'.cell? ⟨g8, 8, none⟩ = some (.int .i64 t.base) ∧ w'.cell? ⟨g8, 9, none⟩ = some (.string t.frm) ∧ w'.cell? ⟨g8, 10, none⟩ = some (.int .i64 t.fnum) ∧ w'.cell? ⟨g8, 11, none⟩ = some (.int .i64 t.fence)) := Lib.hid fun w' hb => by
    obtain ⟨a, b, e, f, g, h, i⟩ := HF.out w' hb
    obtain ⟨c0, c1, c2, c3, c4, c5, c6, c7, c8, c9, c10, c11⟩ := HE2.out w' hb
    exact ⟨a, b, e, f, g, h, i, c0, c1, c2, c3, c4, c5, c6, c7, c8, c9, c10, c11⟩
  clear HF HE2
  have hbz : ∀ w, (Instr.build 36 #[]).run Tryz.prog w = .ok (.agg #[.string ⟨#[]⟩, .int .i64 0, .int .i64 0, .int .i64 0, .int .i64 0, .bool false, .bool false, .bool false, .int .u64 0, .int .i64 0, .string ⟨#[]⟩, .int .i64 0]) w := fun w => by kernel_rfl
  generalize someR (rPrev revs (madeX c.num t)) = u at HPV HQ
  generalize (rPrev revs (madeX c.num t)).isSome = okb at HPV
  generalize madeX c.num t = m at HMD HPV
  go_region_held3 (fun w' => Below w.heap.size w w' ∧ w'.cell? ⟨g3, 0, none⟩ = some (.slice Ar revs.length cr) ∧ w'.cell? ⟨g3, 1, none⟩ = some dr ∧ w'.cell? ⟨g4, 0, none⟩ = some (.int .i64 c.num) ∧ w'.cell? ⟨g4, 1, none⟩ = some (.string c.client) ∧ w'.cell? ⟨g4, 2, none⟩ = some (.string c.text) ∧ w'.cell? ⟨g4, 3, none⟩ = some (.slice Ae c.edits.length ce) ∧ w'.cell? ⟨g4, 4, none⟩ = some (.slice Ac c.recs.length cc) ∧ w'.cell? ⟨g8, 0, none⟩ = some (.string t.path) ∧ w'.cell? ⟨g8, 1, none⟩ = some (.int .i64 t.act) ∧ w'.cell? ⟨g8, 2, none⟩ = some (.int .i64 t.ty.base) ∧ w'.cell? ⟨g8, 3, none⟩ = some (.bool t.ty.k) ∧ w'.cell? ⟨g8, 4, none⟩ = some (.bool t.ty.l) ∧ w'.cell? ⟨g8, 5, none⟩ = some (.bool t.ty.x) ∧ w'.cell? ⟨g8, 6, none⟩ = some (.int .u64 t.sum) ∧ w'.cell? ⟨g8, 7, none⟩ = some (.int .i64 t.size) ∧ w'.cell? ⟨g8, 8, none⟩ = some (.int .i64 t.base) ∧ w'.cell? ⟨g8, 9, none⟩ = some (.string t.frm) ∧ w'.cell? ⟨g8, 10, none⟩ = some (.int .i64 t.fnum) ∧ w'.cell? ⟨g8, 11, none⟩ = some (.int .i64 t.fence))
    ((refine and_of ?_ (HCC.out _); first | with_reducible exact (Below.refl _ _).drew | with_reducible assumption | with_reducible exact ((Below.refl _ _).alloc (Nat.le_refl _) _).drew | with_reducible exact hS5.alloc hS5.size _ | with_reducible exact (hS5.alloc hS5.size _).drew | with_reducible exact hS5.drew | with_reducible exact hS6.alloc hS6.size _ | with_reducible exact below12 hS6 (Nat.le_refl _) u | with_reducible exact below12 hS6 hS5.size u))
    (first
      | (go_at_call 58; refine (HMD.out _).mono ?_; rintro e w5 ⟨rfl, hb5⟩; have hS5 : Below w.heap.size w w5 := below_next (by first | exact (Below.refl _ _).drew | exact ((Below.refl _ _).alloc (Nat.le_refl _) _).drew) hb5; first | (have hz5 : Blk w5 w.heap.size 36 [.string ⟨#[]⟩, .int .i64 0, .int .i64 0, .int .i64 0, .int .i64 0, .bool false, .bool false, .bool false, .int .u64 0, .int .i64 0, .string ⟨#[]⟩, .int .i64 0] := Blk.below' (by first | exact blk_new w _ _ | exact Blk.drew' (blk_new w _ _)) hb5) | skip)
      | (go_at_call 123; refine (HPV.out _ (by first | exact hS5 | exact hS5.drew | exact hS5.alloc hS5.size _ | exact (hS5.alloc hS5.size _).drew)).mono ?_; rintro e w6 ⟨rfl, hb6⟩; have hS6 : Below w.heap.size w w6 := below_next (by first | exact hS5 | exact hS5.drew | exact hS5.alloc hS5.size _ | exact (hS5.alloc hS5.size _).drew) hb6; first | (have ordB : True := trivial; have hz6 : Blk w6 w5.heap.size 36 [.string ⟨#[]⟩, .int .i64 0, .int .i64 0, .int .i64 0, .int .i64 0, .bool false, .bool false, .bool false, .int .u64 0, .int .i64 0, .string ⟨#[]⟩, .int .i64 0] := Blk.below' (by first | exact blk_new w5 _ _ | exact Blk.drew' (blk_new w5 _ _)) hb6; obtain ⟨y0, y1, y2, y3, y4, y5, y6, y7, y8, y9, y10, y11⟩ := frz12 hz6; obtain ⟨z0, z1, z2, z3, z4, z5, z6, z7, z8, z9, z10, z11⟩ := box12 hz6) | (have ordC : True := trivial; have hz6 : Blk w6 w.heap.size 36 [.string ⟨#[]⟩, .int .i64 0, .int .i64 0, .int .i64 0, .int .i64 0, .bool false, .bool false, .bool false, .int .u64 0, .int .i64 0, .string ⟨#[]⟩, .int .i64 0] := Blk.below' (by first | exact hz5 | exact Blk.drew' hz5) hb6; obtain ⟨y0, y1, y2, y3, y4, y5, y6, y7, y8, y9, y10, y11⟩ := frz12 hz6; obtain ⟨z0, z1, z2, z3, z4, z5, z6, z7, z8, z9, z10, z11⟩ := box12 hz6) | (have ordA : True := trivial)))
  all_goals
    first
      | (clear ordA
         have hq := blk_new w6 [.string u.path, .int .i64 u.num, .int .i64 u.chg, .int .i64 u.act, .int .i64 u.ty.base, .bool u.ty.k, .bool u.ty.l, .bool u.ty.x, .int .u64 u.sum, .int .i64 u.size, .string u.frm, .int .i64 u.fnum] 36
         have hbq := below_alloc' hS6 (.cells #[.string u.path, .int .i64 u.num, .int .i64 u.chg, .int .i64 u.act, .int .i64 u.ty.base, .bool u.ty.k, .bool u.ty.l, .bool u.ty.x, .int .u64 u.sum, .int .i64 u.size, .string u.frm, .int .i64 u.fnum] 36)
         generalize w6.alloc (.cells #[.string u.path, .int .i64 u.num, .int .i64 u.chg, .int .i64 u.act, .int .i64 u.ty.base, .bool u.ty.k, .bool u.ty.l, .bool u.ty.x, .int .u64 u.sum, .int .i64 u.size, .string u.frm, .int .i64 u.fnum] 36) = W9 at hq hbq ⊢
         exact HQ.out _ _ _ _ _ _ _ _ _ _ _ ⟨hbq, hq⟩)
      | (clear ordB
         have hq := set12 hz6 u
         have hbq := below12 hS6 hS5.size u
         generalize ((((((((((((w6.setCell ⟨w5.heap.size, 0, none⟩ (.string u.path)).setCell ⟨w5.heap.size, 1, none⟩ (.int .i64 u.num)).setCell ⟨w5.heap.size, 2, none⟩ (.int .i64 u.chg)).setCell ⟨w5.heap.size, 3, none⟩ (.int .i64 u.act)).setCell ⟨w5.heap.size, 4, none⟩ (.int .i64 u.ty.base)).setCell ⟨w5.heap.size, 5, none⟩ (.bool u.ty.k)).setCell ⟨w5.heap.size, 6, none⟩ (.bool u.ty.l)).setCell ⟨w5.heap.size, 7, none⟩ (.bool u.ty.x)).setCell ⟨w5.heap.size, 8, none⟩ (.int .u64 u.sum)).setCell ⟨w5.heap.size, 9, none⟩ (.int .i64 u.size)).setCell ⟨w5.heap.size, 10, none⟩ (.string u.frm)).setCell ⟨w5.heap.size, 11, none⟩ (.int .i64 u.fnum)) = W9 at hq hbq ⊢
         exact HQ.out _ _ _ _ _ _ _ _ _ _ _ ⟨hbq, hq⟩)
      | (clear ordC
         have hq := set12 hz6 u
         have hbq := below12 hS6 (Nat.le_refl w.heap.size) u
         generalize ((((((((((((w6.setCell ⟨w.heap.size, 0, none⟩ (.string u.path)).setCell ⟨w.heap.size, 1, none⟩ (.int .i64 u.num)).setCell ⟨w.heap.size, 2, none⟩ (.int .i64 u.chg)).setCell ⟨w.heap.size, 3, none⟩ (.int .i64 u.act)).setCell ⟨w.heap.size, 4, none⟩ (.int .i64 u.ty.base)).setCell ⟨w.heap.size, 5, none⟩ (.bool u.ty.k)).setCell ⟨w.heap.size, 6, none⟩ (.bool u.ty.l)).setCell ⟨w.heap.size, 7, none⟩ (.bool u.ty.x)).setCell ⟨w.heap.size, 8, none⟩ (.int .u64 u.sum)).setCell ⟨w.heap.size, 9, none⟩ (.int .i64 u.size)).setCell ⟨w.heap.size, 10, none⟩ (.string u.frm)).setCell ⟨w.heap.size, 11, none⟩ (.int .i64 u.fnum)) = W9 at hq hbq ⊢
         exact HQ.out _ _ _ _ _ _ _ _ _ _ _ ⟨hbq, hq⟩)
end Go.Proofs.YtmhmnchdhacdbaaGreatDoor
