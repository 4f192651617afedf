/- The reference's record: the order of the records. -/
import Derived.Test.YtnblfaagchflaaaDoorMgw22
import Derived.Deep.RegionHeld3
namespace Go.Proofs.YtnblfaagchflaaaDoor
open Go.RowKit
set_option linter.unusedVariables false
set_option linter.unusedSimpArgs false

set_option maxRecDepth 100000 in
set_option maxHeartbeats 8000000 in
theorem rcR2 (ops : Array Oper) (hops : Tryd.f40.body.bind (regAt 2) = some ops) (Q : Exit → Act → World → Prop) (ad : Addr) (n cc j g4 g7 : Nat) (num : Int) (cl tx : ByteArray) (ev : Value) (x y : Rcd) (bi : Bool) (w : World) (hjn : j + 1 < n) (hn : n ≤ 100000)
    (hC : Blk w g4 42 [.int .i64 num, .string cl, .string tx, ev, .slice (some ad) n cc]) (hX : Blk w g7 50 [.string x.frm, .int .i64 x.first, .int .i64 x.last, .string x.to, .int .i64 x.num, .int .i64 x.how]) (hy : ∀ X, Below w.heap.size w X → RcdAt X (ad.add (j * 6)) y)
    (hb : ∀ X, Below w.heap.size w X → Calls Tryd.prog 41 #[.agg #[.string y.frm, .int .i64 y.first, .int .i64 y.last, .string y.to, .int .i64 y.num, .int .i64 y.how], .agg #[.string x.frm, .int .i64 x.first, .int .i64 x.last, .string x.to, .int .i64 x.num, .int .i64 x.how]] X fun e w' => e = .returned (.bool bi) ∧ Below X.heap.size X w')
    (u0 u1 u3 u5 u6 u8 u9 u10 u11 u12 u13 u14 u15 u16 u17 u18 u19 u20 u21 u22 u23 u24 u25 u26 u27 u28 u29 u30 u31 u32 u33 u34 u35 u36 u37 u38 u39 u40 u41 u42 u43 u44 u45 u46 u47 u48 u49 u50 u51 u52 u53 u54 u55 u56 u57 u58 u59 u60 u61 u62 u63 u64 u65 u66 u67 u68 u69 u70 u71 u72 u73 u74 u75 u76 u77 u78 u79 u80 u81 u82 u83 u84 u85 u86 u87 u88 u89 u90 u91 u92 u93 u94 u95 u96 u97 u98 u99 u100 u101 u102 u103 u104 u105 u106 u107 u108 u109 u110 u111 u112 u113 u114 u115 u116 u117 u118 u119 u120 u121 u122 u123 u124 u125 u126 u127 u128 u129 u130 u131 u132 u133 u134 u135 u136 u137 u138 u139 u140 u141 u142 u143 u144 u145 u146 u147 u148 u149 u150 u151 u152 u153 u154 u155 u156 u157 u158 u159 u160 u161 u162 u163 u164 u165 u166 u167 u168 u169 u170 u171 u172 u173 u174 u175 u176 u177 u178 u179 u180 u181 u182 u183 u184 u185 u186 u187 u188 u189 u190 u191 u192 u193 u194 u195 u196 u197 u198 u199 u200 u201 u202 u203 u204 u205 u206 u207 u208 u209 u210 u211 u212 u213 u214 u215 u216 u217 u218 u219 u220 u221 u222 u223 u224 u225 u226 u227 u228 u229 u230 u231 u232 u233 u234 u235 u236 u237 u238 u239 u240 u241 u242 : Value)
    (hQ : ∀ (t30 t31 t32 t33 t34 t35 t36 t37 t38 t39 t40 t41 t42 t43 t44 t45 t46 t47 t48 t49 t50 t51 : Value) (bb : Bool) (w' : World), Hid (Below w.heap.size w w' ∧ bb = (!bi || (decide (x.how < 1) || decide (4 < x.how)))) → Q .normal ⟨#[u0, u1, .int .i64 ((j + 1 : Nat) : Int), u3, .pointer (some ⟨g4, 0, none⟩), u5, u6, .pointer (some ⟨g7, 0, none⟩), u8, u9, u10, u11, u12, u13, u14, u15, u16, u17, u18, u19, u20, u21, u22, u23, u24, u25, u26, u27, u28, u29, t30, t31, t32, t33, t34, t35, t36, t37, t38, t39, t40, t41, t42, t43, t44, t45, t46, t47, t48, t49, t50, t51, .bool bb, u53, u54, u55, u56, u57, u58, u59, u60, u61, u62, u63, u64, u65, u66, u67, u68, u69, u70, u71, u72, u73, u74, u75, u76, u77, u78, u79, u80, u81, u82, u83, u84, u85, u86, u87, u88, u89, u90, u91, u92, u93, u94, u95, u96, u97, u98, u99, u100, u101, u102, u103, u104, u105, u106, u107, u108, u109, u110, u111, u112, u113, u114, u115, u116, u117, u118, u119, u120, u121, u122, u123, u124, u125, u126, u127, u128, u129, u130, u131, u132, u133, u134, u135, u136, u137, u138, u139, u140, u141, u142, u143, u144, u145, u146, u147, u148, u149, u150, u151, u152, u153, u154, u155, u156, u157, u158, u159, u160, u161, u162, u163, u164, u165, u166, u167, u168, u169, u170, u171, u172, u173, u174, u175, u176, u177, u178, u179, u180, u181, u182, u183, u184, u185, u186, u187, u188, u189, u190, u191, u192, u193, u194, u195, u196, u197, u198, u199, u200, u201, u202, u203, u204, u205, u206, u207, u208, u209, u210, u211, u212, u213, u214, u215, u216, u217, u218, u219, u220, u221, u222, u223, u224, u225, u226, u227, u228, u229, u230, u231, u232, u233, u234, u235, u236, u237, u238, u239, u240, u241, u242], []⟩ w') :
    (Code.region 2 ops true).wp Tryd.prog Q ⟨#[u0, u1, .int .i64 ((j + 1 : Nat) : Int), u3, .pointer (some ⟨g4, 0, none⟩), u5, u6, .pointer (some ⟨g7, 0, none⟩), u8, u9, u10, u11, u12, u13, u14, u15, u16, u17, u18, u19, u20, u21, u22, u23, u24, u25, u26, u27, u28, u29, u30, u31, u32, u33, u34, u35, u36, u37, u38, u39, u40, u41, u42, u43, u44, u45, u46, u47, u48, u49, u50, u51, u52, u53, u54, u55, u56, u57, u58, u59, u60, u61, u62, u63, u64, u65, u66, u67, u68, u69, u70, u71, u72, u73, u74, u75, u76, u77, u78, u79, u80, u81, u82, u83, u84, u85, u86, u87, u88, u89, u90, u91, u92, u93, u94, u95, u96, u97, u98, u99, u100, u101, u102, u103, u104, u105, u106, u107, u108, u109, u110, u111, u112, u113, u114, u115, u116, u117, u118, u119, u120, u121, u122, u123, u124, u125, u126, u127, u128, u129, u130, u131, u132, u133, u134, u135, u136, u137, u138, u139, u140, u141, u142, u143, u144, u145, u146, u147, u148, u149, u150, u151, u152, u153, u154, u155, u156, u157, u158, u159, u160, u161, u162, u163, u164, u165, u166, u167, u168, u169, u170, u171, u172, u173, u174, u175, u176, u177, u178, u179, u180, u181, u182, u183, u184, u185, u186, u187, u188, u189, u190, u191, u192, u193, u194, u195, u196, u197, u198, u199, u200, u201, u202, u203, u204, u205, u206, u207, u208, u209, u210, u211, u212, u213, u214, u215, u216, u217, u218, u219, u220, u221, u222, u223, u224, u225, u226, u227, u228, u229, u230, u231, u232, u233, u234, u235, u236, u237, u238, u239, u240, u241, u242], []⟩ w := by
  simp only [Tryd.f40, Option.bind_some, regAt] at hops
  simp at hops
  subst hops
  have HQ := Lib.hid hQ
  have HBE := Lib.hid hb
  have HCC : Hid (∀ w', Below w.heap.size w w' → w'.cell? ⟨g4, 4, none⟩ = some (.slice (some ad) n cc) ∧ w'.cell? (ad.add (j * 6)) = some (.string y.frm) ∧ w'.cell? ⟨(ad.add (j * 6)).block, (ad.add (j * 6)).off + 1, none⟩ = some (.int .i64 y.first) ∧ w'.cell? ⟨(ad.add (j * 6)).block, (ad.add (j * 6)).off + 2, none⟩ = some (.int .i64 y.last) ∧ w'.cell? ⟨(ad.add (j * 6)).block, (ad.add (j * 6)).off + 3, none⟩ = some (.string y.to) ∧ w'.cell? ⟨(ad.add (j * 6)).block, (ad.add (j * 6)).off + 4, none⟩ = some (.int .i64 y.num) ∧ w'.cell? ⟨(ad.add (j * 6)).block, (ad.add (j * 6)).off + 5, none⟩ = some (.int .i64 y.how) ∧ w'.cell? ⟨g7, 0, none⟩ = some (.string x.frm) ∧ w'.cell? ⟨g7, 1, none⟩ = some (.int .i64 x.first) ∧ w'.cell? ⟨g7, 2, none⟩ = some (.int .i64 x.last) ∧ w'.cell? ⟨g7, 3, none⟩ = some (.string x.to) ∧ w'.cell? ⟨g7, 4, none⟩ = some (.int .i64 x.num) ∧ w'.cell? ⟨g7, 5, none⟩ = some (.int .i64 x.how)) := Lib.hid fun w' hb => by
    obtain ⟨a1, a2, a3, a4, a5, a6⟩ := hy w' hb
    obtain ⟨-, -, -, -, k4⟩ := box5 (hC.below hb hC.lt)
    obtain ⟨x0, x1, x2, x3, x4, x5⟩ := box6 (hX.below hb hX.lt)
    exact ⟨k4, a1, a2, a3, a4, a5, a6, x0, x1, x2, x3, x4, x5⟩
  clear hQ hb hC hX hy
  have d0 : decide (0 < j + 1) = true := by simp
  have d1 : decide ((0 : Int) < ((j + 1 : Nat) : Int)) = true := decide_eq_true (by omega)
  have d2 : decide ((0 : Int) < (j : Int) + 1) = true := decide_eq_true (by omega)
  have hjz : (j : Int) < (n : Int) := by omega
  have hnz : (n : Int) ≤ 100000 := by omega
  have hwp : IntKind.i64.wrap (j : Int) = (j : Int) := by rw [IntKind.wrap_i64]; omega
  by_cases h1 : x.how < 1
  · have q1 : decide (x.how < 1) = true := by simpa using h1
    have HF : Hid (true = (!bi || (decide (x.how < 1) || decide (4 < x.how)))) := Lib.hid (by simp [h1])
    clear h1
    cases bi
    all_goals
      obtain ⟨f0, f1, f2, f3, f4, f5, f6, f7, f8, f9, f10, f11, f12⟩ := HCC.out w (Below.refl _ _)
      refine wp_region_noPanic ?_
      first
        | go_region_law ((go_simp; go_at_call 41; refine (HBE.out _ (Below.refl _ _).drew).mono ?_; rintro e w6 ⟨rfl, hb6⟩; have HS6 : Hid (Below w.heap.size w w6) := Lib.hid ((Below.refl _ _).drew.trans hb6); clear hb6; obtain ⟨g0, g1, g2, g3', g4', g5, g6, g7', g8, g9, g10, g11, g12⟩ := HCC.out w6 HS6.out; clear g0 g1 g2 g3' g4' g5 g6 g7' g8 g9 g10 g11))
        | fail
      all_goals exact NoPanic.normal (HQ.out _ _ _ _ _ _ _ _ _ _ _ _ _ _ _ _ _ _ _ _ _ _ true _ ⟨HS6.out, HF.out⟩)
  · have q1 : decide (x.how < 1) = false := by simpa using h1
    by_cases h2 : 4 < x.how
    · have q2 : decide (4 < x.how) = true := by simpa using h2
      have HF : Hid (true = (!bi || (decide (x.how < 1) || decide (4 < x.how)))) := Lib.hid (by simp [h2])
      clear h1 h2
      cases bi
      all_goals
        obtain ⟨f0, f1, f2, f3, f4, f5, f6, f7, f8, f9, f10, f11, f12⟩ := HCC.out w (Below.refl _ _)
        refine wp_region_noPanic ?_
        first
          | go_region_law ((go_simp; go_at_call 41; refine (HBE.out _ (Below.refl _ _).drew).mono ?_; rintro e w6 ⟨rfl, hb6⟩; have HS6 : Hid (Below w.heap.size w w6) := Lib.hid ((Below.refl _ _).drew.trans hb6); clear hb6; obtain ⟨g0, g1, g2, g3', g4', g5, g6, g7', g8, g9, g10, g11, g12⟩ := HCC.out w6 HS6.out; clear g0 g1 g2 g3' g4' g5 g6 g7' g8 g9 g10 g11))
          | fail
        all_goals exact NoPanic.normal (HQ.out _ _ _ _ _ _ _ _ _ _ _ _ _ _ _ _ _ _ _ _ _ _ true _ ⟨HS6.out, HF.out⟩)
    · have q2 : decide (4 < x.how) = false := by simpa using h2
      have HF : Hid ((!bi) = (!bi || (decide (x.how < 1) || decide (4 < x.how)))) := Lib.hid (by simp [h1, h2])
      clear h1 h2
      cases bi
      all_goals
        obtain ⟨f0, f1, f2, f3, f4, f5, f6, f7, f8, f9, f10, f11, f12⟩ := HCC.out w (Below.refl _ _)
        refine wp_region_noPanic ?_
        first
          | go_region_law ((go_simp; go_at_call 41; refine (HBE.out _ (Below.refl _ _).drew).mono ?_; rintro e w6 ⟨rfl, hb6⟩; have HS6 : Hid (Below w.heap.size w w6) := Lib.hid ((Below.refl _ _).drew.trans hb6); clear hb6; obtain ⟨g0, g1, g2, g3', g4', g5, g6, g7', g8, g9, g10, g11, g12⟩ := HCC.out w6 HS6.out; clear g0 g1 g2 g3' g4' g5 g6 g7' g8 g9 g10 g11))
          | fail
        all_goals exact NoPanic.normal (HQ.out _ _ _ _ _ _ _ _ _ _ _ _ _ _ _ _ _ _ _ _ _ _ _ _ ⟨HS6.out, HF.out⟩)
end Go.Proofs.YtnblfaagchflaaaDoor
/- The reference's examination of an edit, from the type on. -/
namespace Go.Proofs.YtnblfaagchflaaaDoor
open Go.RowKit
set_option linter.unusedVariables false
set_option linter.unusedSimpArgs false

def typV (f : ByteArray → Option Rev) (x : Edt) : Int := if typeE f x = false then 116 else 0
set_option maxRecDepth 100000 in
set_option maxHeartbeats 8000000 in
theorem edT18 (T : Code) (hT : Tryd.f38.body.bind (tailAt 18) = some T) (R : Ending → World → Prop) (revs : List Rev) (c : Chg) (x : Edt) (Ar Ae Ac : Option Addr) (dr : Value) (cr ce cc g3 g4 g7 : Nat) (w4 : World)
    (hR : Revs w4 (.slice Ar revs.length cr) revs) (hl : revs.length ≤ 100000) (hlog : ∀ p, LogOk revs p) (hbs : 0 ≤ x.base ∧ x.base ≤ 1000000)
    (hD : Blk w4 g3 25 [.slice Ar revs.length cr, dr]) (hC : Blk w4 g4 42 [.int .i64 c.num, .string c.client, .string c.text, .slice Ae c.edits.length ce, .slice Ac c.recs.length cc]) (hX : Blk w4 g7 39 [.string x.path, .int .i64 x.act, .int .i64 x.ty.base, .bool x.ty.k, .bool x.ty.l, .bool x.ty.x, .int .u64 x.sum, .int .i64 x.size, .int .i64 x.base, .string x.frm, .int .i64 x.fnum, .int .i64 x.fence])
    (hRR : ∀ (n : Int) (w' : World), n = typV (lastOf revs) x → Below w4.heap.size w4 w' → R (.returned (.int .i64 n)) w')
    (u0 u1 u2 u5 u6 u8 u9 u10 u11 u12 u13 u14 u15 u16 u17 u18 u19 u20 u21 u22 u23 u24 u25 u26 u27 u28 u29 u30 u31 u32 u33 u34 u35 u36 u37 u38 u39 u40 u41 u42 u43 u44 u45 u46 u47 u48 u49 u50 u51 u52 u53 u54 u55 u56 u57 u58 u59 u60 u61 u62 u63 u64 u65 u66 u67 u68 u69 u70 u71 u72 u73 u74 u75 u76 u77 u78 u79 u80 u81 u82 u83 u84 u85 u86 u87 u88 u89 u90 u91 u92 u93 u94 u95 u96 u97 u98 u99 u100 u101 u102 u103 u104 u105 u106 u107 u108 u109 u110 u111 u112 u113 u114 u115 u116 u117 u118 u119 u120 u121 u122 u123 u124 u125 u126 u127 u128 u129 u130 u131 u132 u133 u134 u135 u136 u137 u138 u139 u140 u141 u142 u143 u144 u145 u146 u147 : Value) :
    T.wp Tryd.prog (bodyPost Tryd.prog Tryd.f38 R) ⟨#[u0, u1, u2, .pointer (some ⟨g3, 0, none⟩), .pointer (some ⟨g4, 0, none⟩), u5, u6, .pointer (some ⟨g7, 0, none⟩), u8, u9, u10, u11, u12, u13, u14, u15, u16, u17, u18, u19, u20, u21, u22, u23, u24, u25, u26, u27, u28, u29, u30, u31, u32, u33, u34, u35, u36, u37, u38, u39, u40, u41, u42, u43, u44, u45, u46, u47, u48, u49, u50, u51, u52, u53, u54, u55, u56, u57, u58, u59, u60, u61, u62, u63, u64, u65, u66, u67, u68, u69, u70, u71, u72, u73, u74, u75, u76, u77, u78, u79, u80, u81, u82, u83, u84, u85, u86, u87, u88, u89, u90, u91, u92, u93, u94, u95, u96, u97, u98, u99, u100, u101, u102, u103, u104, u105, u106, u107, u108, u109, u110, u111, u112, u113, u114, u115, u116, u117, u118, u119, u120, u121, u122, u123, u124, u125, u126, u127, u128, u129, u130, u131, u132, u133, u134, u135, u136, u137, u138, u139, u140, u141, u142, u143, u144, u145, u146, u147], []⟩ w4 := by
  simp only [Tryd.f38, Option.bind_some, tailAt, hasReg] at hT
  simp at hT
  subst hT
  have HRR := Lib.hid hRR
  have HR := Lib.hid hR
  have HLR := Lib.hid (fun p => someR_last hlog p)
  have HBS := Lib.hid hbs
  have HX4 := Lib.hid hX
  have HD4 := Lib.hid hD
  have HC4 := Lib.hid hC
  have HLAST := Lib.hid (fun p X (hX : Below w4.heap.size w4 X) => refLast_any revs p (.slice Ar revs.length cr) dr X (HR.out.below hX) (by omega))
  clear hRR hR hlog hbs hD hC hX
  generalize lastOf revs = f at HRR HLR ⊢
  obtain ⟨c0, c1, c2, c3, c4, c5, c6, c7, c8, c9, c10, c11⟩ := box12 HX4.out
  have HCK := Lib.hid (fun X => refCheck_any x.ty.base x.ty.k x.ty.l x.ty.x X)
  cases htk : tyOk x.ty.base x.ty.k x.ty.x with
  | false =>
    rw [htk] at HCK
    have HF : Hid (116 = typV f x) := Lib.hid (by unfold typV typeE Ty.ok; rw [htk]; rfl)
    clear htk
    go_wp2_with fail
    refine (HCK.out _).mono ?_
    rintro e w5 ⟨rfl, hb5⟩
    have HB5 := Lib.hid hb5
    clear hb5
    go_wp2_with fail
    exact HRR.out _ _ HF.out (HB5.out)
  | true =>
    rw [htk] at HCK
    have HTK := Lib.hid htk
    clear htk
    go_wp2_with fail
    refine (HCK.out _).mono ?_
    rintro e w5 ⟨rfl, hb5⟩
    have HW5 := Lib.hid hb5
    have HX5 := Lib.hid (HX4.out.below hb5 HX4.out.lt)
    have HD5 := Lib.hid (HD4.out.below hb5 HD4.out.lt)
    have HC5 := Lib.hid (HC4.out.below hb5 HC4.out.lt)
    clear hb5 c0 c1 c2 c3 c4 c5 c6 c7 c8 c9 c10 c11
    obtain ⟨c0, c1, c2, c3, c4, c5, c6, c7, c8, c9, c10, c11⟩ := box12 HX5.out
    by_cases hz : x.size < 0
    · have q : decide (x.size < 0) = true := by simp; omega
      have HF : Hid (116 = typV f x) := Lib.hid (by unfold typV typeE; rw [show decide (0 ≤ x.size) = false by simp; omega]; simp)
      clear hz
      go_wp2_with fail
      exact HRR.out _ _ HF.out (HW5.out)
    · have q : decide (x.size < 0) = false := by simp; omega
      have HO4 : Hid ((typV f x) = if (liveA x.act || (decide (x.ty = (lastR f x.path).ty) && (decide (x.sum = 0) && decide (x.size = 0)))) = false then 116 else 0) := Lib.hid (by
        unfold typV; rw [typeE_eq]; unfold Ty.ok; rw [HTK.out, show decide (0 ≤ x.size) = true by simp; omega]; rfl)
      clear hz
      obtain ⟨d0, d1, -, -⟩ := box2 HD5.out
      have HL2 := Lib.hid (HLAST.out x.path w5 HW5.out)
      go_wp2_with fail
      refine HL2.out.mono ?_
      rintro e w6 ⟨rfl, hb6⟩
      rw [HLR.out x.path]
      generalize lastR f x.path = r at HO4 ⊢
      generalize (rLast revs x.path).isSome = okb
      have hY := blk_new w6 [.string r.path, .int .i64 r.num, .int .i64 r.chg, .int .i64 r.act, .int .i64 r.ty.base, .bool r.ty.k, .bool r.ty.l, .bool r.ty.x, .int .u64 r.sum, .int .i64 r.size, .string r.frm, .int .i64 r.fnum] 33
      have hA6 : Below w5.heap.size w5 (w6.alloc (.cells #[.string r.path, .int .i64 r.num, .int .i64 r.chg, .int .i64 r.act, .int .i64 r.ty.base, .bool r.ty.k, .bool r.ty.l, .bool r.ty.x, .int .u64 r.sum, .int .i64 r.size, .string r.frm, .int .i64 r.fnum] 33)) := below_alloc' hb6 _
      clear hb6 c0 c1 c2 c3 c4 c5 c6 c7 c8 c9 c10 c11 d0 d1
      go_upto_region 21 with fail
      generalize w6.alloc (.cells #[.string r.path, .int .i64 r.num, .int .i64 r.chg, .int .i64 r.act, .int .i64 r.ty.base, .bool r.ty.k, .bool r.ty.l, .bool r.ty.x, .int .u64 r.sum, .int .i64 r.size, .string r.frm, .int .i64 r.fnum] 33) = w7 at hY hA6 ⊢
      generalize w6.heap.size = g14 at hY ⊢
      have HX7 := Lib.hid (HX5.out.below hA6 HX5.out.lt)
      have HC7 := Lib.hid (HC5.out.below hA6 HC5.out.lt)
      have HY := Lib.hid hY
      have HW7 := Lib.hid (below_next HW5.out hA6)
      clear hY hA6
      obtain ⟨c0, c1, c2, c3, c4, c5, c6, c7, c8, c9, c10, c11⟩ := box12 HX7.out
      obtain ⟨k0, k1, k2, k3, k4⟩ := box5 HC7.out
      have HMD := Lib.hid (refMade_any c.num c.client c.text Ae Ac c.edits.length c.recs.length ce cc x w7 HBS.out)
      go_wp2_with fail
      refine HMD.out.mono ?_
      rintro e w8 ⟨rfl, hb8⟩
      have HB8 := Lib.hid hb8
      clear hb8 c0 c1 c2 c3 c4 c5 c6 c7 c8 c9 c10 c11 k0 k1 k2 k3 k4
      have HGO := Lib.hid (refGone_any (madeX c.num x) w8)
      go_wp2_with fail
      refine HGO.out.mono ?_
      rintro e w9 ⟨rfl, hb9⟩
      have HB9 := Lib.hid (below_next HB8.out hb9)
      clear hb9
      obtain ⟨c0, c1, c2, c3, c4, c5, c6, c7, c8, c9, c10, c11⟩ := box12 (HX7.out.below HB9.out HX7.out.lt)
      obtain ⟨b0, b1, b2, b3, b4, b5, b6, b7, b8, b9, b10, b11⟩ := box12 (HY.out.below HB9.out HY.out.lt)
      have hact : (madeX c.num x).act = x.act := rfl
      rw [hact]
      clear hact
      have hty := run_neq_ty x.ty r.ty
      have hcn := run_neq_con x.sum x.size 0 0
      generalize (decide (x.sum = 0) && decide (x.size = 0)) = bc at hcn HO4
      generalize decide (x.ty = r.ty) = bt at hty HO4
      cases hlv : liveA x.act with
      | true =>
        have HF : Hid (0 = typV f x) := Lib.hid (by rw [HO4.out, hlv]; rfl)
        clear hlv
        go_wp2_with fail
        exact HRR.out _ _ HF.out (below_next HW7.out HB9.out)
      | false =>
        rw [hlv] at HO4
        clear hlv
        cases bt with
        | false =>
          go_wp2_with fail
          exact HRR.out _ _ HO4.out.symm (below_next HW7.out HB9.out)
        | true =>
          cases bc with
          | false =>
            go_wp2_with fail
            exact HRR.out _ _ HO4.out.symm (below_next HW7.out HB9.out)
          | true =>
            go_wp2_with fail
            exact HRR.out _ _ HO4.out.symm (below_next HW7.out HB9.out)
end Go.Proofs.YtnblfaagchflaaaDoor
