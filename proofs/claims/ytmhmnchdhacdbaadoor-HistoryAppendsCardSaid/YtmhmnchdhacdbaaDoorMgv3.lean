/- The reference's record: the line of the target's previous revision. -/
import Derived.Test.YtmhmnchdhacdbaaDoorMgv2
import Derived.Deep.RegionHeld3
namespace Go.Proofs.YtmhmnchdhacdbaaDoor
open Go.RowKit
set_option linter.unusedVariables false
set_option linter.unusedSimpArgs false

set_option maxRecDepth 100000 in
set_option maxHeartbeats 8000000 in
theorem rcR28 (ops : Array Oper) (hops : Tryd.f45.body.bind (regAt 28) = some ops) (Q : Exit → Act → World → Prop) (revs : List Rev) (c : Chg) (t : Edt) (Ar Ae Ac : Option Addr) (dr : Value) (cr ce cc g3 g4 g8 : Nat) (w : World)
    (hR : Revs w (.slice Ar revs.length cr) revs) (hl : revs.length ≤ 100000) (hbs : 0 ≤ t.base ∧ t.base ≤ 100000) (hD : Blk w g3 31 [.slice Ar revs.length cr, dr])
    (hC : Blk w g4 26 [.int .i64 c.num, .string c.client, .string c.text, .slice Ae c.edits.length ce, .slice Ac c.recs.length cc])
    (hE : Blk w g8 48 [.string t.path, .int .i64 t.act, .int .i64 t.ty.base, .bool t.ty.k, .bool t.ty.l, .bool t.ty.x, .int .u64 t.sum, .int .i64 t.size, .int .i64 t.base, .string t.frm, .int .i64 t.fnum, .int .i64 t.fence])
    (u0 u1 u2 u5 u6 u7 u9 u10 u11 u12 u13 u14 u15 u16 u17 u18 u19 u20 u21 u22 u23 u24 u25 u26 u27 u28 u29 u30 u31 u32 u33 u34 u35 u36 u37 u38 u39 u40 u41 u42 u43 u44 u45 u46 u47 u48 u49 u50 u51 u52 u53 u54 u55 u56 u57 u58 u59 u60 u61 u62 u63 u64 u65 u66 u67 u68 u69 u70 u71 u72 u73 u74 u75 u76 u77 u78 u79 u80 u81 u82 u83 u84 u85 u86 u87 u88 u89 u90 u91 u92 u93 u94 u95 u96 u97 u98 u99 u100 u101 u102 u103 u104 u105 u106 u107 u108 u109 u110 u111 u112 u113 u114 u115 u116 u117 u118 u119 u120 u121 u122 u123 u124 u125 u126 u127 u128 u129 u130 u131 u132 u133 u134 u135 u136 u137 u138 u139 u140 u141 u142 u143 u144 u145 u146 u147 u148 u149 u150 u151 u152 u153 u154 u155 u156 u157 u158 u159 u160 u161 u162 u163 u164 u165 u166 u167 u168 u169 u170 u171 u172 u173 u174 u175 u176 u177 u178 u179 u180 u181 u182 u183 u184 u185 u186 u187 u188 u189 u190 u191 u192 u193 u194 u195 u196 u197 u198 u199 u200 u201 u202 u203 u204 u205 u206 u207 u208 u209 u210 u211 u212 u213 u214 u215 u216 u217 u218 u219 u220 u221 u222 u223 u224 u225 u226 u227 u228 u229 u230 u231 u232 u233 u234 u235 u236 u237 u238 u239 u240 u241 u242 : Value)
    (hQ : ∀ (t174 t175 t176 t177 t178 t179 t180 t181 v21 : Value) (g20 : Nat) (w' : World), Hid (Below w.heap.size w w' ∧ Blk w' g20 45 [.string (someR (rPrev revs (madeX c.num t))).path, .int .i64 (someR (rPrev revs (madeX c.num t))).num, .int .i64 (someR (rPrev revs (madeX c.num t))).chg, .int .i64 (someR (rPrev revs (madeX c.num t))).act, .int .i64 (someR (rPrev revs (madeX c.num t))).ty.base, .bool (someR (rPrev revs (madeX c.num t))).ty.k, .bool (someR (rPrev revs (madeX c.num t))).ty.l, .bool (someR (rPrev revs (madeX c.num t))).ty.x, .int .u64 (someR (rPrev revs (madeX c.num t))).sum, .int .i64 (someR (rPrev revs (madeX c.num t))).size, .string (someR (rPrev revs (madeX c.num t))).frm, .int .i64 (someR (rPrev revs (madeX c.num t))).fnum]) → Q .normal ⟨#[u0, u1, u2, .pointer (some ⟨g3, 0, none⟩), .pointer (some ⟨g4, 0, none⟩), u5, u6, u7, .pointer (some ⟨g8, 0, none⟩), u9, u10, u11, u12, u13, u14, u15, u16, u17, u18, u19, .pointer (some ⟨g20, 0, none⟩), v21, u22, u23, u24, u25, u26, u27, u28, u29, u30, u31, u32, u33, u34, u35, u36, u37, u38, u39, u40, u41, u42, u43, u44, u45, u46, u47, u48, u49, u50, u51, u52, u53, u54, u55, u56, u57, u58, u59, u60, u61, u62, u63, u64, u65, u66, u67, u68, u69, u70, u71, u72, u73, u74, u75, u76, u77, u78, u79, u80, u81, u82, u83, u84, u85, u86, u87, u88, u89, u90, u91, u92, u93, u94, u95, u96, u97, u98, u99, u100, u101, u102, u103, u104, u105, u106, u107, u108, u109, u110, u111, u112, u113, u114, u115, u116, u117, u118, u119, u120, u121, u122, u123, u124, u125, u126, u127, u128, u129, u130, u131, u132, u133, u134, u135, u136, u137, u138, u139, u140, u141, u142, u143, u144, u145, u146, u147, u148, u149, u150, u151, u152, u153, u154, u155, u156, u157, u158, u159, u160, u161, u162, u163, u164, u165, u166, u167, u168, u169, u170, u171, u172, u173, t174, t175, t176, t177, t178, t179, t180, t181, u182, u183, u184, u185, u186, u187, u188, u189, u190, u191, u192, u193, u194, u195, u196, u197, u198, u199, u200, u201, u202, u203, u204, u205, u206, u207, u208, u209, u210, u211, u212, u213, u214, u215, u216, u217, u218, u219, u220, u221, u222, u223, u224, u225, u226, u227, u228, u229, u230, u231, u232, u233, u234, u235, u236, u237, u238, u239, u240, u241, u242], []⟩ w') :
    (Code.region 28 ops true).wp Tryd.prog Q ⟨#[u0, u1, u2, .pointer (some ⟨g3, 0, none⟩), .pointer (some ⟨g4, 0, none⟩), u5, u6, u7, .pointer (some ⟨g8, 0, none⟩), u9, u10, u11, u12, u13, u14, u15, u16, u17, u18, u19, u20, u21, u22, u23, u24, u25, u26, u27, u28, u29, u30, u31, u32, u33, u34, u35, u36, u37, u38, u39, u40, u41, u42, u43, u44, u45, u46, u47, u48, u49, u50, u51, u52, u53, u54, u55, u56, u57, u58, u59, u60, u61, u62, u63, u64, u65, u66, u67, u68, u69, u70, u71, u72, u73, u74, u75, u76, u77, u78, u79, u80, u81, u82, u83, u84, u85, u86, u87, u88, u89, u90, u91, u92, u93, u94, u95, u96, u97, u98, u99, u100, u101, u102, u103, u104, u105, u106, u107, u108, u109, u110, u111, u112, u113, u114, u115, u116, u117, u118, u119, u120, u121, u122, u123, u124, u125, u126, u127, u128, u129, u130, u131, u132, u133, u134, u135, u136, u137, u138, u139, u140, u141, u142, u143, u144, u145, u146, u147, u148, u149, u150, u151, u152, u153, u154, u155, u156, u157, u158, u159, u160, u161, u162, u163, u164, u165, u166, u167, u168, u169, u170, u171, u172, u173, u174, u175, u176, u177, u178, u179, u180, u181, u182, u183, u184, u185, u186, u187, u188, u189, u190, u191, u192, u193, u194, u195, u196, u197, u198, u199, u200, u201, u202, u203, u204, u205, u206, u207, u208, u209, u210, u211, u212, u213, u214, u215, u216, u217, u218, u219, u220, u221, u222, u223, u224, u225, u226, u227, u228, u229, u230, u231, u232, u233, u234, u235, u236, u237, u238, u239, u240, u241, u242], []⟩ w := by
  simp only [Tryd.f45, Option.bind_some, regAt] at hops
  simp at hops
  subst hops
  have HQ := Lib.hid hQ
  have HR := Lib.hid hR
  have HD := Lib.hid hD
  have HC := Lib.hid hC
  have HE := Lib.hid hE
  have HMD := Lib.hid (fun X => refMade_any c.num c.client c.text Ae Ac c.edits.length c.recs.length ce cc t X ⟨hbs.1, by omega⟩)
  have HPV := Lib.hid (fun X (hX : Below w.heap.size w X) => (show Calls Tryd.prog 64 #[.agg #[.slice Ar revs.length cr, dr], .agg #[.string (madeX c.num t).path, .int .i64 (madeX c.num t).num, .int .i64 (madeX c.num t).chg, .int .i64 (madeX c.num t).act, .int .i64 (madeX c.num t).ty.base, .bool (madeX c.num t).ty.k, .bool (madeX c.num t).ty.l, .bool (madeX c.num t).ty.x, .int .u64 (madeX c.num t).sum, .int .i64 (madeX c.num t).size, .string (madeX c.num t).frm, .int .i64 (madeX c.num t).fnum]] X (fun e w' => e = .returned (.tuple #[.agg #[.string (someR (rPrev revs (madeX c.num t))).path, .int .i64 (someR (rPrev revs (madeX c.num t))).num, .int .i64 (someR (rPrev revs (madeX c.num t))).chg, .int .i64 (someR (rPrev revs (madeX c.num t))).act, .int .i64 (someR (rPrev revs (madeX c.num t))).ty.base, .bool (someR (rPrev revs (madeX c.num t))).ty.k, .bool (someR (rPrev revs (madeX c.num t))).ty.l, .bool (someR (rPrev revs (madeX c.num t))).ty.x, .int .u64 (someR (rPrev revs (madeX c.num t))).sum, .int .i64 (someR (rPrev revs (madeX c.num t))).size, .string (someR (rPrev revs (madeX c.num t))).frm, .int .i64 (someR (rPrev revs (madeX c.num t))).fnum], .bool (rPrev revs (madeX c.num t)).isSome]) ∧ Below X.heap.size X w') from refPrev_any revs (madeX c.num t) (.slice Ar revs.length cr) dr X (HR.out.below hX) (by omega) (by unfold madeX; dsimp only; omega)))
  have hf : ∀ w', Below w.heap.size w w' → w'.cell? ⟨g3, 0, none⟩ = some (.slice Ar revs.length cr) ∧ w'.cell? ⟨g3, 1, none⟩ = some dr ∧ w'.cell? ⟨g4, 0, none⟩ = some (.int .i64 c.num) ∧ w'.cell? ⟨g4, 1, none⟩ = some (.string c.client) ∧ w'.cell? ⟨g4, 2, none⟩ = some (.string c.text) ∧ w'.cell? ⟨g4, 3, none⟩ = some (.slice Ae c.edits.length ce) ∧ w'.cell? ⟨g4, 4, none⟩ = some (.slice Ac c.recs.length cc) := fun w' hb => by
    obtain ⟨a, b, -, -⟩ := box2 (HD.out.below hb HD.out.lt)
    obtain ⟨e, f, g, h, i⟩ := box5 (HC.out.below hb HC.out.lt)
    exact ⟨a, b, e, f, g, h, i⟩
  have he : ∀ w', Below w.heap.size w w' → _ := fun w' hb => box12 (HE.out.below hb HE.out.lt)
  have HF := Lib.hid hf
  have HE2 := Lib.hid he
  clear hQ hR hD hC hE hf he hbs
  have HCC : Hid (∀ w', Below w.heap.size w w' → w'.cell? ⟨g3, 0, none⟩ = some (.slice Ar revs.length cr) ∧ w'.cell? ⟨g3, 1, none⟩ = some dr ∧ w'.cell? ⟨g4, 0, none⟩ = some (.int .i64 c.num) ∧ w'.cell? ⟨g4, 1, none⟩ = some (.string c.client) ∧ w'.cell? ⟨g4, 2, none⟩ = some (.string c.text) ∧ w'.cell? ⟨g4, 3, none⟩ = some (.slice Ae c.edits.length ce) ∧ w'.cell? ⟨g4, 4, none⟩ = some (.slice Ac c.recs.length cc) ∧ w'.cell? ⟨g8, 0, none⟩ = some (.string t.path) ∧ w'.cell? ⟨g8, 1, none⟩ = some (.int .i64 t.act) ∧ w'.cell? ⟨g8, 2, none⟩ = some (.int .i64 t.ty.base) ∧ w'.cell? ⟨g8, 3, none⟩ = some (.bool t.ty.k) ∧ w'.cell? ⟨g8, 4, none⟩ = some (.bool t.ty.l) ∧ w'.cell? ⟨g8, 5, none⟩ = some (.bool t.ty.x) ∧ w'.cell? ⟨g8, 6, none⟩ = some (.int .u64 t.sum) ∧ w'.cell? ⟨g8, 7, none⟩ = some (.int .i64 t.size) ∧ w'.cell? ⟨g8, 8, none⟩ = some (.int .i64 t.base) ∧ w'.cell? ⟨g8, 9, none⟩ = some (.string t.frm) ∧ w'.cell? ⟨g8, 10, none⟩ = some (.int .i64 t.fnum) ∧ w'.cell? ⟨g8, 11, none⟩ = some (.int .i64 t.fence)) := Lib.hid fun w' hb => by
    obtain ⟨a, b, e, f, g, h, i⟩ := HF.out w' hb
    obtain ⟨c0, c1, c2, c3, c4, c5, c6, c7, c8, c9, c10, c11⟩ := HE2.out w' hb
    exact ⟨a, b, e, f, g, h, i, c0, c1, c2, c3, c4, c5, c6, c7, c8, c9, c10, c11⟩
  clear HF HE2
  have hbz : ∀ w, (Instr.build 45 #[]).run Tryd.prog w = .ok (.agg #[.string ⟨#[]⟩, .int .i64 0, .int .i64 0, .int .i64 0, .int .i64 0, .bool false, .bool false, .bool false, .int .u64 0, .int .i64 0, .string ⟨#[]⟩, .int .i64 0]) w := fun w => by kernel_rfl
  generalize someR (rPrev revs (madeX c.num t)) = u at HPV HQ
  generalize (rPrev revs (madeX c.num t)).isSome = okb at HPV
  generalize madeX c.num t = m at HMD HPV
  go_region_held3 (fun w' => Below w.heap.size w w' ∧ w'.cell? ⟨g3, 0, none⟩ = some (.slice Ar revs.length cr) ∧ w'.cell? ⟨g3, 1, none⟩ = some dr ∧ w'.cell? ⟨g4, 0, none⟩ = some (.int .i64 c.num) ∧ w'.cell? ⟨g4, 1, none⟩ = some (.string c.client) ∧ w'.cell? ⟨g4, 2, none⟩ = some (.string c.text) ∧ w'.cell? ⟨g4, 3, none⟩ = some (.slice Ae c.edits.length ce) ∧ w'.cell? ⟨g4, 4, none⟩ = some (.slice Ac c.recs.length cc) ∧ w'.cell? ⟨g8, 0, none⟩ = some (.string t.path) ∧ w'.cell? ⟨g8, 1, none⟩ = some (.int .i64 t.act) ∧ w'.cell? ⟨g8, 2, none⟩ = some (.int .i64 t.ty.base) ∧ w'.cell? ⟨g8, 3, none⟩ = some (.bool t.ty.k) ∧ w'.cell? ⟨g8, 4, none⟩ = some (.bool t.ty.l) ∧ w'.cell? ⟨g8, 5, none⟩ = some (.bool t.ty.x) ∧ w'.cell? ⟨g8, 6, none⟩ = some (.int .u64 t.sum) ∧ w'.cell? ⟨g8, 7, none⟩ = some (.int .i64 t.size) ∧ w'.cell? ⟨g8, 8, none⟩ = some (.int .i64 t.base) ∧ w'.cell? ⟨g8, 9, none⟩ = some (.string t.frm) ∧ w'.cell? ⟨g8, 10, none⟩ = some (.int .i64 t.fnum) ∧ w'.cell? ⟨g8, 11, none⟩ = some (.int .i64 t.fence))
    ((refine and_of ?_ (HCC.out _); first | with_reducible exact (Below.refl _ _).drew | with_reducible assumption | with_reducible exact ((Below.refl _ _).alloc (Nat.le_refl _) _).drew | with_reducible exact hS5.alloc hS5.size _ | with_reducible exact (hS5.alloc hS5.size _).drew | with_reducible exact hS5.drew | with_reducible exact hS6.alloc hS6.size _ | with_reducible exact below12 hS6 (Nat.le_refl _) u | with_reducible exact below12 hS6 hS5.size u))
    (first
      | (go_at_call 24; refine (HMD.out _).mono ?_; rintro e w5 ⟨rfl, hb5⟩; have hS5 : Below w.heap.size w w5 := below_next (by first | exact (Below.refl _ _).drew | exact ((Below.refl _ _).alloc (Nat.le_refl _) _).drew) hb5; first | (have hz5 : Blk w5 w.heap.size 45 [.string ⟨#[]⟩, .int .i64 0, .int .i64 0, .int .i64 0, .int .i64 0, .bool false, .bool false, .bool false, .int .u64 0, .int .i64 0, .string ⟨#[]⟩, .int .i64 0] := Blk.below' (by first | exact blk_new w _ _ | exact Blk.drew' (blk_new w _ _)) hb5) | skip)
      | (go_at_call 64; refine (HPV.out _ (by first | exact hS5 | exact hS5.drew | exact hS5.alloc hS5.size _ | exact (hS5.alloc hS5.size _).drew)).mono ?_; rintro e w6 ⟨rfl, hb6⟩; have hS6 : Below w.heap.size w w6 := below_next (by first | exact hS5 | exact hS5.drew | exact hS5.alloc hS5.size _ | exact (hS5.alloc hS5.size _).drew) hb6; first | (have ordB : True := trivial; have hz6 : Blk w6 w5.heap.size 45 [.string ⟨#[]⟩, .int .i64 0, .int .i64 0, .int .i64 0, .int .i64 0, .bool false, .bool false, .bool false, .int .u64 0, .int .i64 0, .string ⟨#[]⟩, .int .i64 0] := Blk.below' (by first | exact blk_new w5 _ _ | exact Blk.drew' (blk_new w5 _ _)) hb6; obtain ⟨y0, y1, y2, y3, y4, y5, y6, y7, y8, y9, y10, y11⟩ := frz12 hz6; obtain ⟨z0, z1, z2, z3, z4, z5, z6, z7, z8, z9, z10, z11⟩ := box12 hz6) | (have ordC : True := trivial; have hz6 : Blk w6 w.heap.size 45 [.string ⟨#[]⟩, .int .i64 0, .int .i64 0, .int .i64 0, .int .i64 0, .bool false, .bool false, .bool false, .int .u64 0, .int .i64 0, .string ⟨#[]⟩, .int .i64 0] := Blk.below' (by first | exact hz5 | exact Blk.drew' hz5) hb6; obtain ⟨y0, y1, y2, y3, y4, y5, y6, y7, y8, y9, y10, y11⟩ := frz12 hz6; obtain ⟨z0, z1, z2, z3, z4, z5, z6, z7, z8, z9, z10, z11⟩ := box12 hz6) | (have ordA : True := trivial)))
  all_goals
    first
      | (clear ordA
         have hq := blk_new w6 [.string u.path, .int .i64 u.num, .int .i64 u.chg, .int .i64 u.act, .int .i64 u.ty.base, .bool u.ty.k, .bool u.ty.l, .bool u.ty.x, .int .u64 u.sum, .int .i64 u.size, .string u.frm, .int .i64 u.fnum] 45
         have hbq := below_alloc' hS6 (.cells #[.string u.path, .int .i64 u.num, .int .i64 u.chg, .int .i64 u.act, .int .i64 u.ty.base, .bool u.ty.k, .bool u.ty.l, .bool u.ty.x, .int .u64 u.sum, .int .i64 u.size, .string u.frm, .int .i64 u.fnum] 45)
         generalize w6.alloc (.cells #[.string u.path, .int .i64 u.num, .int .i64 u.chg, .int .i64 u.act, .int .i64 u.ty.base, .bool u.ty.k, .bool u.ty.l, .bool u.ty.x, .int .u64 u.sum, .int .i64 u.size, .string u.frm, .int .i64 u.fnum] 45) = W9 at hq hbq ⊢
         exact HQ.out _ _ _ _ _ _ _ _ _ _ _ ⟨hbq, hq⟩)
      | (clear ordB
         have hq := set12 hz6 u
         have hbq := below12 hS6 hS5.size u
         generalize ((((((((((((w6.setCell ⟨w5.heap.size, 0, none⟩ (.string u.path)).setCell ⟨w5.heap.size, 1, none⟩ (.int .i64 u.num)).setCell ⟨w5.heap.size, 2, none⟩ (.int .i64 u.chg)).setCell ⟨w5.heap.size, 3, none⟩ (.int .i64 u.act)).setCell ⟨w5.heap.size, 4, none⟩ (.int .i64 u.ty.base)).setCell ⟨w5.heap.size, 5, none⟩ (.bool u.ty.k)).setCell ⟨w5.heap.size, 6, none⟩ (.bool u.ty.l)).setCell ⟨w5.heap.size, 7, none⟩ (.bool u.ty.x)).setCell ⟨w5.heap.size, 8, none⟩ (.int .u64 u.sum)).setCell ⟨w5.heap.size, 9, none⟩ (.int .i64 u.size)).setCell ⟨w5.heap.size, 10, none⟩ (.string u.frm)).setCell ⟨w5.heap.size, 11, none⟩ (.int .i64 u.fnum)) = W9 at hq hbq ⊢
         exact HQ.out _ _ _ _ _ _ _ _ _ _ _ ⟨hbq, hq⟩)
      | (clear ordC
         have hq := set12 hz6 u
         have hbq := below12 hS6 (Nat.le_refl w.heap.size) u
         generalize ((((((((((((w6.setCell ⟨w.heap.size, 0, none⟩ (.string u.path)).setCell ⟨w.heap.size, 1, none⟩ (.int .i64 u.num)).setCell ⟨w.heap.size, 2, none⟩ (.int .i64 u.chg)).setCell ⟨w.heap.size, 3, none⟩ (.int .i64 u.act)).setCell ⟨w.heap.size, 4, none⟩ (.int .i64 u.ty.base)).setCell ⟨w.heap.size, 5, none⟩ (.bool u.ty.k)).setCell ⟨w.heap.size, 6, none⟩ (.bool u.ty.l)).setCell ⟨w.heap.size, 7, none⟩ (.bool u.ty.x)).setCell ⟨w.heap.size, 8, none⟩ (.int .u64 u.sum)).setCell ⟨w.heap.size, 9, none⟩ (.int .i64 u.size)).setCell ⟨w.heap.size, 10, none⟩ (.string u.frm)).setCell ⟨w.heap.size, 11, none⟩ (.int .i64 u.fnum)) = W9 at hq hbq ⊢
         exact HQ.out _ _ _ _ _ _ _ _ _ _ _ ⟨hbq, hq⟩)
end Go.Proofs.YtmhmnchdhacdbaaDoor
/- The reference's record: regions that compare first members. -/
namespace Go.Proofs.YtmhmnchdhacdbaaDoor
open Go.RowKit
set_option linter.unusedVariables false
set_option linter.unusedSimpArgs false

set_option maxRecDepth 100000 in
set_option maxHeartbeats 8000000 in
theorem rcR29 (ops : Array Oper) (hops : Tryd.f45.body.bind (regAt 29) = some ops) (Q : Exit → Act → World → Prop) (revs : List Rev) (u : Rev) (l : Fil) (Ar : Option Addr) (dr : Value) (cr g3 g16 g20 : Nat) (w : World)
    (hR : Revs w (.slice Ar revs.length cr) revs) (hl : revs.length ≤ 100000) (hns : ∀ r ∈ revs, 0 ≤ r.num ∧ r.num ≤ 1000000) (hn : 0 ≤ u.num ∧ u.num ≤ 1000000) (hD : Blk w g3 31 [.slice Ar revs.length cr, dr]) (hL : Blk w g16 68 [.string l.1, .int .i64 l.2]) (hU : Blk w g20 45 [.string u.path, .int .i64 u.num, .int .i64 u.chg, .int .i64 u.act, .int .i64 u.ty.base, .bool u.ty.k, .bool u.ty.l, .bool u.ty.x, .int .u64 u.sum, .int .i64 u.size, .string u.frm, .int .i64 u.fnum])
    (u0 u1 u2 u4 u5 u6 u7 u8 u9 u10 u11 u12 u13 u14 u15 u17 u18 u19 u21 u22 u23 u24 u25 u26 u27 u28 u29 u30 u31 u32 u33 u34 u35 u36 u37 u38 u39 u40 u41 u42 u43 u44 u45 u46 u47 u48 u49 u50 u51 u52 u53 u54 u55 u56 u57 u58 u59 u60 u61 u62 u63 u64 u65 u66 u67 u68 u69 u70 u71 u72 u73 u74 u75 u76 u77 u78 u79 u80 u81 u82 u83 u84 u85 u86 u87 u88 u89 u90 u91 u92 u93 u94 u95 u96 u97 u98 u99 u100 u101 u102 u103 u104 u105 u106 u107 u108 u109 u110 u111 u112 u113 u114 u115 u116 u117 u118 u119 u120 u121 u122 u123 u124 u125 u126 u127 u128 u129 u130 u131 u132 u133 u134 u135 u136 u137 u138 u139 u140 u141 u142 u143 u144 u145 u146 u147 u148 u149 u150 u151 u152 u153 u154 u155 u156 u157 u158 u159 u160 u161 u162 u163 u164 u165 u166 u167 u168 u169 u170 u171 u172 u173 u174 u175 u176 u177 u178 u179 u180 u181 u182 u183 u184 u185 u186 u187 u188 u189 u190 u191 u192 u193 u194 u195 u196 u197 u198 u199 u200 u201 u202 u203 u204 u205 u206 u207 u208 u209 u210 u211 u212 u213 u214 u215 u216 u217 u218 u219 u220 u221 u222 u223 u224 u225 u226 u227 u228 u229 u230 u231 u232 u233 u234 u235 u236 u237 u238 u239 u240 u241 u242 : Value)
    (hQ : ∀ (t182 t183 t184 t185 : Value) (w' : World), Hid (Below w.heap.size w w') → Q .normal ⟨#[u0, u1, u2, .pointer (some ⟨g3, 0, none⟩), u4, u5, u6, u7, u8, u9, u10, u11, u12, u13, u14, u15, .pointer (some ⟨g16, 0, none⟩), u17, u18, u19, .pointer (some ⟨g20, 0, none⟩), u21, u22, u23, u24, u25, u26, u27, u28, u29, u30, u31, u32, u33, u34, u35, u36, u37, u38, u39, u40, u41, u42, u43, u44, u45, u46, u47, u48, u49, u50, u51, u52, u53, u54, u55, u56, u57, u58, u59, u60, u61, u62, u63, u64, u65, u66, u67, u68, u69, u70, u71, u72, u73, u74, u75, u76, u77, u78, u79, u80, u81, u82, u83, u84, u85, u86, u87, u88, u89, u90, u91, u92, u93, u94, u95, u96, u97, u98, u99, u100, u101, u102, u103, u104, u105, u106, u107, u108, u109, u110, u111, u112, u113, u114, u115, u116, u117, u118, u119, u120, u121, u122, u123, u124, u125, u126, u127, u128, u129, u130, u131, u132, u133, u134, u135, u136, u137, u138, u139, u140, u141, u142, u143, u144, u145, u146, u147, u148, u149, u150, u151, u152, u153, u154, u155, u156, u157, u158, u159, u160, u161, u162, u163, u164, u165, u166, u167, u168, u169, u170, u171, u172, u173, u174, u175, u176, u177, u178, u179, u180, u181, t182, t183, t184, t185, .bool (decide (rFirst revs u = l)), u187, u188, u189, u190, u191, u192, u193, u194, u195, u196, u197, u198, u199, u200, u201, u202, u203, u204, u205, u206, u207, u208, u209, u210, u211, u212, u213, u214, u215, u216, u217, u218, u219, u220, u221, u222, u223, u224, u225, u226, u227, u228, u229, u230, u231, u232, u233, u234, u235, u236, u237, u238, u239, u240, u241, u242], []⟩ w') :
    (Code.region 29 ops true).wp Tryd.prog Q ⟨#[u0, u1, u2, .pointer (some ⟨g3, 0, none⟩), u4, u5, u6, u7, u8, u9, u10, u11, u12, u13, u14, u15, .pointer (some ⟨g16, 0, none⟩), u17, u18, u19, .pointer (some ⟨g20, 0, none⟩), u21, u22, u23, u24, u25, u26, u27, u28, u29, u30, u31, u32, u33, u34, u35, u36, u37, u38, u39, u40, u41, u42, u43, u44, u45, u46, u47, u48, u49, u50, u51, u52, u53, u54, u55, u56, u57, u58, u59, u60, u61, u62, u63, u64, u65, u66, u67, u68, u69, u70, u71, u72, u73, u74, u75, u76, u77, u78, u79, u80, u81, u82, u83, u84, u85, u86, u87, u88, u89, u90, u91, u92, u93, u94, u95, u96, u97, u98, u99, u100, u101, u102, u103, u104, u105, u106, u107, u108, u109, u110, u111, u112, u113, u114, u115, u116, u117, u118, u119, u120, u121, u122, u123, u124, u125, u126, u127, u128, u129, u130, u131, u132, u133, u134, u135, u136, u137, u138, u139, u140, u141, u142, u143, u144, u145, u146, u147, u148, u149, u150, u151, u152, u153, u154, u155, u156, u157, u158, u159, u160, u161, u162, u163, u164, u165, u166, u167, u168, u169, u170, u171, u172, u173, u174, u175, u176, u177, u178, u179, u180, u181, u182, u183, u184, u185, u186, u187, u188, u189, u190, u191, u192, u193, u194, u195, u196, u197, u198, u199, u200, u201, u202, u203, u204, u205, u206, u207, u208, u209, u210, u211, u212, u213, u214, u215, u216, u217, u218, u219, u220, u221, u222, u223, u224, u225, u226, u227, u228, u229, u230, u231, u232, u233, u234, u235, u236, u237, u238, u239, u240, u241, u242], []⟩ w := by
  simp only [Tryd.f45, Option.bind_some, regAt] at hops
  simp at hops
  subst hops
  have HQ := Lib.hid hQ
  have HFI := Lib.hid (fun X (hX : Below w.heap.size w X) => refFirst_any revs u (.slice Ar revs.length cr) dr X (hR.below hX) (by omega) hn hns)
  have hf : ∀ w', Below w.heap.size w w' → w'.cell? ⟨g3, 0, none⟩ = some (.slice Ar revs.length cr) ∧ w'.cell? ⟨g3, 1, none⟩ = some dr ∧ w'.cell? ⟨g16, 0, none⟩ = some (.string l.1) ∧ w'.cell? ⟨g16, 1, none⟩ = some (.int .i64 l.2) := fun w' hb => by
    obtain ⟨a, b, -, -⟩ := box2 (hD.below hb hD.lt)
    obtain ⟨e, f, -, -⟩ := box2 (hL.below hb hL.lt)
    exact ⟨a, b, e, f⟩
  have he := fun w' (hb : Below w.heap.size w w') => box12 (hU.below hb hU.lt)
  have HF := Lib.hid hf
  have HE2 := Lib.hid he
  clear hQ hR hD hL hU hf he hn hns
  obtain ⟨f0, f1, f2, f3⟩ := HF.out w (Below.refl _ _)
  obtain ⟨c0, c1, c2, c3, c4, c5, c6, c7, c8, c9, c10, c11⟩ := HE2.out w (Below.refl _ _)
  obtain ⟨l1, l2⟩ := l
  dsimp only at *
  have heq := fun W => (show (binOp .eql 68 (.agg #[.string (rFirst revs u).1, .int .i64 (rFirst revs u).2]) (.agg #[.string l1, .int .i64 l2])).run Tryd.prog W = .ok (.bool (decide (rFirst revs u = (l1, l2)))) W from run_eql_fil _ _ _ _ W)
  generalize decide (rFirst revs u = (l1, l2)) = bl at heq HQ
  generalize (rFirst revs u).1 = r1 at HFI heq
  generalize (rFirst revs u).2 = r2 at HFI heq
  refine wp_region_noPanic ?_
  go_region_law ((go_simp; go_at_call 63; refine (HFI.out _ (by repeat (first | exact Below.refl _ _ | assumption | with_reducible refine Below.drew ?_ | with_reducible refine below_alloc' ?_ _ | with_reducible refine below12 ?_ (Nat.le_refl _) _))).mono ?_; rintro e w6 ⟨rfl, hb6⟩; have hS6 : Below w.heap.size w w6 := below_next (by repeat (first | exact Below.refl _ _ | assumption | with_reducible refine Below.drew ?_ | with_reducible refine below_alloc' ?_ _ | with_reducible refine below12 ?_ (Nat.le_refl _) _)) hb6; obtain ⟨f4, f5, f6, f7⟩ := HF.out w6 hS6))
  all_goals exact NoPanic.normal (HQ.out _ _ _ _ _ hS6)
set_option maxRecDepth 100000 in
set_option maxHeartbeats 8000000 in
theorem rcR25 (ops : Array Oper) (hops : Tryd.f45.body.bind (regAt 25) = some ops) (Q : Exit → Act → World → Prop) (revs : List Rev) (u : Rev) (l : Fil) (Ar : Option Addr) (dr : Value) (cr g3 g16 g20 : Nat) (w : World)
    (hR : Revs w (.slice Ar revs.length cr) revs) (hl : revs.length ≤ 100000) (hns : ∀ r ∈ revs, 0 ≤ r.num ∧ r.num ≤ 1000000) (hn : 0 ≤ u.num ∧ u.num ≤ 1000000) (hD : Blk w g3 31 [.slice Ar revs.length cr, dr]) (hL : Blk w g16 68 [.string l.1, .int .i64 l.2]) (hU : Blk w g20 45 [.string u.path, .int .i64 u.num, .int .i64 u.chg, .int .i64 u.act, .int .i64 u.ty.base, .bool u.ty.k, .bool u.ty.l, .bool u.ty.x, .int .u64 u.sum, .int .i64 u.size, .string u.frm, .int .i64 u.fnum])
    (u0 u1 u2 u4 u5 u6 u7 u8 u9 u10 u11 u12 u13 u14 u15 u17 u19 u20 u21 u22 u23 u24 u25 u26 u27 u28 u29 u30 u31 u32 u33 u34 u35 u36 u37 u38 u39 u40 u41 u42 u43 u44 u45 u46 u47 u48 u49 u50 u51 u52 u53 u54 u55 u56 u57 u58 u59 u60 u61 u62 u63 u64 u65 u66 u67 u68 u69 u70 u71 u72 u73 u74 u75 u76 u77 u78 u79 u80 u81 u82 u83 u84 u85 u86 u87 u88 u89 u90 u91 u92 u93 u94 u95 u96 u97 u98 u99 u100 u101 u102 u103 u104 u105 u106 u107 u108 u109 u110 u111 u112 u113 u114 u115 u116 u117 u118 u119 u120 u121 u122 u123 u124 u125 u126 u127 u128 u129 u130 u131 u132 u133 u134 u135 u136 u137 u138 u139 u140 u141 u142 u143 u144 u145 u146 u147 u148 u149 u150 u151 u152 u153 u154 u155 u156 u157 u158 u159 u160 u161 u162 u163 u164 u165 u166 u167 u168 u169 u170 u171 u172 u173 u174 u175 u176 u177 u178 u179 u180 u181 u182 u183 u184 u185 u186 u187 u188 u189 u190 u191 u192 u193 u194 u195 u196 u197 u198 u199 u200 u201 u202 u203 u204 u205 u206 u207 u208 u209 u210 u211 u212 u213 u214 u215 u216 u217 u218 u219 u220 u221 u222 u223 u224 u225 u226 u227 u228 u229 u230 u231 u232 u233 u234 u235 u236 u237 u238 u239 u240 u241 u242 : Value)
    (hQ : ∀ (t161 t162 t163 t164 t165 t166 t167 t168 t169 : Value) (w' : World), Hid (Below w.heap.size w w') → Q .normal ⟨#[u0, u1, u2, .pointer (some ⟨g3, 0, none⟩), u4, u5, u6, u7, u8, u9, u10, u11, u12, u13, u14, u15, .pointer (some ⟨g16, 0, none⟩), u17, .pointer (some ⟨g20, 0, none⟩), u19, u20, u21, u22, u23, u24, u25, u26, u27, u28, u29, u30, u31, u32, u33, u34, u35, u36, u37, u38, u39, u40, u41, u42, u43, u44, u45, u46, u47, u48, u49, u50, u51, u52, u53, u54, u55, u56, u57, u58, u59, u60, u61, u62, u63, u64, u65, u66, u67, u68, u69, u70, u71, u72, u73, u74, u75, u76, u77, u78, u79, u80, u81, u82, u83, u84, u85, u86, u87, u88, u89, u90, u91, u92, u93, u94, u95, u96, u97, u98, u99, u100, u101, u102, u103, u104, u105, u106, u107, u108, u109, u110, u111, u112, u113, u114, u115, u116, u117, u118, u119, u120, u121, u122, u123, u124, u125, u126, u127, u128, u129, u130, u131, u132, u133, u134, u135, u136, u137, u138, u139, u140, u141, u142, u143, u144, u145, u146, u147, u148, u149, u150, u151, u152, u153, u154, u155, u156, u157, u158, u159, u160, t161, t162, t163, t164, t165, t166, t167, t168, t169, .bool (decide (u.act = 5) || !decide (rFirst revs u = l)), u171, u172, u173, u174, u175, u176, u177, u178, u179, u180, u181, u182, u183, u184, u185, u186, u187, u188, u189, u190, u191, u192, u193, u194, u195, u196, u197, u198, u199, u200, u201, u202, u203, u204, u205, u206, u207, u208, u209, u210, u211, u212, u213, u214, u215, u216, u217, u218, u219, u220, u221, u222, u223, u224, u225, u226, u227, u228, u229, u230, u231, u232, u233, u234, u235, u236, u237, u238, u239, u240, u241, u242], []⟩ w') :
    (Code.region 25 ops true).wp Tryd.prog Q ⟨#[u0, u1, u2, .pointer (some ⟨g3, 0, none⟩), u4, u5, u6, u7, u8, u9, u10, u11, u12, u13, u14, u15, .pointer (some ⟨g16, 0, none⟩), u17, .pointer (some ⟨g20, 0, none⟩), u19, u20, u21, u22, u23, u24, u25, u26, u27, u28, u29, u30, u31, u32, u33, u34, u35, u36, u37, u38, u39, u40, u41, u42, u43, u44, u45, u46, u47, u48, u49, u50, u51, u52, u53, u54, u55, u56, u57, u58, u59, u60, u61, u62, u63, u64, u65, u66, u67, u68, u69, u70, u71, u72, u73, u74, u75, u76, u77, u78, u79, u80, u81, u82, u83, u84, u85, u86, u87, u88, u89, u90, u91, u92, u93, u94, u95, u96, u97, u98, u99, u100, u101, u102, u103, u104, u105, u106, u107, u108, u109, u110, u111, u112, u113, u114, u115, u116, u117, u118, u119, u120, u121, u122, u123, u124, u125, u126, u127, u128, u129, u130, u131, u132, u133, u134, u135, u136, u137, u138, u139, u140, u141, u142, u143, u144, u145, u146, u147, u148, u149, u150, u151, u152, u153, u154, u155, u156, u157, u158, u159, u160, u161, u162, u163, u164, u165, u166, u167, u168, u169, u170, u171, u172, u173, u174, u175, u176, u177, u178, u179, u180, u181, u182, u183, u184, u185, u186, u187, u188, u189, u190, u191, u192, u193, u194, u195, u196, u197, u198, u199, u200, u201, u202, u203, u204, u205, u206, u207, u208, u209, u210, u211, u212, u213, u214, u215, u216, u217, u218, u219, u220, u221, u222, u223, u224, u225, u226, u227, u228, u229, u230, u231, u232, u233, u234, u235, u236, u237, u238, u239, u240, u241, u242], []⟩ w := by
  simp only [Tryd.f45, Option.bind_some, regAt] at hops
  simp at hops
  subst hops
  have HQ := Lib.hid hQ
  have HFI := Lib.hid (fun X (hX : Below w.heap.size w X) => refFirst_any revs u (.slice Ar revs.length cr) dr X (hR.below hX) (by omega) hn hns)
  have hf : ∀ w', Below w.heap.size w w' → w'.cell? ⟨g3, 0, none⟩ = some (.slice Ar revs.length cr) ∧ w'.cell? ⟨g3, 1, none⟩ = some dr ∧ w'.cell? ⟨g16, 0, none⟩ = some (.string l.1) ∧ w'.cell? ⟨g16, 1, none⟩ = some (.int .i64 l.2) := fun w' hb => by
    obtain ⟨a, b, -, -⟩ := box2 (hD.below hb hD.lt)
    obtain ⟨e, f, -, -⟩ := box2 (hL.below hb hL.lt)
    exact ⟨a, b, e, f⟩
  have he := fun w' (hb : Below w.heap.size w w') => box12 (hU.below hb hU.lt)
  have HF := Lib.hid hf
  have HE2 := Lib.hid he
  clear hQ hR hD hL hU hf he hn hns
  obtain ⟨f0, f1, f2, f3⟩ := HF.out w (Below.refl _ _)
  obtain ⟨c0, c1, c2, c3, c4, c5, c6, c7, c8, c9, c10, c11⟩ := HE2.out w (Below.refl _ _)
  obtain ⟨l1, l2⟩ := l
  dsimp only at *
  have heq := fun W => (show (binOp .neq 68 (.agg #[.string (rFirst revs u).1, .int .i64 (rFirst revs u).2]) (.agg #[.string l1, .int .i64 l2])).run Tryd.prog W = .ok (.bool (!decide (rFirst revs u = (l1, l2)))) W from run_neq_fil _ _ _ _ W)
  generalize decide (rFirst revs u = (l1, l2)) = bl at heq HQ
  generalize (rFirst revs u).1 = r1 at HFI heq
  generalize (rFirst revs u).2 = r2 at HFI heq
  by_cases h5 : u.act = 5
  · have q5 : (u.act == 5) = true := by simpa using h5
    rw [decide_eq_true h5, Bool.true_or] at HQ
    clear h5 heq
    go_quiet (fail)
    exact HQ.out _ _ _ _ _ _ _ _ _ _ (below_dN (Below.refl _ _) _)
  · have q5 : (u.act == 5) = false := by simpa using h5
    rw [decide_eq_false h5, Bool.false_or] at HQ
    clear h5
    refine wp_region_noPanic ?_
    first
      | go_region_law ((go_simp; go_at_call 63; refine (HFI.out _ (by repeat (first | exact Below.refl _ _ | assumption | with_reducible refine Below.drew ?_ | with_reducible refine below_alloc' ?_ _ | with_reducible refine below12 ?_ (Nat.le_refl _) _))).mono ?_; rintro e w6 ⟨rfl, hb6⟩; have hS6 : Below w.heap.size w w6 := below_next (by repeat (first | exact Below.refl _ _ | assumption | with_reducible refine Below.drew ?_ | with_reducible refine below_alloc' ?_ _ | with_reducible refine below12 ?_ (Nat.le_refl _) _)) hb6; obtain ⟨f4, f5, f6, f7⟩ := HF.out w6 hS6))
      | fail
    all_goals exact NoPanic.normal (HQ.out _ _ _ _ _ _ _ _ _ _ hS6)
end Go.Proofs.YtmhmnchdhacdbaaDoor
/- The reference's record: the target's previous revision, then the rest. -/
namespace Go.Proofs.YtmhmnchdhacdbaaDoor
open Go.RowKit
set_option linter.unusedVariables false
set_option linter.unusedSimpArgs false

set_option maxRecDepth 100000 in
set_option maxHeartbeats 8000000 in
theorem rcT27 (T : Code) (hT : Tryd.f45.body.bind (tailAt 27) = some T) (R : Ending → World → Prop) (revs : List Rev) (c : Chg) (x : Rcd) (t : Edt) (s : Rev) (l : Fil) (Ar Ae Ac : Option Addr) (dr : Value) (cr ce cc g3 g4 g7 g8 g14 g16 : Nat) (w : World)
    (hR : Revs w (.slice Ar revs.length cr) revs) (hl : revs.length ≤ 100000) (hns : ∀ r ∈ revs, 0 ≤ r.num ∧ r.num ≤ 1000000) (hbs : 0 ≤ t.base ∧ t.base ≤ 100000) (hs : atR revs x.frm x.last = s)
    (hD : Blk w g3 31 [.slice Ar revs.length cr, dr])
    (hC : Blk w g4 26 [.int .i64 c.num, .string c.client, .string c.text, .slice Ae c.edits.length ce, .slice Ac c.recs.length cc])
    (hX : Blk w g7 50 [.string x.frm, .int .i64 x.first, .int .i64 x.last, .string x.to, .int .i64 x.num, .int .i64 x.how])
    (hE : Blk w g8 48 [.string t.path, .int .i64 t.act, .int .i64 t.ty.base, .bool t.ty.k, .bool t.ty.l, .bool t.ty.x, .int .u64 t.sum, .int .i64 t.size, .int .i64 t.base, .string t.frm, .int .i64 t.fnum, .int .i64 t.fence])
    (hS : Blk w g14 45 [.string s.path, .int .i64 s.num, .int .i64 s.chg, .int .i64 s.act, .int .i64 s.ty.base, .bool s.ty.k, .bool s.ty.l, .bool s.ty.x, .int .u64 s.sum, .int .i64 s.size, .string s.frm, .int .i64 s.fnum])
    (hL : Blk w g16 68 [.string l.1, .int .i64 l.2])
    (hRR : ∀ (b : Bool) (w' : World), b = ((decide (t.act = 1) || !decide (rFirst revs (someR (rPrev revs (madeX c.num t))) = l)) && (refCopy revs t x && refIgn revs c.recs t x)) → Below w.heap.size w w' → R (.returned (.bool b)) w')
    (u0 u1 u2 u5 u6 u10 u11 u12 u13 u15 u17 u18 u19 u20 u21 u22 u23 u24 u25 u26 u27 u28 u29 u30 u31 u32 u33 u34 u35 u36 u37 u38 u39 u40 u41 u42 u43 u44 u45 u46 u47 u48 u49 u50 u51 u52 u53 u54 u55 u56 u57 u58 u59 u60 u61 u62 u63 u64 u65 u66 u67 u68 u69 u70 u71 u72 u73 u74 u75 u76 u77 u78 u79 u80 u81 u82 u83 u84 u85 u86 u87 u88 u89 u90 u91 u92 u93 u94 u95 u96 u97 u98 u99 u100 u101 u102 u103 u104 u105 u106 u107 u108 u109 u110 u111 u112 u113 u114 u115 u116 u117 u118 u119 u120 u121 u122 u123 u124 u125 u126 u127 u128 u129 u130 u131 u132 u133 u134 u135 u136 u137 u138 u139 u140 u141 u142 u143 u144 u145 u146 u147 u148 u149 u150 u151 u152 u153 u154 u155 u156 u157 u158 u159 u160 u161 u162 u163 u164 u165 u166 u167 u168 u169 u170 u171 u172 u173 u174 u175 u176 u177 u178 u179 u180 u181 u182 u183 u184 u185 u186 u187 u188 u189 u190 u191 u192 u193 u194 u195 u196 u197 u198 u199 u200 u201 u202 u203 u204 u205 u206 u207 u208 u209 u210 u211 u212 u213 u214 u215 u216 u217 u218 u219 u220 u221 u222 u223 u224 u225 u226 u227 u228 u229 u230 u231 u232 u233 u234 u235 u236 u237 u238 u239 u240 u241 u242 : Value) :
    T.wp Tryd.prog (bodyPost Tryd.prog Tryd.f45 R) ⟨#[u0, u1, u2, .pointer (some ⟨g3, 0, none⟩), .pointer (some ⟨g4, 0, none⟩), u5, u6, .pointer (some ⟨g7, 0, none⟩), .pointer (some ⟨g8, 0, none⟩), .bool (ignB c.recs x), u10, u11, u12, u13, .pointer (some ⟨g14, 0, none⟩), u15, .pointer (some ⟨g16, 0, none⟩), u17, u18, u19, u20, u21, u22, u23, u24, u25, u26, u27, u28, u29, u30, u31, u32, u33, u34, u35, u36, u37, u38, u39, u40, u41, u42, u43, u44, u45, u46, u47, u48, u49, u50, u51, u52, u53, u54, u55, u56, u57, u58, u59, u60, u61, u62, u63, u64, u65, u66, u67, u68, u69, u70, u71, u72, u73, u74, u75, u76, u77, u78, u79, u80, u81, u82, u83, u84, u85, u86, u87, u88, u89, u90, u91, u92, u93, u94, u95, u96, u97, u98, u99, u100, u101, u102, u103, u104, u105, u106, u107, u108, u109, u110, u111, u112, u113, u114, u115, u116, u117, u118, u119, u120, u121, u122, u123, u124, u125, u126, u127, u128, u129, u130, u131, u132, u133, u134, u135, u136, u137, u138, u139, u140, u141, u142, u143, u144, u145, u146, u147, u148, u149, u150, u151, u152, u153, u154, u155, u156, u157, u158, u159, u160, u161, u162, u163, u164, u165, u166, u167, u168, u169, u170, u171, u172, u173, u174, u175, u176, u177, u178, u179, u180, u181, u182, u183, u184, u185, u186, u187, u188, u189, u190, u191, u192, u193, u194, u195, u196, u197, u198, u199, u200, u201, u202, u203, u204, u205, u206, u207, u208, u209, u210, u211, u212, u213, u214, u215, u216, u217, u218, u219, u220, u221, u222, u223, u224, u225, u226, u227, u228, u229, u230, u231, u232, u233, u234, u235, u236, u237, u238, u239, u240, u241, u242], []⟩ w := by
  simp only [Tryd.f45, Option.bind_some, tailAt, hasReg] at hT
  simp at hT
  subst hT
  have HRR := Lib.hid hRR
  have HR := Lib.hid hR
  clear hRR hR
  have HNS := Lib.hid hns
  have HBS := Lib.hid hbs
  have HD := Lib.hid hD
  have HC := Lib.hid hC
  have HX := Lib.hid hX
  have HE := Lib.hid hE
  have HS := Lib.hid hS
  have HL := Lib.hid hL
  have HPN : Hid (0 ≤ (someR (rPrev revs (madeX c.num t))).num ∧ (someR (rPrev revs (madeX c.num t))).num ≤ 1000000) := Lib.hid (by
    unfold someR
    cases hp : rPrev revs (madeX c.num t) with
    | none => simp [zeroRev]
    | some v => exact hns v (rPrev_mem hp))
  have HT := Lib.hid (fun T hT R W hR hD hX hE hS hRR => rcT31 T hT R revs c.recs x t s Ar dr cr g3 g7 g8 g14 W hR hl hs hD hX hE hS hRR)
  have HR28 := Lib.hid (fun ops hops Q => rcR28 ops hops Q revs c t Ar Ae Ac dr cr ce cc g3 g4 g8 w HR.out hl hbs hD hC hE)
  have HR29 := Lib.hid (fun ops hops Q g20 W hR hD hL hU => rcR29 ops hops Q revs (someR (rPrev revs (madeX c.num t))) l Ar dr cr g3 g16 g20 W hR hl hns HPN.out hD hL hU)
  clear hns hbs hD hC hX hE hS hL hs HPN HNS HBS
  generalize (refCopy revs t x && refIgn revs c.recs t x) = V31 at HRR HT
  generalize someR (rPrev revs (madeX c.num t)) = u at HRR HR28 HR29
  generalize rFirst revs u = fu at HRR HR29
  obtain ⟨c0, c1, c2, c3, c4, c5, c6, c7, c8, c9, c10, c11⟩ := box12 HE.out
  go_upto_if 173 with fail
  go_cut [] (fun wx => Hid (Below w.heap.size w wx ∧ (decide (t.act = 1) || !decide (fu = l)) = true))
  case first =>
    by_cases h1 : t.act = 1
    · have q1 : (t.act != 1) = false := by simpa using h1
      have HW : Hid ((decide (t.act = 1) || !decide (fu = l)) = true) := Lib.hid (by simp [h1])
      clear h1
      go_wp2_with fail
      go_meet
      exact ⟨Below.refl _ _, HW.out⟩
    · have q1 : (t.act != 1) = true := by simpa using h1
      have HW : Hid ((decide (t.act = 1) || !decide (fu = l)) = !decide (fu = l)) := Lib.hid (by simp [h1])
      clear h1
      go_upto_region 28 with fail
      refine HR28.out _ (by kernel_rfl) _ _ _ _ _ _ _ _ _ _ _ _ _ _ _ _ _ _ _ _ _ _ _ _ _ _ _ _ _ _ _ _ _ _ _ _ _ _ _ _ _ _ _ _ _ _ _ _ _ _ _ _ _ _ _ _ _ _ _ _ _ _ _ _ _ _ _ _ _ _ _ _ _ _ _ _ _ _ _ _ _ _ _ _ _ _ _ _ _ _ _ _ _ _ _ _ _ _ _ _ _ _ _ _ _ _ _ _ _ _ _ _ _ _ _ _ _ _ _ _ _ _ _ _ _ _ _ _ _ _ _ _ _ _ _ _ _ _ _ _ _ _ _ _ _ _ _ _ _ _ _ _ _ _ _ _ _ _ _ _ _ _ _ _ _ _ _ _ _ _ _ _ _ _ _ _ _ _ _ _ _ _ _ _ _ _ _ _ _ _ _ _ _ _ _ _ _ _ _ _ _ _ _ _ _ _ _ _ _ _ _ _ _ _ _ _ _ _ _ _ _ _ _ _ _ _ _ _ _ _ _ _ _ _ _ _ _ _ _ _ _ ?_
      intro t174 t175 t176 t177 t178 t179 t180 t181 v21 g20 w2 H2
      clear c0 c1 c2 c3 c4 c5 c6 c7 c8 c9 c10 c11 HR28
      go_upto_region 29 with fail
      refine HR29.out _ (by kernel_rfl) _ g20 w2 (HR.out.below H2.out.1) (HD.out.below H2.out.1 HD.out.lt) (HL.out.below H2.out.1 HL.out.lt) H2.out.2 _ _ _ _ _ _ _ _ _ _ _ _ _ _ _ _ _ _ _ _ _ _ _ _ _ _ _ _ _ _ _ _ _ _ _ _ _ _ _ _ _ _ _ _ _ _ _ _ _ _ _ _ _ _ _ _ _ _ _ _ _ _ _ _ _ _ _ _ _ _ _ _ _ _ _ _ _ _ _ _ _ _ _ _ _ _ _ _ _ _ _ _ _ _ _ _ _ _ _ _ _ _ _ _ _ _ _ _ _ _ _ _ _ _ _ _ _ _ _ _ _ _ _ _ _ _ _ _ _ _ _ _ _ _ _ _ _ _ _ _ _ _ _ _ _ _ _ _ _ _ _ _ _ _ _ _ _ _ _ _ _ _ _ _ _ _ _ _ _ _ _ _ _ _ _ _ _ _ _ _ _ _ _ _ _ _ _ _ _ _ _ _ _ _ _ _ _ _ _ _ _ _ _ _ _ _ _ _ _ _ _ _ _ _ _ _ _ _ _ _ _ _ _ _ _ _ _ _ _ _ _ _ _ _ _ _ _ _ _ _ ?_
      intro t182 t183 t184 t185 w3 H3
      have HB3 := Lib.hid (below_next H2.out.1 H3.out)
      clear H2 H3 HR29
      cases hfu : decide (fu = l) with
      | true =>
        have HF : Hid (false = ((decide (t.act = 1) || !decide (fu = l)) && V31)) := Lib.hid (by rw [HW.out, hfu]; rfl)
        clear hfu
        go_wp2_with fail
        exact HRR.out _ _ HF.out HB3.out
      | false =>
        have HF : Hid ((decide (t.act = 1) || !decide (fu = l)) = true) := Lib.hid (by rw [HW.out, hfu]; rfl)
        clear hfu
        go_wp2_with fail
        go_meet
        exact ⟨HB3.out, HF.out⟩
  case rest =>
    have HB := Lib.hid hcut.out.1
    have HW : Hid ((decide (t.act = 1) || !decide (fu = l)) = true) := Lib.hid hcut.out.2
    clear hcut
    have hk := ‹∀ (a : Act) (w : World), Code.wp _ _ _ a w → _›
    exact hk _ _ (HT.out _ (by kernel_rfl) _ _ (HR.out.below HB.out) (HD.out.below HB.out HD.out.lt) (HX.out.below HB.out HX.out.lt) (HE.out.below HB.out HE.out.lt) (HS.out.below HB.out HS.out.lt) (fun b w' hb hw => HRR.out b w' (by rw [HW.out, hb]; rfl) (below_next HB.out hw)) _ _ _ _ _ _ _ _ _ _ _ _ _ _ _ _ _ _ _ _ _ _ _ _ _ _ _ _ _ _ _ _ _ _ _ _ _ _ _ _ _ _ _ _ _ _ _ _ _ _ _ _ _ _ _ _ _ _ _ _ _ _ _ _ _ _ _ _ _ _ _ _ _ _ _ _ _ _ _ _ _ _ _ _ _ _ _ _ _ _ _ _ _ _ _ _ _ _ _ _ _ _ _ _ _ _ _ _ _ _ _ _ _ _ _ _ _ _ _ _ _ _ _ _ _ _ _ _ _ _ _ _ _ _ _ _ _ _ _ _ _ _ _ _ _ _ _ _ _ _ _ _ _ _ _ _ _ _ _ _ _ _ _ _ _ _ _ _ _ _ _ _ _ _ _ _ _ _ _ _ _ _ _ _ _ _ _ _ _ _ _ _ _ _ _ _ _ _ _ _ _ _ _ _ _ _ _ _ _ _ _ _ _ _ _ _ _ _ _ _ _ _ _ _ _ _ _ _ _ _ _ _ _ _ _ _ _ _)
end Go.Proofs.YtmhmnchdhacdbaaDoor
