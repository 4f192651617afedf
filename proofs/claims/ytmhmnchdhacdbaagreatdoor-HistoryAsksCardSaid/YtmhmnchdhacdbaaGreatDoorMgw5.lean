/- The reference's record: regions that compare first members. -/
import Derived.Test.YtmhmnchdhacdbaaGreatDoorMgw3
namespace Go.Proofs.YtmhmnchdhacdbaaGreatDoor
open Go.RowKit
set_option linter.unusedVariables false
set_option linter.unusedSimpArgs false

set_option maxRecDepth 100000 in
set_option maxHeartbeats 8000000 in
theorem rcR29 (ops : Array Oper) (hops : Tryz.f89.body.bind (regAt 29) = some ops) (Q : Exit → Act → World → Prop) (revs : List Rev) (u : Rev) (l : Fil) (Ar : Option Addr) (dr : Value) (cr g3 g16 g20 : Nat) (w : World)
    (hR : Revs w (.slice Ar revs.length cr) revs) (hl : revs.length ≤ 100000) (hns : ∀ r ∈ revs, 0 ≤ r.num ∧ r.num ≤ 1000000) (hn : 0 ≤ u.num ∧ u.num ≤ 1000000) (hD : Blk w g3 28 [.slice Ar revs.length cr, dr]) (hL : Blk w g16 92 [.string l.1, .int .i64 l.2]) (hU : Blk w g20 36 [.string u.path, .int .i64 u.num, .int .i64 u.chg, .int .i64 u.act, .int .i64 u.ty.base, .bool u.ty.k, .bool u.ty.l, .bool u.ty.x, .int .u64 u.sum, .int .i64 u.size, .string u.frm, .int .i64 u.fnum])
    (u0 u1 u2 u4 u5 u6 u7 u8 u9 u10 u11 u12 u13 u14 u15 u17 u18 u19 u21 u22 u23 u24 u25 u26 u27 u28 u29 u30 u31 u32 u33 u34 u35 u36 u37 u38 u39 u40 u41 u42 u43 u44 u45 u46 u47 u48 u49 u50 u51 u52 u53 u54 u55 u56 u57 u58 u59 u60 u61 u62 u63 u64 u65 u66 u67 u68 u69 u70 u71 u72 u73 u74 u75 u76 u77 u78 u79 u80 u81 u82 u83 u84 u85 u86 u87 u88 u89 u90 u91 u92 u93 u94 u95 u96 u97 u98 u99 u100 u101 u102 u103 u104 u105 u106 u107 u108 u109 u110 u111 u112 u113 u114 u115 u116 u117 u118 u119 u120 u121 u122 u123 u124 u125 u126 u127 u128 u129 u130 u131 u132 u133 u134 u135 u136 u137 u138 u139 u140 u141 u142 u143 u144 u145 u146 u147 u148 u149 u150 u151 u152 u153 u154 u155 u156 u157 u158 u159 u160 u161 u162 u163 u164 u165 u166 u167 u168 u169 u170 u171 u172 u173 u174 u175 u176 u177 u178 u179 u180 u181 u182 u183 u184 u185 u186 u187 u188 u189 u190 u191 u192 u193 u194 u195 u196 u197 u198 u199 u200 u201 u202 u203 u204 u205 u206 u207 u208 u209 u210 u211 u212 u213 u214 u215 u216 u217 u218 u219 u220 u221 u222 u223 u224 u225 u226 u227 u228 u229 u230 u231 u232 u233 u234 u235 u236 u237 u238 u239 u240 u241 u242 : Value)
    (hQ : ∀ (t182 t183 t184 t185 : Value) (w' : World), Hid (Below w.heap.size w w') → Q .normal ⟨#[u0, u1, u2, .pointer (some ⟨g3, 0, none⟩), u4, u5, u6, u7, u8, u9, u10, u11, u12, u13, u14, u15, .pointer (some ⟨g16, 0, none⟩), u17, u18, u19, .pointer (some ⟨g20, 0, none⟩), u21, u22, u23, u24, u25, u26, u27, u28, u29, u30, u31, u32, u33, u34, u35, u36, u37, u38, u39, u40, u41, u42, u43, u44, u45, u46, u47, u48, u49, u50, u51, u52, u53, u54, u55, u56, u57, u58, u59, u60, u61, u62, u63, u64, u65, u66, u67, u68, u69, u70, u71, u72, u73, u74, u75, u76, u77, u78, u79, u80, u81, u82, u83, u84, u85, u86, u87, u88, u89, u90, u91, u92, u93, u94, u95, u96, u97, u98, u99, u100, u101, u102, u103, u104, u105, u106, u107, u108, u109, u110, u111, u112, u113, u114, u115, u116, u117, u118, u119, u120, u121, u122, u123, u124, u125, u126, u127, u128, u129, u130, u131, u132, u133, u134, u135, u136, u137, u138, u139, u140, u141, u142, u143, u144, u145, u146, u147, u148, u149, u150, u151, u152, u153, u154, u155, u156, u157, u158, u159, u160, u161, u162, u163, u164, u165, u166, u167, u168, u169, u170, u171, u172, u173, u174, u175, u176, u177, u178, u179, u180, u181, t182, t183, t184, t185, .bool (decide (rFirst revs u = l)), u187, u188, u189, u190, u191, u192, u193, u194, u195, u196, u197, u198, u199, u200, u201, u202, u203, u204, u205, u206, u207, u208, u209, u210, u211, u212, u213, u214, u215, u216, u217, u218, u219, u220, u221, u222, u223, u224, u225, u226, u227, u228, u229, u230, u231, u232, u233, u234, u235, u236, u237, u238, u239, u240, u241, u242], []⟩ w') :
    (Code.region 29 ops true).wp Tryz.prog Q ⟨#[u0, u1, u2, .pointer (some ⟨g3, 0, none⟩), u4, u5, u6, u7, u8, u9, u10, u11, u12, u13, u14, u15, .pointer (some ⟨g16, 0, none⟩), u17, u18, u19, .pointer (some ⟨g20, 0, none⟩), u21, u22, u23, u24, u25, u26, u27, u28, u29, u30, u31, u32, u33, u34, u35, u36, u37, u38, u39, u40, u41, u42, u43, u44, u45, u46, u47, u48, u49, u50, u51, u52, u53, u54, u55, u56, u57, u58, u59, u60, u61, u62, u63, u64, u65, u66, u67, u68, u69, u70, u71, u72, u73, u74, u75, u76, u77, u78, u79, u80, u81, u82, u83, u84, u85, u86, u87, u88, u89, u90, u91, u92, u93, u94, u95, u96, u97, u98, u99, u100, u101, u102, u103, u104, u105, u106, u107, u108, u109, u110, u111, u112, u113, u114, u115, u116, u117, u118, u119, u120, u121, u122, u123, u124, u125, u126, u127, u128, u129, u130, u131, u132, u133, u134, u135, u136, u137, u138, u139, u140, u141, u142, u143, u144, u145, u146, u147, u148, u149, u150, u151, u152, u153, u154, u155, u156, u157, u158, u159, u160, u161, u162, u163, u164, u165, u166, u167, u168, u169, u170, u171, u172, u173, u174, u175, u176, u177, u178, u179, u180, u181, u182, u183, u184, u185, u186, u187, u188, u189, u190, u191, u192, u193, u194, u195, u196, u197, u198, u199, u200, u201, u202, u203, u204, u205, u206, u207, u208, u209, u210, u211, u212, u213, u214, u215, u216, u217, u218, u219, u220, u221, u222, u223, u224, u225, u226, u227, u228, u229, u230, u231, u232, u233, u234, u235, u236, u237, u238, u239, u240, u241, u242], []⟩ w := by
  simp only [Tryz.f89, Option.bind_some, regAt] at hops
  simp at hops
  subst hops
  have HQ := Lib.hid hQ
  have HFI := Lib.hid (fun X (hX : Below w.heap.size w X) => refFirst_any revs u (.slice Ar revs.length cr) dr X (hR.below hX) (by omega) hn hns)
  have hf : ∀ w', Below w.heap.size w w' → w'.cell? ⟨g3, 0, none⟩ = some (.slice Ar revs.length cr) ∧ w'.cell? ⟨g3, 1, none⟩ = some dr ∧ w'.cell? ⟨g16, 0, none⟩ = some (.string l.1) ∧ w'.cell? ⟨g16, 1, none⟩ = some (.int .i64 l.2) := fun w' hb => by
    obtain ⟨a, b, -, -⟩ := box2 (hD.below hb hD.lt)
    obtain ⟨e, f, -, -⟩ := box2 (hL.below hb hL.lt)
    exact ⟨a, b, e, f⟩
  have he := fun w' (hb : Below w.heap.size w w') => box12 (hU.below hb hU.lt)
  have HF := Lib.hid hf
  have HE2 := Lib.hid he
  clear hQ hR hD hL hU hf he hn hns
  obtain ⟨f0, f1, f2, f3⟩ := HF.out w (Below.refl _ _)
  obtain ⟨c0, c1, c2, c3, c4, c5, c6, c7, c8, c9, c10, c11⟩ := HE2.out w (Below.refl _ _)
  obtain ⟨l1, l2⟩ := l
  dsimp only at *
  have heq := fun W => (show (binOp .eql 92 (.agg #[.string (rFirst revs u).1, .int .i64 (rFirst revs u).2]) (.agg #[.string l1, .int .i64 l2])).run Tryz.prog W = .ok (.bool (decide (rFirst revs u = (l1, l2)))) W from run_eql_fil _ _ _ _ W)
  generalize decide (rFirst revs u = (l1, l2)) = bl at heq HQ
  generalize (rFirst revs u).1 = r1 at HFI heq
  generalize (rFirst revs u).2 = r2 at HFI heq
  refine wp_region_noPanic ?_
  go_region_law ((go_simp; go_at_call 122; refine (HFI.out _ (by repeat (first | exact Below.refl _ _ | assumption | with_reducible refine Below.drew ?_ | with_reducible refine below_alloc' ?_ _ | with_reducible refine below12 ?_ (Nat.le_refl _) _))).mono ?_; rintro e w6 ⟨rfl, hb6⟩; have hS6 : Below w.heap.size w w6 := below_next (by repeat (first | exact Below.refl _ _ | assumption | with_reducible refine Below.drew ?_ | with_reducible refine below_alloc' ?_ _ | with_reducible refine below12 ?_ (Nat.le_refl _) _)) hb6; obtain ⟨f4, f5, f6, f7⟩ := HF.out w6 hS6))
  all_goals exact NoPanic.normal (HQ.out _ _ _ _ _ hS6)
set_option maxRecDepth 100000 in
set_option maxHeartbeats 8000000 in
theorem rcR25 (ops : Array Oper) (hops : Tryz.f89.body.bind (regAt 25) = some ops) (Q : Exit → Act → World → Prop) (revs : List Rev) (u : Rev) (l : Fil) (Ar : Option Addr) (dr : Value) (cr g3 g16 g20 : Nat) (w : World)
    (hR : Revs w (.slice Ar revs.length cr) revs) (hl : revs.length ≤ 100000) (hns : ∀ r ∈ revs, 0 ≤ r.num ∧ r.num ≤ 1000000) (hn : 0 ≤ u.num ∧ u.num ≤ 1000000) (hD : Blk w g3 28 [.slice Ar revs.length cr, dr]) (hL : Blk w g16 92 [.string l.1, .int .i64 l.2]) (hU : Blk w g20 36 [.string u.path, .int .i64 u.num, .int .i64 u.chg, .int .i64 u.act, .int .i64 u.ty.base, .bool u.ty.k, .bool u.ty.l, .bool u.ty.x, .int .u64 u.sum, .int .i64 u.size, .string u.frm, .int .i64 u.fnum])
    (u0 u1 u2 u4 u5 u6 u7 u8 u9 u10 u11 u12 u13 u14 u15 u17 u19 u20 u21 u22 u23 u24 u25 u26 u27 u28 u29 u30 u31 u32 u33 u34 u35 u36 u37 u38 u39 u40 u41 u42 u43 u44 u45 u46 u47 u48 u49 u50 u51 u52 u53 u54 u55 u56 u57 u58 u59 u60 u61 u62 u63 u64 u65 u66 u67 u68 u69 u70 u71 u72 u73 u74 u75 u76 u77 u78 u79 u80 u81 u82 u83 u84 u85 u86 u87 u88 u89 u90 u91 u92 u93 u94 u95 u96 u97 u98 u99 u100 u101 u102 u103 u104 u105 u106 u107 u108 u109 u110 u111 u112 u113 u114 u115 u116 u117 u118 u119 u120 u121 u122 u123 u124 u125 u126 u127 u128 u129 u130 u131 u132 u133 u134 u135 u136 u137 u138 u139 u140 u141 u142 u143 u144 u145 u146 u147 u148 u149 u150 u151 u152 u153 u154 u155 u156 u157 u158 u159 u160 u161 u162 u163 u164 u165 u166 u167 u168 u169 u170 u171 u172 u173 u174 u175 u176 u177 u178 u179 u180 u181 u182 u183 u184 u185 u186 u187 u188 u189 u190 u191 u192 u193 u194 u195 u196 u197 u198 u199 u200 u201 u202 u203 u204 u205 u206 u207 u208 u209 u210 u211 u212 u213 u214 u215 u216 u217 u218 u219 u220 u221 u222 u223 u224 u225 u226 u227 u228 u229 u230 u231 u232 u233 u234 u235 u236 u237 u238 u239 u240 u241 u242 : Value)
    (hQ : ∀ (t161 t162 t163 t164 t165 t166 t167 t168 t169 : Value) (w' : World), Hid (Below w.heap.size w w') → Q .normal ⟨#[u0, u1, u2, .pointer (some ⟨g3, 0, none⟩), u4, u5, u6, u7, u8, u9, u10, u11, u12, u13, u14, u15, .pointer (some ⟨g16, 0, none⟩), u17, .pointer (some ⟨g20, 0, none⟩), u19, u20, u21, u22, u23, u24, u25, u26, u27, u28, u29, u30, u31, u32, u33, u34, u35, u36, u37, u38, u39, u40, u41, u42, u43, u44, u45, u46, u47, u48, u49, u50, u51, u52, u53, u54, u55, u56, u57, u58, u59, u60, u61, u62, u63, u64, u65, u66, u67, u68, u69, u70, u71, u72, u73, u74, u75, u76, u77, u78, u79, u80, u81, u82, u83, u84, u85, u86, u87, u88, u89, u90, u91, u92, u93, u94, u95, u96, u97, u98, u99, u100, u101, u102, u103, u104, u105, u106, u107, u108, u109, u110, u111, u112, u113, u114, u115, u116, u117, u118, u119, u120, u121, u122, u123, u124, u125, u126, u127, u128, u129, u130, u131, u132, u133, u134, u135, u136, u137, u138, u139, u140, u141, u142, u143, u144, u145, u146, u147, u148, u149, u150, u151, u152, u153, u154, u155, u156, u157, u158, u159, u160, t161, t162, t163, t164, t165, t166, t167, t168, t169, .bool (decide (u.act = 5) || !decide (rFirst revs u = l)), u171, u172, u173, u174, u175, u176, u177, u178, u179, u180, u181, u182, u183, u184, u185, u186, u187, u188, u189, u190, u191, u192, u193, u194, u195, u196, u197, u198, u199, u200, u201, u202, u203, u204, u205, u206, u207, u208, u209, u210, u211, u212, u213, u214, u215, u216, u217, u218, u219, u220, u221, u222, u223, u224, u225, u226, u227, u228, u229, u230, u231, u232, u233, u234, u235, u236, u237, u238, u239, u240, u241, u242], []⟩ w') :
    (Code.region 25 ops true).wp Tryz.prog Q ⟨#[u0, u1, u2, .pointer (some ⟨g3, 0, none⟩), u4, u5, u6, u7, u8, u9, u10, u11, u12, u13, u14, u15, .pointer (some ⟨g16, 0, none⟩), u17, .pointer (some ⟨g20, 0, none⟩), u19, u20, u21, u22, u23, u24, u25, u26, u27, u28, u29, u30, u31, u32, u33, u34, u35, u36, u37, u38, u39, u40, u41, u42, u43, u44, u45, u46, u47, u48, u49, u50, u51, u52, u53, u54, u55, u56, u57, u58, u59, u60, u61, u62, u63, u64, u65, u66, u67, u68, u69, u70, u71, u72, u73, u74, u75, u76, u77, u78, u79, u80, u81, u82, u83, u84, u85, u86, u87, u88, u89, u90, u91, u92, u93, u94, u95, u96, u97, u98, u99, u100, u101, u102, u103, u104, u105, u106, u107, u108, u109, u110, u111, u112, u113, u114, u115, u116, u117, u118, u119, u120, u121, u122, u123, u124, u125, u126, u127, u128, u129, u130, u131, u132, u133, u134, u135, u136, u137, u138, u139, u140, u141, u142, u143, u144, u145, u146, u147, u148, u149, u150, u151, u152, u153, u154, u155, u156, u157, u158, u159, u160, u161, u162, u163, u164, u165, u166, u167, u168, u169, u170, u171, u172, u173, u174, u175, u176, u177, u178, u179, u180, u181, u182, u183, u184, u185, u186, u187, u188, u189, u190, u191, u192, u193, u194, u195, u196, u197, u198, u199, u200, u201, u202, u203, u204, u205, u206, u207, u208, u209, u210, u211, u212, u213, u214, u215, u216, u217, u218, u219, u220, u221, u222, u223, u224, u225, u226, u227, u228, u229, u230, u231, u232, u233, u234, u235, u236, u237, u238, u239, u240, u241, u242], []⟩ w := by
  simp only [Tryz.f89, Option.bind_some, regAt] at hops
  simp at hops
  subst hops
  have HQ := Lib.hid hQ
  have HFI := Lib.hid (fun X (hX : Below w.heap.size w X) => refFirst_any revs u (.slice Ar revs.length cr) dr X (hR.below hX) (by omega) hn hns)
  have hf : ∀ w', Below w.heap.size w w' → w'.cell? ⟨g3, 0, none⟩ = some (.slice Ar revs.length cr) ∧ w'.cell? ⟨g3, 1, none⟩ = some dr ∧ w'.cell? ⟨g16, 0, none⟩ = some (.string l.1) ∧ w'.cell? ⟨g16, 1, none⟩ = some (.int .i64 l.2) := fun w' hb => by
    obtain ⟨a, b, -, -⟩ := box2 (hD.below hb hD.lt)
    obtain ⟨e, f, -, -⟩ := box2 (hL.below hb hL.lt)
    exact ⟨a, b, e, f⟩
  have he := fun w' (hb : Below w.heap.size w w') => box12 (hU.below hb hU.lt)
  have HF := Lib.hid hf
  have HE2 := Lib.hid he
  clear hQ hR hD hL hU hf he hn hns
  obtain ⟨f0, f1, f2, f3⟩ := HF.out w (Below.refl _ _)
  obtain ⟨c0, c1, c2, c3, c4, c5, c6, c7, c8, c9, c10, c11⟩ := HE2.out w (Below.refl _ _)
  obtain ⟨l1, l2⟩ := l
  dsimp only at *
  have heq := fun W => (show (binOp .neq 92 (.agg #[.string (rFirst revs u).1, .int .i64 (rFirst revs u).2]) (.agg #[.string l1, .int .i64 l2])).run Tryz.prog W = .ok (.bool (!decide (rFirst revs u = (l1, l2)))) W from run_neq_fil _ _ _ _ W)
  generalize decide (rFirst revs u = (l1, l2)) = bl at heq HQ
  generalize (rFirst revs u).1 = r1 at HFI heq
  generalize (rFirst revs u).2 = r2 at HFI heq
  by_cases h5 : u.act = 5
  · have q5 : (u.act == 5) = true := by simpa using h5
    rw [decide_eq_true h5, Bool.true_or] at HQ
    clear h5 heq
    go_quiet (fail)
    exact HQ.out _ _ _ _ _ _ _ _ _ _ (below_dN (Below.refl _ _) _)
  · have q5 : (u.act == 5) = false := by simpa using h5
    rw [decide_eq_false h5, Bool.false_or] at HQ
    clear h5
    refine wp_region_noPanic ?_
    first
      | go_region_law ((go_simp; go_at_call 122; refine (HFI.out _ (by repeat (first | exact Below.refl _ _ | assumption | with_reducible refine Below.drew ?_ | with_reducible refine below_alloc' ?_ _ | with_reducible refine below12 ?_ (Nat.le_refl _) _))).mono ?_; rintro e w6 ⟨rfl, hb6⟩; have hS6 : Below w.heap.size w w6 := below_next (by repeat (first | exact Below.refl _ _ | assumption | with_reducible refine Below.drew ?_ | with_reducible refine below_alloc' ?_ _ | with_reducible refine below12 ?_ (Nat.le_refl _) _)) hb6; obtain ⟨f4, f5, f6, f7⟩ := HF.out w6 hS6))
      | fail
    all_goals exact NoPanic.normal (HQ.out _ _ _ _ _ _ _ _ _ _ hS6)
end Go.Proofs.YtmhmnchdhacdbaaGreatDoor
/- The reference's examination of an edit, from the type on. -/
namespace Go.Proofs.YtmhmnchdhacdbaaGreatDoor
open Go.RowKit
set_option linter.unusedVariables false
set_option linter.unusedSimpArgs false

def typV (f : ByteArray → Option Rev) (x : Edt) : Int := if typeE f x = false then 116 else 0
set_option maxRecDepth 100000 in
set_option maxHeartbeats 8000000 in
theorem edT18 (T : Code) (hT : Tryz.f87.body.bind (tailAt 18) = some T) (R : Ending → World → Prop) (revs : List Rev) (c : Chg) (x : Edt) (Ar Ae Ac : Option Addr) (dr : Value) (cr ce cc g3 g4 g7 : Nat) (w4 : World)
    (hR : Revs w4 (.slice Ar revs.length cr) revs) (hl : revs.length ≤ 100000) (hlog : ∀ p, LogOk revs p) (hbs : 0 ≤ x.base ∧ x.base ≤ 1000000)
    (hD : Blk w4 g3 28 [.slice Ar revs.length cr, dr]) (hC : Blk w4 g4 56 [.int .i64 c.num, .string c.client, .string c.text, .slice Ae c.edits.length ce, .slice Ac c.recs.length cc]) (hX : Blk w4 g7 58 [.string x.path, .int .i64 x.act, .int .i64 x.ty.base, .bool x.ty.k, .bool x.ty.l, .bool x.ty.x, .int .u64 x.sum, .int .i64 x.size, .int .i64 x.base, .string x.frm, .int .i64 x.fnum, .int .i64 x.fence])
    (hRR : ∀ (n : Int) (w' : World), n = typV (lastOf revs) x → Below w4.heap.size w4 w' → R (.returned (.int .i64 n)) w')
    (u0 u1 u2 u5 u6 u8 u9 u10 u11 u12 u13 u14 u15 u16 u17 u18 u19 u20 u21 u22 u23 u24 u25 u26 u27 u28 u29 u30 u31 u32 u33 u34 u35 u36 u37 u38 u39 u40 u41 u42 u43 u44 u45 u46 u47 u48 u49 u50 u51 u52 u53 u54 u55 u56 u57 u58 u59 u60 u61 u62 u63 u64 u65 u66 u67 u68 u69 u70 u71 u72 u73 u74 u75 u76 u77 u78 u79 u80 u81 u82 u83 u84 u85 u86 u87 u88 u89 u90 u91 u92 u93 u94 u95 u96 u97 u98 u99 u100 u101 u102 u103 u104 u105 u106 u107 u108 u109 u110 u111 u112 u113 u114 u115 u116 u117 u118 u119 u120 u121 u122 u123 u124 u125 u126 u127 u128 u129 u130 u131 u132 u133 u134 u135 u136 u137 u138 u139 u140 u141 u142 u143 u144 u145 u146 u147 : Value) :
    T.wp Tryz.prog (bodyPost Tryz.prog Tryz.f87 R) ⟨#[u0, u1, u2, .pointer (some ⟨g3, 0, none⟩), .pointer (some ⟨g4, 0, none⟩), u5, u6, .pointer (some ⟨g7, 0, none⟩), u8, u9, u10, u11, u12, u13, u14, u15, u16, u17, u18, u19, u20, u21, u22, u23, u24, u25, u26, u27, u28, u29, u30, u31, u32, u33, u34, u35, u36, u37, u38, u39, u40, u41, u42, u43, u44, u45, u46, u47, u48, u49, u50, u51, u52, u53, u54, u55, u56, u57, u58, u59, u60, u61, u62, u63, u64, u65, u66, u67, u68, u69, u70, u71, u72, u73, u74, u75, u76, u77, u78, u79, u80, u81, u82, u83, u84, u85, u86, u87, u88, u89, u90, u91, u92, u93, u94, u95, u96, u97, u98, u99, u100, u101, u102, u103, u104, u105, u106, u107, u108, u109, u110, u111, u112, u113, u114, u115, u116, u117, u118, u119, u120, u121, u122, u123, u124, u125, u126, u127, u128, u129, u130, u131, u132, u133, u134, u135, u136, u137, u138, u139, u140, u141, u142, u143, u144, u145, u146, u147], []⟩ w4 := by
  simp only [Tryz.f87, Option.bind_some, tailAt, hasReg] at hT
  simp at hT
  subst hT
  have HRR := Lib.hid hRR
  have HR := Lib.hid hR
  have HLR := Lib.hid (fun p => someR_last hlog p)
  have HBS := Lib.hid hbs
  have HX4 := Lib.hid hX
  have HD4 := Lib.hid hD
  have HC4 := Lib.hid hC
  have HLAST := Lib.hid (fun p X (hX : Below w4.heap.size w4 X) => refLast_any revs p (.slice Ar revs.length cr) dr X (HR.out.below hX) (by omega))
  clear hRR hR hlog hbs hD hC hX
  generalize lastOf revs = f at HRR HLR ⊢
  obtain ⟨c0, c1, c2, c3, c4, c5, c6, c7, c8, c9, c10, c11⟩ := box12 HX4.out
  have HCK := Lib.hid (fun X => refCheck_any x.ty.base x.ty.k x.ty.l x.ty.x X)
  cases htk : tyOk x.ty.base x.ty.k x.ty.x with
  | false =>
    rw [htk] at HCK
    have HF : Hid (116 = typV f x) := Lib.hid (by unfold typV typeE Ty.ok; rw [htk]; rfl)
    clear htk
    go_wp2_with fail
    refine (HCK.out _).mono ?_
    rintro e w5 ⟨rfl, hb5⟩
    have HB5 := Lib.hid hb5
    clear hb5
    go_wp2_with fail
    exact HRR.out _ _ HF.out (HB5.out)
  | true =>
    rw [htk] at HCK
    have HTK := Lib.hid htk
    clear htk
    go_wp2_with fail
    refine (HCK.out _).mono ?_
    rintro e w5 ⟨rfl, hb5⟩
    have HW5 := Lib.hid hb5
    have HX5 := Lib.hid (HX4.out.below hb5 HX4.out.lt)
    have HD5 := Lib.hid (HD4.out.below hb5 HD4.out.lt)
    have HC5 := Lib.hid (HC4.out.below hb5 HC4.out.lt)
    clear hb5 c0 c1 c2 c3 c4 c5 c6 c7 c8 c9 c10 c11
    obtain ⟨c0, c1, c2, c3, c4, c5, c6, c7, c8, c9, c10, c11⟩ := box12 HX5.out
    by_cases hz : x.size < 0
    · have q : decide (x.size < 0) = true := by simp; omega
      have HF : Hid (116 = typV f x) := Lib.hid (by unfold typV typeE; rw [show decide (0 ≤ x.size) = false by simp; omega]; simp)
      clear hz
      go_wp2_with fail
      exact HRR.out _ _ HF.out (HW5.out)
    · have q : decide (x.size < 0) = false := by simp; omega
      have HO4 : Hid ((typV f x) = if (liveA x.act || (decide (x.ty = (lastR f x.path).ty) && (decide (x.sum = 0) && decide (x.size = 0)))) = false then 116 else 0) := Lib.hid (by
        unfold typV; rw [typeE_eq]; unfold Ty.ok; rw [HTK.out, show decide (0 ≤ x.size) = true by simp; omega]; rfl)
      clear hz
      obtain ⟨d0, d1, -, -⟩ := box2 HD5.out
      have HL2 := Lib.hid (HLAST.out x.path w5 HW5.out)
      go_wp2_with fail
      refine HL2.out.mono ?_
      rintro e w6 ⟨rfl, hb6⟩
      rw [HLR.out x.path]
      generalize lastR f x.path = r at HO4 ⊢
      generalize (rLast revs x.path).isSome = okb
      have hY := blk_new w6 [.string r.path, .int .i64 r.num, .int .i64 r.chg, .int .i64 r.act, .int .i64 r.ty.base, .bool r.ty.k, .bool r.ty.l, .bool r.ty.x, .int .u64 r.sum, .int .i64 r.size, .string r.frm, .int .i64 r.fnum] 36
      have hA6 : Below w5.heap.size w5 (w6.alloc (.cells #[.string r.path, .int .i64 r.num, .int .i64 r.chg, .int .i64 r.act, .int .i64 r.ty.base, .bool r.ty.k, .bool r.ty.l, .bool r.ty.x, .int .u64 r.sum, .int .i64 r.size, .string r.frm, .int .i64 r.fnum] 36)) := below_alloc' hb6 _
      clear hb6 c0 c1 c2 c3 c4 c5 c6 c7 c8 c9 c10 c11 d0 d1
      go_upto_region 21 with fail
      generalize w6.alloc (.cells #[.string r.path, .int .i64 r.num, .int .i64 r.chg, .int .i64 r.act, .int .i64 r.ty.base, .bool r.ty.k, .bool r.ty.l, .bool r.ty.x, .int .u64 r.sum, .int .i64 r.size, .string r.frm, .int .i64 r.fnum] 36) = w7 at hY hA6 ⊢
      generalize w6.heap.size = g14 at hY ⊢
      have HX7 := Lib.hid (HX5.out.below hA6 HX5.out.lt)
      have HC7 := Lib.hid (HC5.out.below hA6 HC5.out.lt)
      have HY := Lib.hid hY
      have HW7 := Lib.hid (below_next HW5.out hA6)
      clear hY hA6
      obtain ⟨c0, c1, c2, c3, c4, c5, c6, c7, c8, c9, c10, c11⟩ := box12 HX7.out
      obtain ⟨k0, k1, k2, k3, k4⟩ := box5 HC7.out
      have HMD := Lib.hid (refMade_any c.num c.client c.text Ae Ac c.edits.length c.recs.length ce cc x w7 HBS.out)
      go_wp2_with fail
      refine HMD.out.mono ?_
      rintro e w8 ⟨rfl, hb8⟩
      have HB8 := Lib.hid hb8
      clear hb8 c0 c1 c2 c3 c4 c5 c6 c7 c8 c9 c10 c11 k0 k1 k2 k3 k4
      have HGO := Lib.hid (refGone_any (madeX c.num x) w8)
      go_wp2_with fail
      refine HGO.out.mono ?_
      rintro e w9 ⟨rfl, hb9⟩
      have HB9 := Lib.hid (below_next HB8.out hb9)
      clear hb9
      obtain ⟨c0, c1, c2, c3, c4, c5, c6, c7, c8, c9, c10, c11⟩ := box12 (HX7.out.below HB9.out HX7.out.lt)
      obtain ⟨b0, b1, b2, b3, b4, b5, b6, b7, b8, b9, b10, b11⟩ := box12 (HY.out.below HB9.out HY.out.lt)
      have hact : (madeX c.num x).act = x.act := rfl
      rw [hact]
      clear hact
      have hty := run_neq_ty x.ty r.ty
      have hcn := run_neq_con x.sum x.size 0 0
      generalize (decide (x.sum = 0) && decide (x.size = 0)) = bc at hcn HO4
      generalize decide (x.ty = r.ty) = bt at hty HO4
      cases hlv : liveA x.act with
      | true =>
        have HF : Hid (0 = typV f x) := Lib.hid (by rw [HO4.out, hlv]; rfl)
        clear hlv
        go_wp2_with fail
        exact HRR.out _ _ HF.out (below_next HW7.out HB9.out)
      | false =>
        rw [hlv] at HO4
        clear hlv
        cases bt with
        | false =>
          go_wp2_with fail
          exact HRR.out _ _ HO4.out.symm (below_next HW7.out HB9.out)
        | true =>
          cases bc with
          | false =>
            go_wp2_with fail
            exact HRR.out _ _ HO4.out.symm (below_next HW7.out HB9.out)
          | true =>
            go_wp2_with fail
            exact HRR.out _ _ HO4.out.symm (below_next HW7.out HB9.out)
end Go.Proofs.YtmhmnchdhacdbaaGreatDoor
/- The reference's examination of an edit, from the action on. -/
namespace Go.Proofs.YtmhmnchdhacdbaaGreatDoor
open Go.RowKit
set_option linter.unusedVariables false
set_option linter.unusedSimpArgs false

set_option maxRecDepth 100000 in
set_option maxHeartbeats 8000000 in
theorem edT8 (T : Code) (hT : Tryz.f87.body.bind (tailAt 8) = some T) (R : Ending → World → Prop) (revs : List Rev) (c : Chg) (x : Edt) (Ar Ae Ac : Option Addr) (dr : Value) (cr ce cc g3 g4 g7 : Nat) (w3 : World)
    (hR : Revs w3 (.slice Ar revs.length cr) revs) (hl : revs.length ≤ 100000) (hlog : ∀ p, LogOk revs p)
    (hD : Blk w3 g3 28 [.slice Ar revs.length cr, dr]) (hC : Blk w3 g4 56 [.int .i64 c.num, .string c.client, .string c.text, .slice Ae c.edits.length ce, .slice Ac c.recs.length cc]) (hX : Blk w3 g7 58 [.string x.path, .int .i64 x.act, .int .i64 x.ty.base, .bool x.ty.k, .bool x.ty.l, .bool x.ty.x, .int .u64 x.sum, .int .i64 x.size, .int .i64 x.base, .string x.frm, .int .i64 x.fnum, .int .i64 x.fence])
    (hRR : ∀ (n : Int) (w' : World), n = oneE (lastOf revs) x → Below w3.heap.size w3 w' → R (.returned (.int .i64 n)) w')
    (u0 u1 u2 u5 u6 u8 u9 u12 u13 u14 u15 u16 u17 u18 u19 u20 u21 u22 u23 u24 u25 u26 u27 u28 u29 u30 u31 u32 u33 u34 u35 u36 u37 u38 u39 u40 u41 u42 u43 u44 u45 u46 u47 u48 u49 u50 u51 u52 u53 u54 u55 u56 u57 u58 u59 u60 u61 u62 u63 u64 u65 u66 u67 u68 u69 u70 u71 u72 u73 u74 u75 u76 u77 u78 u79 u80 u81 u82 u83 u84 u85 u86 u87 u88 u89 u90 u91 u92 u93 u94 u95 u96 u97 u98 u99 u100 u101 u102 u103 u104 u105 u106 u107 u108 u109 u110 u111 u112 u113 u114 u115 u116 u117 u118 u119 u120 u121 u122 u123 u124 u125 u126 u127 u128 u129 u130 u131 u132 u133 u134 u135 u136 u137 u138 u139 u140 u141 u142 u143 u144 u145 u146 u147 : Value) (lv : Bool) (ln : Int) (hlv : lv = isLast (lastOf revs) x.path) (hln : ln = (lastR (lastOf revs) x.path).num) :
    T.wp Tryz.prog (bodyPost Tryz.prog Tryz.f87 R) ⟨#[u0, u1, u2, .pointer (some ⟨g3, 0, none⟩), .pointer (some ⟨g4, 0, none⟩), u5, u6, .pointer (some ⟨g7, 0, none⟩), u8, u9, .bool lv, .int .i64 ln, u12, u13, u14, u15, u16, u17, u18, u19, u20, u21, u22, u23, u24, u25, u26, u27, u28, u29, u30, u31, u32, u33, u34, u35, u36, u37, u38, u39, u40, u41, u42, u43, u44, u45, u46, u47, u48, u49, u50, u51, u52, u53, u54, u55, u56, u57, u58, u59, u60, u61, u62, u63, u64, u65, u66, u67, u68, u69, u70, u71, u72, u73, u74, u75, u76, u77, u78, u79, u80, u81, u82, u83, u84, u85, u86, u87, u88, u89, u90, u91, u92, u93, u94, u95, u96, u97, u98, u99, u100, u101, u102, u103, u104, u105, u106, u107, u108, u109, u110, u111, u112, u113, u114, u115, u116, u117, u118, u119, u120, u121, u122, u123, u124, u125, u126, u127, u128, u129, u130, u131, u132, u133, u134, u135, u136, u137, u138, u139, u140, u141, u142, u143, u144, u145, u146, u147], []⟩ w3 := by
  simp only [Tryz.f87, Option.bind_some, tailAt, hasReg] at hT
  simp at hT
  subst hT
  have HRR := Lib.hid hRR
  have HR := Lib.hid hR
  have HLOG := Lib.hid hlog
  have HLB := Lib.hid (fun p => rLiveB_last hlog p)
  have HLR := Lib.hid (fun p => someR_last hlog p)
  have HBN : Hid (0 ≤ (lastR (lastOf revs) x.path).num ∧ (lastR (lastOf revs) x.path).num ≤ 1000000) := Lib.hid (by
    have h := hlog x.path
    unfold lastR
    rw [h.last, List.getLast?_eq_getElem?]
    by_cases h0 : (logOf revs x.path).length = 0
    · rw [h0, List.getElem?_eq_none (by omega)]; simp [zeroRev]
    · rw [List.getElem?_eq_getElem (by omega)]
      simp only [Option.getD_some]
      rw [h.num]
      have := log_len revs x.path
      omega)
  have HX3 := Lib.hid hX
  have HD3 := Lib.hid hD
  have HC3 := Lib.hid hC
  have HLIVE := Lib.hid (fun p X (hX : Below w3.heap.size w3 X) => refLive_any revs p (.slice Ar revs.length cr) dr X (HR.out.below hX) (by omega))
  have HT18 := Lib.hid (fun T hT R W hR hbs hD hC hX hRR => edT18 T hT R revs c x Ar Ae Ac dr cr ce cc g3 g4 g7 W hR hl HLOG.out hbs hD hC hX hRR)
  have HIL := Lib.hid hlv
  have HLN := Lib.hid hln
  clear hRR hR hlog hD hC hX hlv hln
  generalize lastOf revs = f at HRR HLR HLB HBN HIL HLN HT18 ⊢
  obtain ⟨c0, c1, c2, c3, c4, c5, c6, c7, c8, c9, c10, c11⟩ := box12 HX3.out
  dsimp only
  go_upto_region 8 with fail
  go_cut [76] (fun v wx => ∃ bb, v = .bool bb ∧ Hid (wx = w3 ∧ (bb = true → actE f x ≠ 0) ∧ (bb = false → actE f x = 0)))
  case first =>
    by_cases hlt1 : x.act < 1
    case pos =>
      have q : decide (x.act < 1) = true := by simp; omega
      have HF : Hid (actE f x ≠ 0) := Lib.hid (act_bad1 (.inl hlt1))
      clear hlt1
      go_wp2_with fail
      go_meet
      exact ⟨true, rfl, rfl, fun _ => HF.out, fun h => by cases h⟩
    have dlt : decide (x.act < 1) = false := by simp; omega
    by_cases hgt5 : 5 < x.act
    case pos =>
      have q : decide (5 < x.act) = true := by simp; omega
      have HF : Hid (actE f x ≠ 0) := Lib.hid (act_bad1 (.inr hgt5))
      clear hlt1 hgt5
      go_wp2_with fail
      go_meet
      exact ⟨true, rfl, rfl, fun _ => HF.out, fun h => by cases h⟩
    have dgt : decide (5 < x.act) = false := by simp; omega
    have HR5 : Hid (1 ≤ x.act ∧ x.act ≤ 5) := Lib.hid ⟨by omega, by omega⟩
    clear hlt1 hgt5
    rcases add_cases x.act with ⟨q1, q4, qa⟩ | ⟨q1, q4, qa⟩ | ⟨q1, q4, qa⟩
    all_goals
      have HQA := Lib.hid qa
      clear qa
      cases lv
      all_goals
        go_wp2_with fail
        go_meet
        first
          | exact ⟨true, rfl, rfl, fun _ => act_bad2 (by rw [HQA.out, ← HIL.out]), fun h => by cases h⟩
          | exact ⟨false, rfl, rfl, fun h => (by cases h), fun _ => act_good HR5.out (by rw [HQA.out, ← HIL.out]; rfl)⟩
  case rest =>
    obtain ⟨bb, rfl, HBB⟩ := hcut
    obtain rfl : wc = w3 := HBB.out.1
    cases bb with
    | true =>
      have HF : Hid (113 = oneE f x) := Lib.hid (one113 (HBB.out.2.1 rfl)).symm
      clear HBB
      go_wp2_with fail
      exact HRR.out _ _ HF.out (Below.refl _ _)
    | false =>
      have HO1 : Hid (oneE f x = if x.base ≠ (lastR f x.path).num then 114 else if fromE f x = false then 115 else if typeE f x = false then 116 else 0) := Lib.hid (oneE_of (HBB.out.2.2 rfl))
      clear HBB
      by_cases hbb : x.base = ln
      case neg =>
        have qb : (x.base != ln) = true := by simpa using hbb
        have HF : Hid (114 = oneE f x) := Lib.hid (by rw [HO1.out, if_pos (by rw [← HLN.out]; exact hbb)])
        clear hbb
        go_wp2_with fail
        exact HRR.out _ _ HF.out (Below.refl _ _)
      have qb : (x.base != ln) = false := by simpa using hbb
      have HO2 : Hid (oneE f x = if fromE f x = false then 115 else if typeE f x = false then 116 else 0) := Lib.hid (by rw [HO1.out, if_neg (by rw [← HLN.out]; simp [hbb])])
      have HBS : Hid (0 ≤ x.base ∧ x.base ≤ 1000000) := Lib.hid (by rw [hbb, HLN.out]; exact HBN.out)
      clear hbb
      go_upto_if 83 with fail
      clear qb
      go_cut [] (fun wx => Hid (Below wc.heap.size wc wx ∧ fromE f x = true))
      case first =>
        by_cases h4 : x.act = 4
        · have q4 : (x.act == 4) = true := by simpa using h4
          have HN4 : Hid (x.act = 4) := Lib.hid h4
          clear h4
          obtain ⟨d0, d1, -, -⟩ := box2 HD3.out
          have HLV2 := Lib.hid (HLIVE.out x.frm wc (Below.refl _ _))
          go_wp2_with fail
          refine HLV2.out.mono ?_
          rintro e w4 ⟨rfl, hb4⟩
          rw [HLR.out x.frm]
          have HW4 := Lib.hid hb4
          have HX4 := Lib.hid (HX3.out.below hb4 HX3.out.lt)
          clear hb4 d0 d1 c0 c1 c2 c3 c4 c5 c6 c7 c8 c9 c10 c11
          obtain ⟨c0, c1, c2, c3, c4, c5, c6, c7, c8, c9, c10, c11⟩ := box12 HX4.out
          have HIL2 := Lib.hid (HLB.out x.frm)
          generalize rLiveB revs x.frm = lv2 at HIL2 ⊢
          cases lv2 with
          | false =>
            have HF : Hid (115 = oneE f x) := Lib.hid (by rw [HO2.out, fromE_4 HN4.out, ← HIL2.out]; rfl)
            go_wp2_with fail
            exact HRR.out _ _ HF.out HW4.out
          | true =>
            by_cases hfn : x.fnum = (lastR f x.frm).num
            case neg =>
              have qf : ((lastR f x.frm).num != x.fnum) = true := by simp; exact fun h => hfn h.symm
              have HF : Hid (115 = oneE f x) := Lib.hid (by rw [HO2.out, fromE_4 HN4.out]; simp [hfn])
              clear hfn
              go_wp2_with fail
              exact HRR.out _ _ HF.out HW4.out
            have qf : ((lastR f x.frm).num != x.fnum) = false := by simp [hfn]
            have sq := str_eqB x.frm x.path
            by_cases hfp : x.frm = x.path
            case pos =>
              rw [decide_eq_true hfp] at sq
              have HF : Hid (115 = oneE f x) := Lib.hid (by rw [HO2.out, fromE_4 HN4.out]; simp [hfp])
              clear hfp hfn
              go_wp2_with fail
              exact HRR.out _ _ HF.out HW4.out
            rw [decide_eq_false hfp] at sq
            have HFR : Hid (fromE f x = true) := Lib.hid (by rw [fromE_4 HN4.out, ← HIL2.out]; simp [hfp, hfn])
            clear hfp hfn
            go_wp2_with fail
            go_meet
            exact ⟨HW4.out, HFR.out⟩
        · have q4 : (x.act == 4) = false := by simpa using h4
          have HN4 : Hid (x.act ≠ 4) := Lib.hid h4
          clear h4
          by_cases hfr : x.frm = emptyS
          case neg =>
            have s1 := str_isE hfr
            have s2 := str_ne hfr
            have HF : Hid (115 = oneE f x) := Lib.hid (by rw [HO2.out, fromE_o HN4.out]; simp [hfr])
            clear hfr
            go_wp2_with fail
            exact HRR.out _ _ HF.out (Below.refl _ _)
          have s1 := str_empty hfr
          by_cases hfn : x.fnum = 0
          case neg =>
            have qf : (x.fnum != 0) = true := by simpa using hfn
            have HF : Hid (115 = oneE f x) := Lib.hid (by rw [HO2.out, fromE_o HN4.out]; simp [hfn])
            clear hfr hfn
            go_wp2_with fail
            exact HRR.out _ _ HF.out (Below.refl _ _)
          have qf : (x.fnum != 0) = false := by simpa using hfn
          have HFR : Hid (fromE f x = true) := Lib.hid (by rw [fromE_o HN4.out]; simp [hfr, hfn])
          clear hfr hfn
          go_wp2_with fail
          go_meet
          exact ⟨Below.refl _ _, HFR.out⟩
      case rest =>
        rename_i wc2
        have HW4 := Lib.hid hcut.out.1
        have HO3 : Hid (typV f x = oneE f x) := Lib.hid (by rw [HO2.out, hcut.out.2]; rfl)
        clear hcut
        have hk := ‹∀ (a : Act) (w : World), Code.wp _ _ _ a w → _›
        refine hk _ _ (HT18.out _ (by kernel_rfl) _ _ (HR.out.below HW4.out) HBS.out (HD3.out.below HW4.out HD3.out.lt) (HC3.out.below HW4.out HC3.out.lt) (HX3.out.below HW4.out HX3.out.lt) (fun n w' hn hb => HRR.out n w' (hn.trans HO3.out) (below_next HW4.out hb)) _ _ _ _ _ _ _ _ _ _ _ _ _ _ _ _ _ _ _ _ _ _ _ _ _ _ _ _ _ _ _ _ _ _ _ _ _ _ _ _ _ _ _ _ _ _ _ _ _ _ _ _ _ _ _ _ _ _ _ _ _ _ _ _ _ _ _ _ _ _ _ _ _ _ _ _ _ _ _ _ _ _ _ _ _ _ _ _ _ _ _ _ _ _ _ _ _ _ _ _ _ _ _ _ _ _ _ _ _ _ _ _ _ _ _ _ _ _ _ _ _ _ _ _ _ _ _ _ _ _ _ _ _ _ _ _ _ _ _ _ _ _ _ _ _)
end Go.Proofs.YtmhmnchdhacdbaaGreatDoor
