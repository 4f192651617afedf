/- The reference's record: regions that compare first members. -/
import Derived.Test.YtnblfaagchflaaaDoorMgw22
namespace Go.Proofs.YtnblfaagchflaaaDoor
open Go.RowKit
set_option linter.unusedVariables false
set_option linter.unusedSimpArgs false

set_option maxRecDepth 100000 in
set_option maxHeartbeats 8000000 in
theorem rcR29 (ops : Array Oper) (hops : Tryd.f40.body.bind (regAt 29) = some ops) (Q : Exit → Act → World → Prop) (revs : List Rev) (u : Rev) (l : Fil) (Ar : Option Addr) (dr : Value) (cr g3 g16 g20 : Nat) (w : World)
    (hR : Revs w (.slice Ar revs.length cr) revs) (hl : revs.length ≤ 100000) (hns : ∀ r ∈ revs, 0 ≤ r.num ∧ r.num ≤ 1000000) (hn : 0 ≤ u.num ∧ u.num ≤ 1000000) (hD : Blk w g3 25 [.slice Ar revs.length cr, dr]) (hL : Blk w g16 47 [.string l.1, .int .i64 l.2]) (hU : Blk w g20 33 [.string u.path, .int .i64 u.num, .int .i64 u.chg, .int .i64 u.act, .int .i64 u.ty.base, .bool u.ty.k, .bool u.ty.l, .bool u.ty.x, .int .u64 u.sum, .int .i64 u.size, .string u.frm, .int .i64 u.fnum])
    (u0 u1 u2 u4 u5 u6 u7 u8 u9 u10 u11 u12 u13 u14 u15 u17 u18 u19 u21 u22 u23 u24 u25 u26 u27 u28 u29 u30 u31 u32 u33 u34 u35 u36 u37 u38 u39 u40 u41 u42 u43 u44 u45 u46 u47 u48 u49 u50 u51 u52 u53 u54 u55 u56 u57 u58 u59 u60 u61 u62 u63 u64 u65 u66 u67 u68 u69 u70 u71 u72 u73 u74 u75 u76 u77 u78 u79 u80 u81 u82 u83 u84 u85 u86 u87 u88 u89 u90 u91 u92 u93 u94 u95 u96 u97 u98 u99 u100 u101 u102 u103 u104 u105 u106 u107 u108 u109 u110 u111 u112 u113 u114 u115 u116 u117 u118 u119 u120 u121 u122 u123 u124 u125 u126 u127 u128 u129 u130 u131 u132 u133 u134 u135 u136 u137 u138 u139 u140 u141 u142 u143 u144 u145 u146 u147 u148 u149 u150 u151 u152 u153 u154 u155 u156 u157 u158 u159 u160 u161 u162 u163 u164 u165 u166 u167 u168 u169 u170 u171 u172 u173 u174 u175 u176 u177 u178 u179 u180 u181 u182 u183 u184 u185 u186 u187 u188 u189 u190 u191 u192 u193 u194 u195 u196 u197 u198 u199 u200 u201 u202 u203 u204 u205 u206 u207 u208 u209 u210 u211 u212 u213 u214 u215 u216 u217 u218 u219 u220 u221 u222 u223 u224 u225 u226 u227 u228 u229 u230 u231 u232 u233 u234 u235 u236 u237 u238 u239 u240 u241 u242 : Value)
    (hQ : ∀ (t182 t183 t184 t185 : Value) (w' : World), Hid (Below w.heap.size w w') → Q .normal ⟨#[u0, u1, u2, .pointer (some ⟨g3, 0, none⟩), u4, u5, u6, u7, u8, u9, u10, u11, u12, u13, u14, u15, .pointer (some ⟨g16, 0, none⟩), u17, u18, u19, .pointer (some ⟨g20, 0, none⟩), u21, u22, u23, u24, u25, u26, u27, u28, u29, u30, u31, u32, u33, u34, u35, u36, u37, u38, u39, u40, u41, u42, u43, u44, u45, u46, u47, u48, u49, u50, u51, u52, u53, u54, u55, u56, u57, u58, u59, u60, u61, u62, u63, u64, u65, u66, u67, u68, u69, u70, u71, u72, u73, u74, u75, u76, u77, u78, u79, u80, u81, u82, u83, u84, u85, u86, u87, u88, u89, u90, u91, u92, u93, u94, u95, u96, u97, u98, u99, u100, u101, u102, u103, u104, u105, u106, u107, u108, u109, u110, u111, u112, u113, u114, u115, u116, u117, u118, u119, u120, u121, u122, u123, u124, u125, u126, u127, u128, u129, u130, u131, u132, u133, u134, u135, u136, u137, u138, u139, u140, u141, u142, u143, u144, u145, u146, u147, u148, u149, u150, u151, u152, u153, u154, u155, u156, u157, u158, u159, u160, u161, u162, u163, u164, u165, u166, u167, u168, u169, u170, u171, u172, u173, u174, u175, u176, u177, u178, u179, u180, u181, t182, t183, t184, t185, .bool (decide (rFirst revs u = l)), u187, u188, u189, u190, u191, u192, u193, u194, u195, u196, u197, u198, u199, u200, u201, u202, u203, u204, u205, u206, u207, u208, u209, u210, u211, u212, u213, u214, u215, u216, u217, u218, u219, u220, u221, u222, u223, u224, u225, u226, u227, u228, u229, u230, u231, u232, u233, u234, u235, u236, u237, u238, u239, u240, u241, u242], []⟩ w') :
    (Code.region 29 ops true).wp Tryd.prog Q ⟨#[u0, u1, u2, .pointer (some ⟨g3, 0, none⟩), u4, u5, u6, u7, u8, u9, u10, u11, u12, u13, u14, u15, .pointer (some ⟨g16, 0, none⟩), u17, u18, u19, .pointer (some ⟨g20, 0, none⟩), u21, u22, u23, u24, u25, u26, u27, u28, u29, u30, u31, u32, u33, u34, u35, u36, u37, u38, u39, u40, u41, u42, u43, u44, u45, u46, u47, u48, u49, u50, u51, u52, u53, u54, u55, u56, u57, u58, u59, u60, u61, u62, u63, u64, u65, u66, u67, u68, u69, u70, u71, u72, u73, u74, u75, u76, u77, u78, u79, u80, u81, u82, u83, u84, u85, u86, u87, u88, u89, u90, u91, u92, u93, u94, u95, u96, u97, u98, u99, u100, u101, u102, u103, u104, u105, u106, u107, u108, u109, u110, u111, u112, u113, u114, u115, u116, u117, u118, u119, u120, u121, u122, u123, u124, u125, u126, u127, u128, u129, u130, u131, u132, u133, u134, u135, u136, u137, u138, u139, u140, u141, u142, u143, u144, u145, u146, u147, u148, u149, u150, u151, u152, u153, u154, u155, u156, u157, u158, u159, u160, u161, u162, u163, u164, u165, u166, u167, u168, u169, u170, u171, u172, u173, u174, u175, u176, u177, u178, u179, u180, u181, u182, u183, u184, u185, u186, u187, u188, u189, u190, u191, u192, u193, u194, u195, u196, u197, u198, u199, u200, u201, u202, u203, u204, u205, u206, u207, u208, u209, u210, u211, u212, u213, u214, u215, u216, u217, u218, u219, u220, u221, u222, u223, u224, u225, u226, u227, u228, u229, u230, u231, u232, u233, u234, u235, u236, u237, u238, u239, u240, u241, u242], []⟩ w := by
  simp only [Tryd.f40, Option.bind_some, regAt] at hops
  simp at hops
  subst hops
  have HQ := Lib.hid hQ
  have HFI := Lib.hid (fun X (hX : Below w.heap.size w X) => refFirst_any revs u (.slice Ar revs.length cr) dr X (hR.below hX) (by omega) hn hns)
  have hf : ∀ w', Below w.heap.size w w' → w'.cell? ⟨g3, 0, none⟩ = some (.slice Ar revs.length cr) ∧ w'.cell? ⟨g3, 1, none⟩ = some dr ∧ w'.cell? ⟨g16, 0, none⟩ = some (.string l.1) ∧ w'.cell? ⟨g16, 1, none⟩ = some (.int .i64 l.2) := fun w' hb => by
    obtain ⟨a, b, -, -⟩ := box2 (hD.below hb hD.lt)
    obtain ⟨e, f, -, -⟩ := box2 (hL.below hb hL.lt)
    exact ⟨a, b, e, f⟩
  have he := fun w' (hb : Below w.heap.size w w') => box12 (hU.below hb hU.lt)
  have HF := Lib.hid hf
  have HE2 := Lib.hid he
  clear hQ hR hD hL hU hf he hn hns
  obtain ⟨f0, f1, f2, f3⟩ := HF.out w (Below.refl _ _)
  obtain ⟨c0, c1, c2, c3, c4, c5, c6, c7, c8, c9, c10, c11⟩ := HE2.out w (Below.refl _ _)
  obtain ⟨l1, l2⟩ := l
  dsimp only at *
  have heq := fun W => (show (binOp .eql 47 (.agg #[.string (rFirst revs u).1, .int .i64 (rFirst revs u).2]) (.agg #[.string l1, .int .i64 l2])).run Tryd.prog W = .ok (.bool (decide (rFirst revs u = (l1, l2)))) W from run_eql_fil _ _ _ _ W)
  generalize decide (rFirst revs u = (l1, l2)) = bl at heq HQ
  generalize (rFirst revs u).1 = r1 at HFI heq
  generalize (rFirst revs u).2 = r2 at HFI heq
  refine wp_region_noPanic ?_
  go_region_law ((go_simp; go_at_call 58; refine (HFI.out _ (by repeat (first | exact Below.refl _ _ | assumption | with_reducible refine Below.drew ?_ | with_reducible refine below_alloc' ?_ _ | with_reducible refine below12 ?_ (Nat.le_refl _) _))).mono ?_; rintro e w6 ⟨rfl, hb6⟩; have hS6 : Below w.heap.size w w6 := below_next (by repeat (first | exact Below.refl _ _ | assumption | with_reducible refine Below.drew ?_ | with_reducible refine below_alloc' ?_ _ | with_reducible refine below12 ?_ (Nat.le_refl _) _)) hb6; obtain ⟨f4, f5, f6, f7⟩ := HF.out w6 hS6))
  all_goals exact NoPanic.normal (HQ.out _ _ _ _ _ hS6)
set_option maxRecDepth 100000 in
set_option maxHeartbeats 8000000 in
theorem rcR25 (ops : Array Oper) (hops : Tryd.f40.body.bind (regAt 25) = some ops) (Q : Exit → Act → World → Prop) (revs : List Rev) (u : Rev) (l : Fil) (Ar : Option Addr) (dr : Value) (cr g3 g16 g20 : Nat) (w : World)
    (hR : Revs w (.slice Ar revs.length cr) revs) (hl : revs.length ≤ 100000) (hns : ∀ r ∈ revs, 0 ≤ r.num ∧ r.num ≤ 1000000) (hn : 0 ≤ u.num ∧ u.num ≤ 1000000) (hD : Blk w g3 25 [.slice Ar revs.length cr, dr]) (hL : Blk w g16 47 [.string l.1, .int .i64 l.2]) (hU : Blk w g20 33 [.string u.path, .int .i64 u.num, .int .i64 u.chg, .int .i64 u.act, .int .i64 u.ty.base, .bool u.ty.k, .bool u.ty.l, .bool u.ty.x, .int .u64 u.sum, .int .i64 u.size, .string u.frm, .int .i64 u.fnum])
    (u0 u1 u2 u4 u5 u6 u7 u8 u9 u10 u11 u12 u13 u14 u15 u17 u19 u20 u21 u22 u23 u24 u25 u26 u27 u28 u29 u30 u31 u32 u33 u34 u35 u36 u37 u38 u39 u40 u41 u42 u43 u44 u45 u46 u47 u48 u49 u50 u51 u52 u53 u54 u55 u56 u57 u58 u59 u60 u61 u62 u63 u64 u65 u66 u67 u68 u69 u70 u71 u72 u73 u74 u75 u76 u77 u78 u79 u80 u81 u82 u83 u84 u85 u86 u87 u88 u89 u90 u91 u92 u93 u94 u95 u96 u97 u98 u99 u100 u101 u102 u103 u104 u105 u106 u107 u108 u109 u110 u111 u112 u113 u114 u115 u116 u117 u118 u119 u120 u121 u122 u123 u124 u125 u126 u127 u128 u129 u130 u131 u132 u133 u134 u135 u136 u137 u138 u139 u140 u141 u142 u143 u144 u145 u146 u147 u148 u149 u150 u151 u152 u153 u154 u155 u156 u157 u158 u159 u160 u161 u162 u163 u164 u165 u166 u167 u168 u169 u170 u171 u172 u173 u174 u175 u176 u177 u178 u179 u180 u181 u182 u183 u184 u185 u186 u187 u188 u189 u190 u191 u192 u193 u194 u195 u196 u197 u198 u199 u200 u201 u202 u203 u204 u205 u206 u207 u208 u209 u210 u211 u212 u213 u214 u215 u216 u217 u218 u219 u220 u221 u222 u223 u224 u225 u226 u227 u228 u229 u230 u231 u232 u233 u234 u235 u236 u237 u238 u239 u240 u241 u242 : Value)
    (hQ : ∀ (t161 t162 t163 t164 t165 t166 t167 t168 t169 : Value) (w' : World), Hid (Below w.heap.size w w') → Q .normal ⟨#[u0, u1, u2, .pointer (some ⟨g3, 0, none⟩), u4, u5, u6, u7, u8, u9, u10, u11, u12, u13, u14, u15, .pointer (some ⟨g16, 0, none⟩), u17, .pointer (some ⟨g20, 0, none⟩), u19, u20, u21, u22, u23, u24, u25, u26, u27, u28, u29, u30, u31, u32, u33, u34, u35, u36, u37, u38, u39, u40, u41, u42, u43, u44, u45, u46, u47, u48, u49, u50, u51, u52, u53, u54, u55, u56, u57, u58, u59, u60, u61, u62, u63, u64, u65, u66, u67, u68, u69, u70, u71, u72, u73, u74, u75, u76, u77, u78, u79, u80, u81, u82, u83, u84, u85, u86, u87, u88, u89, u90, u91, u92, u93, u94, u95, u96, u97, u98, u99, u100, u101, u102, u103, u104, u105, u106, u107, u108, u109, u110, u111, u112, u113, u114, u115, u116, u117, u118, u119, u120, u121, u122, u123, u124, u125, u126, u127, u128, u129, u130, u131, u132, u133, u134, u135, u136, u137, u138, u139, u140, u141, u142, u143, u144, u145, u146, u147, u148, u149, u150, u151, u152, u153, u154, u155, u156, u157, u158, u159, u160, t161, t162, t163, t164, t165, t166, t167, t168, t169, .bool (decide (u.act = 5) || !decide (rFirst revs u = l)), u171, u172, u173, u174, u175, u176, u177, u178, u179, u180, u181, u182, u183, u184, u185, u186, u187, u188, u189, u190, u191, u192, u193, u194, u195, u196, u197, u198, u199, u200, u201, u202, u203, u204, u205, u206, u207, u208, u209, u210, u211, u212, u213, u214, u215, u216, u217, u218, u219, u220, u221, u222, u223, u224, u225, u226, u227, u228, u229, u230, u231, u232, u233, u234, u235, u236, u237, u238, u239, u240, u241, u242], []⟩ w') :
    (Code.region 25 ops true).wp Tryd.prog Q ⟨#[u0, u1, u2, .pointer (some ⟨g3, 0, none⟩), u4, u5, u6, u7, u8, u9, u10, u11, u12, u13, u14, u15, .pointer (some ⟨g16, 0, none⟩), u17, .pointer (some ⟨g20, 0, none⟩), u19, u20, u21, u22, u23, u24, u25, u26, u27, u28, u29, u30, u31, u32, u33, u34, u35, u36, u37, u38, u39, u40, u41, u42, u43, u44, u45, u46, u47, u48, u49, u50, u51, u52, u53, u54, u55, u56, u57, u58, u59, u60, u61, u62, u63, u64, u65, u66, u67, u68, u69, u70, u71, u72, u73, u74, u75, u76, u77, u78, u79, u80, u81, u82, u83, u84, u85, u86, u87, u88, u89, u90, u91, u92, u93, u94, u95, u96, u97, u98, u99, u100, u101, u102, u103, u104, u105, u106, u107, u108, u109, u110, u111, u112, u113, u114, u115, u116, u117, u118, u119, u120, u121, u122, u123, u124, u125, u126, u127, u128, u129, u130, u131, u132, u133, u134, u135, u136, u137, u138, u139, u140, u141, u142, u143, u144, u145, u146, u147, u148, u149, u150, u151, u152, u153, u154, u155, u156, u157, u158, u159, u160, u161, u162, u163, u164, u165, u166, u167, u168, u169, u170, u171, u172, u173, u174, u175, u176, u177, u178, u179, u180, u181, u182, u183, u184, u185, u186, u187, u188, u189, u190, u191, u192, u193, u194, u195, u196, u197, u198, u199, u200, u201, u202, u203, u204, u205, u206, u207, u208, u209, u210, u211, u212, u213, u214, u215, u216, u217, u218, u219, u220, u221, u222, u223, u224, u225, u226, u227, u228, u229, u230, u231, u232, u233, u234, u235, u236, u237, u238, u239, u240, u241, u242], []⟩ w := by
  simp only [Tryd.f40, Option.bind_some, regAt] at hops
  simp at hops
  subst hops
  have HQ := Lib.hid hQ
  have HFI := Lib.hid (fun X (hX : Below w.heap.size w X) => refFirst_any revs u (.slice Ar revs.length cr) dr X (hR.below hX) (by omega) hn hns)
  have hf : ∀ w', Below w.heap.size w w' → w'.cell? ⟨g3, 0, none⟩ = some (.slice Ar revs.length cr) ∧ w'.cell? ⟨g3, 1, none⟩ = some dr ∧ w'.cell? ⟨g16, 0, none⟩ = some (.string l.1) ∧ w'.cell? ⟨g16, 1, none⟩ = some (.int .i64 l.2) := fun w' hb => by
    obtain ⟨a, b, -, -⟩ := box2 (hD.below hb hD.lt)
    obtain ⟨e, f, -, -⟩ := box2 (hL.below hb hL.lt)
    exact ⟨a, b, e, f⟩
  have he := fun w' (hb : Below w.heap.size w w') => box12 (hU.below hb hU.lt)
  have HF := Lib.hid hf
  have HE2 := Lib.hid he
  clear hQ hR hD hL hU hf he hn hns
  obtain ⟨f0, f1, f2, f3⟩ := HF.out w (Below.refl _ _)
  obtain ⟨c0, c1, c2, c3, c4, c5, c6, c7, c8, c9, c10, c11⟩ := HE2.out w (Below.refl _ _)
  obtain ⟨l1, l2⟩ := l
  dsimp only at *
  have heq := fun W => (show (binOp .neq 47 (.agg #[.string (rFirst revs u).1, .int .i64 (rFirst revs u).2]) (.agg #[.string l1, .int .i64 l2])).run Tryd.prog W = .ok (.bool (!decide (rFirst revs u = (l1, l2)))) W from run_neq_fil _ _ _ _ W)
  generalize decide (rFirst revs u = (l1, l2)) = bl at heq HQ
  generalize (rFirst revs u).1 = r1 at HFI heq
  generalize (rFirst revs u).2 = r2 at HFI heq
  by_cases h5 : u.act = 5
  · have q5 : (u.act == 5) = true := by simpa using h5
    rw [decide_eq_true h5, Bool.true_or] at HQ
    clear h5 heq
    go_quiet (fail)
    exact HQ.out _ _ _ _ _ _ _ _ _ _ (below_dN (Below.refl _ _) _)
  · have q5 : (u.act == 5) = false := by simpa using h5
    rw [decide_eq_false h5, Bool.false_or] at HQ
    clear h5
    refine wp_region_noPanic ?_
    first
      | go_region_law ((go_simp; go_at_call 58; refine (HFI.out _ (by repeat (first | exact Below.refl _ _ | assumption | with_reducible refine Below.drew ?_ | with_reducible refine below_alloc' ?_ _ | with_reducible refine below12 ?_ (Nat.le_refl _) _))).mono ?_; rintro e w6 ⟨rfl, hb6⟩; have hS6 : Below w.heap.size w w6 := below_next (by repeat (first | exact Below.refl _ _ | assumption | with_reducible refine Below.drew ?_ | with_reducible refine below_alloc' ?_ _ | with_reducible refine below12 ?_ (Nat.le_refl _) _)) hb6; obtain ⟨f4, f5, f6, f7⟩ := HF.out w6 hS6))
      | fail
    all_goals exact NoPanic.normal (HQ.out _ _ _ _ _ _ _ _ _ _ hS6)
end Go.Proofs.YtnblfaagchflaaaDoor
