/- Region 1 of HistoryWhole: Small of the changes and one more; the path's length. -/
import Derived.Test.YtmhmnchdhacdbaaMzHm
import Derived.Test.YtmhmnchdhacdbaaMzSmB
import Derived.Test.YtmhmnchdhacdbaaMgonce
namespace Go.Proofs.Ytmhmnchdhacdbaa
open Go.RowKit
set_option linter.unusedVariables false
set_option linter.unusedSimpArgs false

set_option maxRecDepth 100000 in
set_option maxHeartbeats 8000000 in
theorem wholeR1 (ops : Array Oper) (hops : Try.f5.body.bind (regAt 1) = some ops) (Q : Exit → Act → World → Prop) (gc : Nat) (v : Value) (s : ByteArray) (ps : List ChV) (p : ChV) (V : World)
    (hP : Chgs V v ps) (hp : p.ok V) (hB : Blk V gc 26 p.cells) (hz : sizeOk (ps ++ [p]))
    (u1 u3 u4 u6 u7 u8 u9 u10 u11 u12 u13 u14 u15 u16 u17 u18 u19 u20 u21 u22 u23 u24 u25 u26 u27 u28 u29 u30 u31 u32 u33 u34 u35 u36 u37 u38 u39 u40 u41 u42 u43 u44 u45 u46 u47 u48 u49 u50 u51 u52 u53 u54 u55 u56 u57 u58 u59 u60 u61 u62 u63 u64 u65 u66 u67 u68 u69 u70 u71 u72 u73 u74 u75 u76 u77 u78 u79 u80 u81 u82 u83 u84 u85 u86 u87 u88 u89 u90 u91 u92 u93 u94 u95 u96 u97 u98 u99 u100 u101 u102 u103 u104 u105 u106 u107 u108 u109 u110 u111 u112 u113 u114 u115 u116 u117 u118 u119 u120 u121 u122 u123 u124 u125 u126 u127 u128 u129 u130 u131 u132 u133 u134 u135 u136 u137 u138 u139 u140 u141 u142 u143 u144 u145 u146 u147 u148 u149 u150 u151 u152 u153 u154 u155 u156 u157 u158 u159 u160 u161 u162 u163 u164 u165 u166 u167 u168 u169 u170 u171 u172 u173 u174 u175 u176 u177 u178 : Value)
    (hQ : ∀ (t20 t21 t22 t23 t24 t25 t26 t27 t28 t29 t30 : Value) (b : Bool) (w' : World), Hid (Below V.heap.size V w' ∧ (b = false → smallL ((ps ++ [p]).map (·.1)))) → Q .normal ⟨#[v, u1, .string s, u3, u4, .pointer (some ⟨gc, 0, none⟩), u6, u7, u8, u9, u10, u11, u12, u13, u14, u15, u16, u17, u18, u19, t20, t21, t22, t23, t24, t25, t26, t27, t28, t29, t30, .bool b, u32, u33, u34, u35, u36, u37, u38, u39, u40, u41, u42, u43, u44, u45, u46, u47, u48, u49, u50, u51, u52, u53, u54, u55, u56, u57, u58, u59, u60, u61, u62, u63, u64, u65, u66, u67, u68, u69, u70, u71, u72, u73, u74, u75, u76, u77, u78, u79, u80, u81, u82, u83, u84, u85, u86, u87, u88, u89, u90, u91, u92, u93, u94, u95, u96, u97, u98, u99, u100, u101, u102, u103, u104, u105, u106, u107, u108, u109, u110, u111, u112, u113, u114, u115, u116, u117, u118, u119, u120, u121, u122, u123, u124, u125, u126, u127, u128, u129, u130, u131, u132, u133, u134, u135, u136, u137, u138, u139, u140, u141, u142, u143, u144, u145, u146, u147, u148, u149, u150, u151, u152, u153, u154, u155, u156, u157, u158, u159, u160, u161, u162, u163, u164, u165, u166, u167, u168, u169, u170, u171, u172, u173, u174, u175, u176, u177, u178], []⟩ w') :
    (Code.region 1 ops true).wp Try.prog Q ⟨#[v, u1, .string s, u3, u4, .pointer (some ⟨gc, 0, none⟩), u6, u7, u8, u9, u10, u11, u12, u13, u14, u15, u16, u17, u18, u19, u20, u21, u22, u23, u24, u25, u26, u27, u28, u29, u30, u31, u32, u33, u34, u35, u36, u37, u38, u39, u40, u41, u42, u43, u44, u45, u46, u47, u48, u49, u50, u51, u52, u53, u54, u55, u56, u57, u58, u59, u60, u61, u62, u63, u64, u65, u66, u67, u68, u69, u70, u71, u72, u73, u74, u75, u76, u77, u78, u79, u80, u81, u82, u83, u84, u85, u86, u87, u88, u89, u90, u91, u92, u93, u94, u95, u96, u97, u98, u99, u100, u101, u102, u103, u104, u105, u106, u107, u108, u109, u110, u111, u112, u113, u114, u115, u116, u117, u118, u119, u120, u121, u122, u123, u124, u125, u126, u127, u128, u129, u130, u131, u132, u133, u134, u135, u136, u137, u138, u139, u140, u141, u142, u143, u144, u145, u146, u147, u148, u149, u150, u151, u152, u153, u154, u155, u156, u157, u158, u159, u160, u161, u162, u163, u164, u165, u166, u167, u168, u169, u170, u171, u172, u173, u174, u175, u176, u177, u178], []⟩ V := by
  simp only [Try.f5, Option.bind_some, regAt] at hops
  simp at hops
  subst hops
  obtain ⟨A, c, rfl, hcl, hml, -⟩ := id hP.1
  obtain ⟨ch, ev, rv⟩ := p
  obtain ⟨Ae, ce, he, -⟩ := id hp.1
  obtain ⟨Ac, cc, hc2, -⟩ := id hp.2
  change ev = .slice Ae ch.edits.length ce at he
  change rv = .slice Ac ch.recs.length cc at hc2
  subst he hc2
  have HQ := Lib.hid hQ
  have HP := Lib.hid hP
  have HPP := Lib.hid hp
  have HZ := Lib.hid hz
  have hl := hz.1
  rw [List.length_append, List.length_singleton] at hl
  have hB1 : Blk V gc 26 [.int .i64 ch.num, .string ch.client, .string ch.text, .slice Ae ch.edits.length ce, .slice Ac ch.recs.length cc] := hB
  have HB := Lib.hid hB1
  have hf : ∀ w', Below V.heap.size V w' → w'.cell? ⟨gc, 0, none⟩ = some (.int .i64 ch.num) ∧ w'.cell? ⟨gc, 1, none⟩ = some (.string ch.client) ∧ w'.cell? ⟨gc, 2, none⟩ = some (.string ch.text) ∧ w'.cell? ⟨gc, 3, none⟩ = some (.slice Ae ch.edits.length ce) ∧ w'.cell? ⟨gc, 4, none⟩ = some (.slice Ac ch.recs.length cc) := fun w' hb => box5 (HB.out.below hb HB.out.lt)
  have HF := Lib.hid hf
  clear hQ hP hp hz hB hB1 hf
  obtain ⟨f0, f1, f2, f3, f4⟩ := HF.out V (Below.refl _ _)
  by_cases hsL : smallL ((ps ++ [(ch, .slice Ae ch.edits.length ce, .slice Ac ch.recs.length cc)] : List ChV).map (·.1))
  · have HS := Lib.hid hsL
    clear hsL
    refine wp_region_noPanic ?_
    go_region_law (first
      | (refine step_app (base := V.heap.size) (n := 0) (xs := []) rfl rfl chgElem (World.ownsRow_nil _ _ _ _) (by simp [Act.eval, Act.put]; done) (HP.out.below (Below.refl _ _).drew).1 (by simp [Act.eval, Act.put]; done) (chv_one HP.out.2) (by omega) (by unfold maxLen; omega) (by simp) ?_; intro A5 c5 w5 hO5 hG5 hw5; have hX5 := below_nogrow hG5 rfl; have hS5 : Below V.heap.size V w5 := (Below.refl _ _).drew.trans hX5; obtain ⟨f5, f6, f7, f8, f9⟩ := HF.out w5 hS5; rw [Nat.zero_add, List.nil_append] at hO5)
      | (refine step_app (base := V.heap.size) (n := 0) (xs := []) rfl rfl chgElem (World.ownsRow_nil _ _ _ _) (by simp [Act.eval, Act.put]; done) (HP.out.below (by first | exact below_alloc' (Below.refl _ _).drew _ | exact (below_alloc' (Below.refl _ _) _).drew)).1 (by simp [Act.eval, Act.put]; done) (chv_one HP.out.2) (by omega) (by unfold maxLen; omega) (Below.size (by first | exact below_alloc' (Below.refl _ _).drew _ | exact (below_alloc' (Below.refl _ _) _).drew)) ?_; intro A5 c5 w5 hO5 hG5 hw5; have hX5 := below_nogrow hG5 rfl; have hS5 : Below V.heap.size V w5 := below_next (by first | exact below_alloc' (Below.refl _ _).drew _ | exact (below_alloc' (Below.refl _ _) _).drew) hX5; have hQ5 : Blk w5 V.heap.size 26 [.int .i64 ch.num, .string ch.client, .string ch.text, .slice Ae ch.edits.length ce, .slice Ac ch.recs.length cc] := Blk.below' (by first | exact blk_new V.drew _ _ | exact Blk.drew' (blk_new V _ _)) hX5; rw [Nat.zero_add, List.nil_append] at hO5)
      | (refine step_app rfl rfl chgElem (own_below hO5 ((Below.refl _ _).alloc (Nat.le_refl _) _)) (by simp [Act.eval, Act.put]; done) (row_new w5 [.int .i64 ch.num, .string ch.client, .string ch.text, .slice Ae ch.edits.length ce, .slice Ac ch.recs.length cc] _ 5 1 rfl (by decide) _ rfl) (by simp [Act.eval, Act.put]; done) (by simp [Value.oneCell']) (by omega) (by unfold maxLen; omega) (by have := hS5.size; simp; omega) ?_; intro A6 c6 w6 hO6 hG6 hw6; have hS6 : Below V.heap.size V w6 := (hS5.alloc hS5.size _).grown hG6 (hS5.alloc hS5.size _).size (fun k e => (hO5.lt k e).1))
      | (refine step_app rfl rfl chgElem hO5 (by simp [Act.eval, Act.put]; done) (hQ5.row (size := 5) (n := 1) rfl (by decide)) (by simp [Act.eval, Act.put]; done) (by simp [Value.oneCell']) (by omega) (by unfold maxLen; omega) hS5.size ?_; intro A6 c6 w6 hO6 hG6 hw6; have hS6 : Below V.heap.size V w6 := hS5.grown hG6 hS5.size (fun k e => (hO5.lt k e).1))
      | (go_simp; go_at_call 7; refine (small_both (ps ++ [(ch, .slice Ae ch.edits.length ce, .slice Ac ch.recs.length cc)]) (.slice A6 (ps.length + 1) c6) w6 (chgs_own hO6 hS6 HP.out.2 HPP.out) (by have := HZ.out.1; omega) HZ.out.2.1 HZ.out.2.2).mono ?_; rintro e w7 ⟨b, rfl, hb7, hsm, hno⟩; obtain rfl : b = true := (by cases b; exact absurd HS.out (hno rfl); rfl); have HX7 := Lib.hid (below_next hS6 hb7); clear hb7 hsm hno))
    all_goals exact NoPanic.normal (HQ.out _ _ _ _ _ _ _ _ _ _ _ _ _ ⟨HX7.out, fun _ => HS.out⟩)
  · have HS := Lib.hid hsL
    clear hsL
    refine wp_region_noPanic ?_
    first
      | go_region_law (first
          | (refine step_app (base := V.heap.size) (n := 0) (xs := []) rfl rfl chgElem (World.ownsRow_nil _ _ _ _) (by simp [Act.eval, Act.put]; done) (HP.out.below (Below.refl _ _).drew).1 (by simp [Act.eval, Act.put]; done) (chv_one HP.out.2) (by omega) (by unfold maxLen; omega) (by simp) ?_; intro A5 c5 w5 hO5 hG5 hw5; have hX5 := below_nogrow hG5 rfl; have hS5 : Below V.heap.size V w5 := (Below.refl _ _).drew.trans hX5; obtain ⟨f5, f6, f7, f8, f9⟩ := HF.out w5 hS5; rw [Nat.zero_add, List.nil_append] at hO5)
          | (refine step_app (base := V.heap.size) (n := 0) (xs := []) rfl rfl chgElem (World.ownsRow_nil _ _ _ _) (by simp [Act.eval, Act.put]; done) (HP.out.below (by first | exact below_alloc' (Below.refl _ _).drew _ | exact (below_alloc' (Below.refl _ _) _).drew)).1 (by simp [Act.eval, Act.put]; done) (chv_one HP.out.2) (by omega) (by unfold maxLen; omega) (Below.size (by first | exact below_alloc' (Below.refl _ _).drew _ | exact (below_alloc' (Below.refl _ _) _).drew)) ?_; intro A5 c5 w5 hO5 hG5 hw5; have hX5 := below_nogrow hG5 rfl; have hS5 : Below V.heap.size V w5 := below_next (by first | exact below_alloc' (Below.refl _ _).drew _ | exact (below_alloc' (Below.refl _ _) _).drew) hX5; have hQ5 : Blk w5 V.heap.size 26 [.int .i64 ch.num, .string ch.client, .string ch.text, .slice Ae ch.edits.length ce, .slice Ac ch.recs.length cc] := Blk.below' (by first | exact blk_new V.drew _ _ | exact Blk.drew' (blk_new V _ _)) hX5; rw [Nat.zero_add, List.nil_append] at hO5)
          | (refine step_app rfl rfl chgElem (own_below hO5 ((Below.refl _ _).alloc (Nat.le_refl _) _)) (by simp [Act.eval, Act.put]; done) (row_new w5 [.int .i64 ch.num, .string ch.client, .string ch.text, .slice Ae ch.edits.length ce, .slice Ac ch.recs.length cc] _ 5 1 rfl (by decide) _ rfl) (by simp [Act.eval, Act.put]; done) (by simp [Value.oneCell']) (by omega) (by unfold maxLen; omega) (by have := hS5.size; simp; omega) ?_; intro A6 c6 w6 hO6 hG6 hw6; have hS6 : Below V.heap.size V w6 := (hS5.alloc hS5.size _).grown hG6 (hS5.alloc hS5.size _).size (fun k e => (hO5.lt k e).1))
          | (refine step_app rfl rfl chgElem hO5 (by simp [Act.eval, Act.put]; done) (hQ5.row (size := 5) (n := 1) rfl (by decide)) (by simp [Act.eval, Act.put]; done) (by simp [Value.oneCell']) (by omega) (by unfold maxLen; omega) hS5.size ?_; intro A6 c6 w6 hO6 hG6 hw6; have hS6 : Below V.heap.size V w6 := hS5.grown hG6 hS5.size (fun k e => (hO5.lt k e).1))
          | (go_simp; go_at_call 7; refine (small_both (ps ++ [(ch, .slice Ae ch.edits.length ce, .slice Ac ch.recs.length cc)]) (.slice A6 (ps.length + 1) c6) w6 (chgs_own hO6 hS6 HP.out.2 HPP.out) (by have := HZ.out.1; omega) HZ.out.2.1 HZ.out.2.2).mono ?_; rintro e w7 ⟨b, rfl, hb7, hsm, hno⟩; obtain rfl : b = false := (by cases b; rfl; exact absurd (hsm rfl) HS.out); have HX7 := Lib.hid (below_next hS6 hb7); clear hb7 hsm hno))
      | fail
    all_goals exact NoPanic.normal (HQ.out _ _ _ _ _ _ _ _ _ _ _ true _ ⟨HX7.out, fun h => by cases h⟩)
end Go.Proofs.Ytmhmnchdhacdbaa
