/- The reference's record: the order of the records. -/
import Derived.Test.YtnblfaagchflaaaGreatDoorMgw18
import Derived.Test.YtnblfaagchflaaaGreatDoorMgw10
import Derived.Test.YtnblfaagchflaaaGreatDoorMzOpH
import Derived.Test.YtnblfaagchflaaaGreatDoorCards
import Derived.Test.YtnblfaagchflaaaGreatDoorTie
import Derived.Test.YtnblfaagchflaaaGreatDoorMgw4
import Derived.Deep.RegionHeld3
import Derived.WalkKit
import Derived.ProofKit
import Derived.OpenShut
import Derived.Deep.DeepHandedRow
import Derived.Lib.LaidTab
import Derived.Lib.SmallJoins
namespace Go.Proofs.YtnblfaagchflaaaGreatDoor
open Go.RowKit
set_option linter.unusedVariables false
set_option linter.unusedSimpArgs false

set_option maxRecDepth 100000 in
set_option maxHeartbeats 8000000 in
theorem rcR2 (ops : Array Oper) (hops : Tryz.f96.body.bind (regAt 2) = some ops) (Q : Exit → Act → World → Prop) (ad : Addr) (n cc j g4 g7 : Nat) (num : Int) (cl tx : ByteArray) (ev : Value) (x y : Rcd) (bi : Bool) (w : World) (hjn : j + 1 < n) (hn : n ≤ 100000)
    (hC : Blk w g4 53 [.int .i64 num, .string cl, .string tx, ev, .slice (some ad) n cc]) (hX : Blk w g7 57 [.string x.frm, .int .i64 x.first, .int .i64 x.last, .string x.to, .int .i64 x.num, .int .i64 x.how]) (hy : ∀ X, Below w.heap.size w X → RcdAt X (ad.add (j * 6)) y)
    (hb : ∀ X, Below w.heap.size w X → Calls Tryz.prog 97 #[.agg #[.string y.frm, .int .i64 y.first, .int .i64 y.last, .string y.to, .int .i64 y.num, .int .i64 y.how], .agg #[.string x.frm, .int .i64 x.first, .int .i64 x.last, .string x.to, .int .i64 x.num, .int .i64 x.how]] X fun e w' => e = .returned (.bool bi) ∧ Below X.heap.size X w')
    (u0 u1 u3 u5 u6 u8 u9 u10 u11 u12 u13 u14 u15 u16 u17 u18 u19 u20 u21 u22 u23 u24 u25 u26 u27 u28 u29 u30 u31 u32 u33 u34 u35 u36 u37 u38 u39 u40 u41 u42 u43 u44 u45 u46 u47 u48 u49 u50 u51 u52 u53 u54 u55 u56 u57 u58 u59 u60 u61 u62 u63 u64 u65 u66 u67 u68 u69 u70 u71 u72 u73 u74 u75 u76 u77 u78 u79 u80 u81 u82 u83 u84 u85 u86 u87 u88 u89 u90 u91 u92 u93 u94 u95 u96 u97 u98 u99 u100 u101 u102 u103 u104 u105 u106 u107 u108 u109 u110 u111 u112 u113 u114 u115 u116 u117 u118 u119 u120 u121 u122 u123 u124 u125 u126 u127 u128 u129 u130 u131 u132 u133 u134 u135 u136 u137 u138 u139 u140 u141 u142 u143 u144 u145 u146 u147 u148 u149 u150 u151 u152 u153 u154 u155 u156 u157 u158 u159 u160 u161 u162 u163 u164 u165 u166 u167 u168 u169 u170 u171 u172 u173 u174 u175 u176 u177 u178 u179 u180 u181 u182 u183 u184 u185 u186 u187 u188 u189 u190 u191 u192 u193 u194 u195 u196 u197 u198 u199 u200 u201 u202 u203 u204 u205 u206 u207 u208 u209 u210 u211 u212 u213 u214 u215 u216 u217 u218 u219 u220 u221 u222 u223 u224 u225 u226 u227 u228 u229 u230 u231 u232 u233 u234 u235 u236 u237 u238 u239 u240 u241 u242 : Value)
    (hQ : ∀ (t30 t31 t32 t33 t34 t35 t36 t37 t38 t39 t40 t41 t42 t43 t44 t45 t46 t47 t48 t49 t50 t51 : Value) (bb : Bool) (w' : World), Hid (Below w.heap.size w w' ∧ bb = (!bi || (decide (x.how < 1) || decide (4 < x.how)))) → Q .normal ⟨#[u0, u1, .int .i64 ((j + 1 : Nat) : Int), u3, .pointer (some ⟨g4, 0, none⟩), u5, u6, .pointer (some ⟨g7, 0, none⟩), u8, u9, u10, u11, u12, u13, u14, u15, u16, u17, u18, u19, u20, u21, u22, u23, u24, u25, u26, u27, u28, u29, t30, t31, t32, t33, t34, t35, t36, t37, t38, t39, t40, t41, t42, t43, t44, t45, t46, t47, t48, t49, t50, t51, .bool bb, u53, u54, u55, u56, u57, u58, u59, u60, u61, u62, u63, u64, u65, u66, u67, u68, u69, u70, u71, u72, u73, u74, u75, u76, u77, u78, u79, u80, u81, u82, u83, u84, u85, u86, u87, u88, u89, u90, u91, u92, u93, u94, u95, u96, u97, u98, u99, u100, u101, u102, u103, u104, u105, u106, u107, u108, u109, u110, u111, u112, u113, u114, u115, u116, u117, u118, u119, u120, u121, u122, u123, u124, u125, u126, u127, u128, u129, u130, u131, u132, u133, u134, u135, u136, u137, u138, u139, u140, u141, u142, u143, u144, u145, u146, u147, u148, u149, u150, u151, u152, u153, u154, u155, u156, u157, u158, u159, u160, u161, u162, u163, u164, u165, u166, u167, u168, u169, u170, u171, u172, u173, u174, u175, u176, u177, u178, u179, u180, u181, u182, u183, u184, u185, u186, u187, u188, u189, u190, u191, u192, u193, u194, u195, u196, u197, u198, u199, u200, u201, u202, u203, u204, u205, u206, u207, u208, u209, u210, u211, u212, u213, u214, u215, u216, u217, u218, u219, u220, u221, u222, u223, u224, u225, u226, u227, u228, u229, u230, u231, u232, u233, u234, u235, u236, u237, u238, u239, u240, u241, u242], []⟩ w') :
    (Code.region 2 ops true).wp Tryz.prog Q ⟨#[u0, u1, .int .i64 ((j + 1 : Nat) : Int), u3, .pointer (some ⟨g4, 0, none⟩), u5, u6, .pointer (some ⟨g7, 0, none⟩), u8, u9, u10, u11, u12, u13, u14, u15, u16, u17, u18, u19, u20, u21, u22, u23, u24, u25, u26, u27, u28, u29, u30, u31, u32, u33, u34, u35, u36, u37, u38, u39, u40, u41, u42, u43, u44, u45, u46, u47, u48, u49, u50, u51, u52, u53, u54, u55, u56, u57, u58, u59, u60, u61, u62, u63, u64, u65, u66, u67, u68, u69, u70, u71, u72, u73, u74, u75, u76, u77, u78, u79, u80, u81, u82, u83, u84, u85, u86, u87, u88, u89, u90, u91, u92, u93, u94, u95, u96, u97, u98, u99, u100, u101, u102, u103, u104, u105, u106, u107, u108, u109, u110, u111, u112, u113, u114, u115, u116, u117, u118, u119, u120, u121, u122, u123, u124, u125, u126, u127, u128, u129, u130, u131, u132, u133, u134, u135, u136, u137, u138, u139, u140, u141, u142, u143, u144, u145, u146, u147, u148, u149, u150, u151, u152, u153, u154, u155, u156, u157, u158, u159, u160, u161, u162, u163, u164, u165, u166, u167, u168, u169, u170, u171, u172, u173, u174, u175, u176, u177, u178, u179, u180, u181, u182, u183, u184, u185, u186, u187, u188, u189, u190, u191, u192, u193, u194, u195, u196, u197, u198, u199, u200, u201, u202, u203, u204, u205, u206, u207, u208, u209, u210, u211, u212, u213, u214, u215, u216, u217, u218, u219, u220, u221, u222, u223, u224, u225, u226, u227, u228, u229, u230, u231, u232, u233, u234, u235, u236, u237, u238, u239, u240, u241, u242], []⟩ w := by
  simp only [Tryz.f96, Option.bind_some, regAt] at hops
  simp at hops
  subst hops
  have HQ := Lib.hid hQ
  have HBE := Lib.hid hb
  have HCC : Hid (∀ w', Below w.heap.size w w' → w'.cell? ⟨g4, 4, none⟩ = some (.slice (some ad) n cc) ∧ w'.cell? (ad.add (j * 6)) = some (.string y.frm) ∧ w'.cell? ⟨(ad.add (j * 6)).block, (ad.add (j * 6)).off + 1, none⟩ = some (.int .i64 y.first) ∧ w'.cell? ⟨(ad.add (j * 6)).block, (ad.add (j * 6)).off + 2, none⟩ = some (.int .i64 y.last) ∧ w'.cell? ⟨(ad.add (j * 6)).block, (ad.add (j * 6)).off + 3, none⟩ = some (.string y.to) ∧ w'.cell? ⟨(ad.add (j * 6)).block, (ad.add (j * 6)).off + 4, none⟩ = some (.int .i64 y.num) ∧ w'.cell? ⟨(ad.add (j * 6)).block, (ad.add (j * 6)).off + 5, none⟩ = some (.int .i64 y.how) ∧ w'.cell? ⟨g7, 0, none⟩ = some (.string x.frm) ∧ w'.cell? ⟨g7, 1, none⟩ = some (.int .i64 x.first) ∧ w'.cell? ⟨g7, 2, none⟩ = some (.int .i64 x.last) ∧ w'.cell? ⟨g7, 3, none⟩ = some (.string x.to) ∧ w'.cell? ⟨g7, 4, none⟩ = some (.int .i64 x.num) ∧ w'.cell? ⟨g7, 5, none⟩ = some (.int .i64 x.how)) := Lib.hid fun w' hb => by
    obtain ⟨a1, a2, a3, a4, a5, a6⟩ := hy w' hb
    obtain ⟨-, -, -, -, k4⟩ := box5 (hC.below hb hC.lt)
    obtain ⟨x0, x1, x2, x3, x4, x5⟩ := box6 (hX.below hb hX.lt)
    exact ⟨k4, a1, a2, a3, a4, a5, a6, x0, x1, x2, x3, x4, x5⟩
  clear hQ hb hC hX hy
  have d0 : decide (0 < j + 1) = true := by simp
  have d1 : decide ((0 : Int) < ((j + 1 : Nat) : Int)) = true := decide_eq_true (by omega)
  have d2 : decide ((0 : Int) < (j : Int) + 1) = true := decide_eq_true (by omega)
  have hjz : (j : Int) < (n : Int) := by omega
  have hnz : (n : Int) ≤ 100000 := by omega
  have hwp : IntKind.i64.wrap (j : Int) = (j : Int) := by rw [IntKind.wrap_i64]; omega
  by_cases h1 : x.how < 1
  · have q1 : decide (x.how < 1) = true := by simpa using h1
    have HF : Hid (true = (!bi || (decide (x.how < 1) || decide (4 < x.how)))) := Lib.hid (by simp [h1])
    clear h1
    cases bi
    all_goals
      obtain ⟨f0, f1, f2, f3, f4, f5, f6, f7, f8, f9, f10, f11, f12⟩ := HCC.out w (Below.refl _ _)
      refine wp_region_noPanic ?_
      first
        | go_region_law ((go_simp; go_at_call 97; refine (HBE.out _ (Below.refl _ _).drew).mono ?_; rintro e w6 ⟨rfl, hb6⟩; have HS6 : Hid (Below w.heap.size w w6) := Lib.hid ((Below.refl _ _).drew.trans hb6); clear hb6; obtain ⟨g0, g1, g2, g3', g4', g5, g6, g7', g8, g9, g10, g11, g12⟩ := HCC.out w6 HS6.out; clear g0 g1 g2 g3' g4' g5 g6 g7' g8 g9 g10 g11))
        | fail
      all_goals exact NoPanic.normal (HQ.out _ _ _ _ _ _ _ _ _ _ _ _ _ _ _ _ _ _ _ _ _ _ true _ ⟨HS6.out, HF.out⟩)
  · have q1 : decide (x.how < 1) = false := by simpa using h1
    by_cases h2 : 4 < x.how
    · have q2 : decide (4 < x.how) = true := by simpa using h2
      have HF : Hid (true = (!bi || (decide (x.how < 1) || decide (4 < x.how)))) := Lib.hid (by simp [h2])
      clear h1 h2
      cases bi
      all_goals
        obtain ⟨f0, f1, f2, f3, f4, f5, f6, f7, f8, f9, f10, f11, f12⟩ := HCC.out w (Below.refl _ _)
        refine wp_region_noPanic ?_
        first
          | go_region_law ((go_simp; go_at_call 97; refine (HBE.out _ (Below.refl _ _).drew).mono ?_; rintro e w6 ⟨rfl, hb6⟩; have HS6 : Hid (Below w.heap.size w w6) := Lib.hid ((Below.refl _ _).drew.trans hb6); clear hb6; obtain ⟨g0, g1, g2, g3', g4', g5, g6, g7', g8, g9, g10, g11, g12⟩ := HCC.out w6 HS6.out; clear g0 g1 g2 g3' g4' g5 g6 g7' g8 g9 g10 g11))
          | fail
        all_goals exact NoPanic.normal (HQ.out _ _ _ _ _ _ _ _ _ _ _ _ _ _ _ _ _ _ _ _ _ _ true _ ⟨HS6.out, HF.out⟩)
    · have q2 : decide (4 < x.how) = false := by simpa using h2
      have HF : Hid ((!bi) = (!bi || (decide (x.how < 1) || decide (4 < x.how)))) := Lib.hid (by simp [h1, h2])
      clear h1 h2
      cases bi
      all_goals
        obtain ⟨f0, f1, f2, f3, f4, f5, f6, f7, f8, f9, f10, f11, f12⟩ := HCC.out w (Below.refl _ _)
        refine wp_region_noPanic ?_
        first
          | go_region_law ((go_simp; go_at_call 97; refine (HBE.out _ (Below.refl _ _).drew).mono ?_; rintro e w6 ⟨rfl, hb6⟩; have HS6 : Hid (Below w.heap.size w w6) := Lib.hid ((Below.refl _ _).drew.trans hb6); clear hb6; obtain ⟨g0, g1, g2, g3', g4', g5, g6, g7', g8, g9, g10, g11, g12⟩ := HCC.out w6 HS6.out; clear g0 g1 g2 g3' g4' g5 g6 g7' g8 g9 g10 g11))
          | fail
        all_goals exact NoPanic.normal (HQ.out _ _ _ _ _ _ _ _ _ _ _ _ _ _ _ _ _ _ _ _ _ _ _ _ ⟨HS6.out, HF.out⟩)
end Go.Proofs.YtnblfaagchflaaaGreatDoor
/- The statements' copied: the walk. -/
namespace Go.Proofs.YtnblfaagchflaaaGreatDoor
open Go.RowKit
set_option linter.unusedVariables false
set_option linter.unusedSimpArgs false

/-- What copied leaves: the same depot in memory of its own. -/
def CopPost (w : World) (d : Dep) (e : Ending) (w' : World) : Prop := ∃ dv dr, e = .returned (.agg #[dv, dr]) ∧ Below w.heap.size w w' ∧ Revs w' dv d.revs ∧ Rcds w' dr d.recs ∧ Fresh w.heap.size dv ∧ Fresh w.heap.size dr
theorem rev_ones (l : List Rev) : ∀ u ∈ l.flatMap Rev.cells, u.oneCell' = true := by
  intro u hu
  obtain ⟨x, -, hx⟩ := List.mem_flatMap.1 hu
  simp only [Rev.cells, List.mem_cons, List.not_mem_nil, or_false] at hx
  rcases hx with rfl | rfl | rfl | rfl | rfl | rfl | rfl | rfl | rfl | rfl | rfl | rfl <;> rfl
theorem nogrow {w w' : World} {row : Option Nat} (h : w.grownBy w' row) (hr : row = none) : Below w.heap.size w w' := ⟨h.os, h.tape, h.output, h.size, fun k hk => h.block k hk (by rw [hr]; exact fun e => by cases e)⟩
theorem own_fresh {w' : World} {B base : Nat} {e : TypeId} {size n : Nat} {v : Value} {xs : List Value} (h : w'.ownsRow base e size v n xs) (hB : B ≤ base) : Fresh B v := fun x hx => Nat.le_trans hB (h.lt x hx).1
end Go.Proofs.YtnblfaagchflaaaGreatDoor
/- The arguments of the statements at a row: lists of changes, one change. -/
namespace Go.Proofs.YtnblfaagchflaaaGreatDoor
open Go.RowKit Go.ChangeShapes Go.WideShapes Go.Deep
set_option linter.unusedVariables false
set_option linter.unusedSimpArgs false

section
variable {H : Type} {enc : TypeId × Value → H}
theorem wt_at {P : Program} {ps : Array TypeId} {ts : List TypeId} {ds gs : List (DataW H)} (h : (DataW.weightsEach P (ps.toList ++ ts) (ds ++ gs)).all (· ≤ reachBytes) = true) (j : Nat) (t : TypeId) (d : DataW H) (ht : ps[j]? = some t) (hd : ds[j]? = some d) : Wt P t d := by
  intro x hx
  have h1 : (ps.toList ++ ts)[j]? = some t := by
    rw [List.getElem?_append_left (by rw [Array.length_toList]; exact (Array.getElem?_eq_some_iff.1 ht).1), Array.getElem?_toList]; exact ht
  have h2 : (ds ++ gs)[j]? = some d := by
    rw [List.getElem?_append_left (List.getElem?_eq_some_iff.1 hd).1]; exact hd
  have := List.all_eq_true.1 h x (DataW.weights_mem_each h1 h2 x hx)
  simpa using this
/-- What the reading of a list of changes gives. -/
def ChgsRd (w : World) (v : Value) (ps : List ChV) : Prop := Chgs w v ps ∧ ps.length * 88 ≤ reachBytes ∧ ∀ p ∈ ps, p.rd w
set_option maxRecDepth 100000 in
theorem chgs_arg {w : World} {r : Reach} {b0 : Nat} {spare : Nat → Bool} {held : Bool} {v : Value} {d : DataW H} {p : List MemPlace} (hv : Value.okWide Tryz.prog w r b0 22 v) (h : DataW.Trod enc Tryz.prog w 0 spare held 22 v d p) (hw : Wt Tryz.prog 22 d) :
    ∃ ps : List ChV, ChgsRd w v ps := by
  obtain ⟨a, n, c, rfl⟩ := okWide_slice Tryz.underlying22 hv
  obtain ⟨m, hm⟩ := h
  exact chgs_open w spare held hm hw
set_option maxRecDepth 100000 in
theorem chg_arg {w : World} {r : Reach} {b0 : Nat} {spare : Nat → Bool} {held : Bool} {v : Value} {d : DataW H} {p : List MemPlace} (hv : Value.okWide Tryz.prog w r b0 53 v) (h : DataW.Trod enc Tryz.prog w 0 spare held 53 v d p) (hw : Wt Tryz.prog 53 d) :
    ∃ (ch : Chg) (Ae Ac : Option Addr) (ce cc : Nat), v = .agg #[.int .i64 ch.num, .string ch.client, .string ch.text, .slice Ae ch.edits.length ce, .slice Ac ch.recs.length cc] ∧ ChV.rd w (ch, .slice Ae ch.edits.length ce, .slice Ac ch.recs.length cc) := by
  obtain ⟨cs, rfl, -⟩ := okWide_struct Tryz.underlying53 hv
  obtain ⟨m, hm⟩ := h
  obtain ⟨⟨ch, ev, rv⟩, e, hr⟩ := rd_chg w spare held _ _ _ hm hw
  obtain ⟨Ae, ce, he⟩ := hr.2.2.2.1
  obtain ⟨Ac, cc, hc⟩ := hr.2.2.2.2.1
  change ev = .slice Ae ch.edits.length ce at he
  change rv = .slice Ac ch.recs.length cc at hc
  subst he hc
  refine ⟨ch, Ae, Ac, ce, cc, ?_, hr⟩
  have e' : cs.toList = [.int .i64 ch.num, .string ch.client, .string ch.text, .slice Ae ch.edits.length ce, .slice Ac ch.recs.length cc] := e
  cases cs
  simp only at e'
  rw [e']
theorem rd_last {w : World} {p : ChV} (h : p.rd w) : ∀ r ∈ p.1.recs, r.last ≤ 9223372036854775807 := fun r hr => (h.2.2.2.2.2.2 r hr).2.2
theorem rd_size {w : World} {p : ChV} (h : p.rd w) : chgLen p.1 ≤ 10000000000000 ∧ (∀ x ∈ p.1.edits, x.path.size ≤ 140737488355328 ∧ x.frm.size ≤ 140737488355328) ∧ ∀ x ∈ p.1.recs, x.frm.size ≤ 140737488355328 ∧ x.to.size ≤ 140737488355328 := by
  have hb : reachBytes = 140737488351232 := by decide
  obtain ⟨-, h1, h2, -, -, h3, h4⟩ := h
  rw [hb] at h1 h2
  refine ⟨?_, fun x hx => ?_, fun x hx => ?_⟩
  · unfold chgLen; omega
  · have := h3 x hx; rw [hb] at this; omega
  · have := h4 x hx; rw [hb] at this; omega
theorem rd_sizeOk {w : World} {v : Value} {ps : List ChV} {p : ChV} (h : ChgsRd w v ps) (hp : p.rd w) : sizeOk (ps ++ [p]) := by
  have hb : reachBytes = 140737488351232 := by decide
  have hl := h.2.1
  rw [hb] at hl
  have hm : ∀ q ∈ ps ++ [p], q.rd w := fun q hq => by
    rcases List.mem_append.1 hq with hq | hq
    · exact h.2.2 q hq
    · rw [List.mem_singleton] at hq; subst hq; exact hp
  exact ⟨by rw [List.length_append, List.length_singleton]; omega, fun q hq => (rd_size (hm q hq)).1, fun q hq => (rd_size (hm q hq)).2⟩
theorem rd_sizeOk' {w : World} {v : Value} {ps : List ChV} (h : ChgsRd w v ps) : sizeOk ps := by
  have hb : reachBytes = 140737488351232 := by decide
  have hl := h.2.1
  rw [hb] at hl
  exact ⟨by omega, fun q hq => (rd_size (h.2.2 q hq)).1, fun q hq => (rd_size (h.2.2 q hq)).2⟩
end
end Go.Proofs.YtnblfaagchflaaaGreatDoor
/- What all cards of this seat use: the world of the witness; opening the arguments. -/
namespace Go.Proofs.YtnblfaagchflaaaGreatDoor.cardBase
open Go.ChangeShapes Go.WideShapes Go.ChangeAt Go.RowKit
set_option linter.unusedVariables false

theorem own : ownKnob Tryz.prog.godebug = none := by kernel_rfl
theorem laidOut : laidOutB Tryz.prog = true := by kernel_rfl
theorem env_of {W : World} (h : W.ShapedOpen Tryz.prog) : Env W := Tryz.laysM143.s1_3 W h

def layFirst : Obj → Obj
  | .cells _ t frozen => .cells (Go.Pinned.utf8FirstZ.map fun (n : Nat) => Value.int .u8 (n : Int)).toArray t frozen
  | o => o
def layAccept : Obj → Obj
  | .cells _ t frozen => .cells #[.int .u8 128, .int .u8 191, .int .u8 160, .int .u8 191, .int .u8 128, .int .u8 159, .int .u8 144, .int .u8 191, .int .u8 128, .int .u8 143, .int .u8 0, .int .u8 0, .int .u8 0, .int .u8 0, .int .u8 0, .int .u8 0, .int .u8 0, .int .u8 0, .int .u8 0, .int .u8 0, .int .u8 0, .int .u8 0, .int .u8 0, .int .u8 0, .int .u8 0, .int .u8 0, .int .u8 0, .int .u8 0, .int .u8 0, .int .u8 0, .int .u8 0, .int .u8 0] t frozen
  | o => o
/-- A world for the witness: the settled one, the two tables holding what their initialisers lay. -/
noncomputable def laidWorld (os : Os) : World :=
  { World.holding Tryz.prog os ⟨#[], #[], []⟩ with heap := ((World.holding Tryz.prog os ⟨#[], #[], []⟩).heap.modify 1 layFirst).modify 2 layAccept }

end Go.Proofs.YtnblfaagchflaaaGreatDoor.cardBase
