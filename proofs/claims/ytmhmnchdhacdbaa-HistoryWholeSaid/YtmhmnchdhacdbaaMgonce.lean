/- Region 1 of HistoryOnce: Small of the changes and one more. -/
import Derived.Test.YtmhmnchdhacdbaaMzAwk
namespace Go.Proofs.Ytmhmnchdhacdbaa
open Go.RowKit
set_option linter.unusedVariables false
set_option linter.unusedSimpArgs false

theorem chgElem : ElemOk Try.prog 22 26 5 88 := elemOk_of Try.underlying22 (z := .agg #[.int .i64 0, .string ⟨#[]⟩, .string ⟨#[]⟩, .slice none 0 0, .slice none 0 0]) (by kernel_rfl) rfl (by decide)
theorem chv_one {w : World} {ps : List ChV} (h : ∀ p ∈ ps, p.ok w) : ∀ u ∈ ps.flatMap ChV.cells, u.oneCell' = true := by
  intro u hu
  obtain ⟨p, hp, hc⟩ := List.mem_flatMap.1 hu
  obtain ⟨⟨A, c, e, -⟩, ⟨A2, c2, e2, -⟩⟩ := h p hp
  simp only [ChV.cells, List.mem_cons, List.not_mem_nil, or_false] at hc
  rcases hc with rfl | rfl | rfl | rfl | rfl
  · rfl
  · rfl
  · rfl
  · rw [e]; rfl
  · rw [e2]; rfl
theorem below_nogrow {w w' : World} {row : Option Nat} (h : w.grownBy w' row) (hr : row = none) : Below w.heap.size w w' := ⟨h.os, h.tape, h.output, h.size, fun k hk => h.block k hk (by rw [hr]; exact fun e => by cases e)⟩
theorem chgs_own {w V : World} {base : Nat} {e : TypeId} {v : Value} {ps : List ChV} {p : ChV} (h : w.ownsRow base e 5 v (ps.length + 1) (ps.flatMap ChV.cells ++ p.cells)) (hV : Below V.heap.size V w) (h1 : ∀ q ∈ ps, q.ok V) (h2 : p.ok V) : Chgs w v (ps ++ [p]) := by
  refine ⟨?_, fun q hq => ?_⟩
  · rw [List.length_append, List.flatMap_append, List.flatMap_cons, List.flatMap_nil, List.append_nil]
    exact Row.of_own h
  · rcases List.mem_append.1 hq with hq | hq
    · exact ChV.ok_below (h1 q hq) hV
    · rw [List.mem_singleton] at hq; subst hq; exact ChV.ok_below h2 hV
/-- What Small is asked of, as a test. -/
def sizeOk (ps : List ChV) : Prop := ps.length * 88 ≤ 140737488355328 ∧ (∀ p ∈ ps, chgLen p.1 ≤ 10000000000000) ∧ ∀ p ∈ ps, (∀ x ∈ p.1.edits, x.path.size ≤ 140737488355328 ∧ x.frm.size ≤ 140737488355328) ∧ ∀ x ∈ p.1.recs, x.frm.size ≤ 140737488355328 ∧ x.to.size ≤ 140737488355328

set_option maxRecDepth 100000 in
set_option maxHeartbeats 8000000 in
theorem onceR1 (ops : Array Oper) (hops : Try.f3.body.bind (regAt 1) = some ops) (Q : Exit → Act → World → Prop) (gc : Nat) (v : Value) (ps : List ChV) (p : ChV) (V : World)
    (hP : Chgs V v ps) (hp : p.ok V) (hB : Blk V gc 26 p.cells) (hz : sizeOk (ps ++ [p]))
    (u1 u2 u3 u5 u6 u7 u8 u9 u10 u11 u12 u13 u14 u15 u16 u17 u18 u19 u20 u21 u22 u23 u24 u25 u26 u27 u28 u29 u30 u31 u32 u33 u34 u35 u36 u37 u38 u39 u40 u41 u42 u43 u44 u45 u46 u47 u48 u49 u50 u51 u52 u53 u54 u55 : Value)
    (hQ : ∀ (t11 t12 t13 t14 t15 t16 : Value) (b : Bool) (w' : World), Hid (Below V.heap.size V w' ∧ (b = true → smallL ((ps ++ [p]).map (·.1)))) → Q .normal ⟨#[v, u1, u2, u3, .pointer (some ⟨gc, 0, none⟩), u5, u6, u7, u8, u9, u10, t11, t12, t13, t14, t15, t16, .bool (!b), u18, u19, u20, u21, u22, u23, u24, u25, u26, u27, u28, u29, u30, u31, u32, u33, u34, u35, u36, u37, u38, u39, u40, u41, u42, u43, u44, u45, u46, u47, u48, u49, u50, u51, u52, u53, u54, u55], []⟩ w') :
    (Code.region 1 ops true).wp Try.prog Q ⟨#[v, u1, u2, u3, .pointer (some ⟨gc, 0, none⟩), u5, u6, u7, u8, u9, u10, u11, u12, u13, u14, u15, u16, u17, u18, u19, u20, u21, u22, u23, u24, u25, u26, u27, u28, u29, u30, u31, u32, u33, u34, u35, u36, u37, u38, u39, u40, u41, u42, u43, u44, u45, u46, u47, u48, u49, u50, u51, u52, u53, u54, u55], []⟩ V := by
  simp only [Try.f3, Option.bind_some, regAt] at hops
  simp at hops
  subst hops
  obtain ⟨A, c, rfl, hcl, hml, -⟩ := id hP.1
  obtain ⟨ch, ev, rv⟩ := p
  obtain ⟨Ae, ce, he, -⟩ := id hp.1
  obtain ⟨Ac, cc, hc2, -⟩ := id hp.2
  change ev = .slice Ae ch.edits.length ce at he
  change rv = .slice Ac ch.recs.length cc at hc2
  subst he hc2
  have HQ := Lib.hid hQ
  have HP := Lib.hid hP
  have HPP := Lib.hid hp
  have HZ := Lib.hid hz
  have hl := hz.1
  rw [List.length_append, List.length_singleton] at hl
  have hB1 : Blk V gc 26 [.int .i64 ch.num, .string ch.client, .string ch.text, .slice Ae ch.edits.length ce, .slice Ac ch.recs.length cc] := hB
  have HB := Lib.hid hB1
  have hf : ∀ w', Below V.heap.size V w' → w'.cell? ⟨gc, 0, none⟩ = some (.int .i64 ch.num) ∧ w'.cell? ⟨gc, 1, none⟩ = some (.string ch.client) ∧ w'.cell? ⟨gc, 2, none⟩ = some (.string ch.text) ∧ w'.cell? ⟨gc, 3, none⟩ = some (.slice Ae ch.edits.length ce) ∧ w'.cell? ⟨gc, 4, none⟩ = some (.slice Ac ch.recs.length cc) := fun w' hb => box5 (HB.out.below hb HB.out.lt)
  have HF := Lib.hid hf
  clear hQ hP hp hz hB hB1 hf
  obtain ⟨f0, f1, f2, f3, f4⟩ := HF.out V (Below.refl _ _)
  refine wp_region_noPanic ?_
  go_region_law (first
    | (refine step_app (base := V.heap.size) (n := 0) (xs := []) rfl rfl chgElem (World.ownsRow_nil _ _ _ _) (by simp [Act.eval, Act.put]; done) (HP.out.below (Below.refl _ _).drew).1 (by simp [Act.eval, Act.put]; done) (chv_one HP.out.2) (by omega) (by unfold maxLen; omega) (by simp) ?_; intro A5 c5 w5 hO5 hG5 hw5; have hX5 := below_nogrow hG5 rfl; have hS5 : Below V.heap.size V w5 := (Below.refl _ _).drew.trans hX5; obtain ⟨f5, f6, f7, f8, f9⟩ := HF.out w5 hS5; rw [Nat.zero_add, List.nil_append] at hO5)
    | (refine step_app (base := V.heap.size) (n := 0) (xs := []) rfl rfl chgElem (World.ownsRow_nil _ _ _ _) (by simp [Act.eval, Act.put]; done) (HP.out.below (by first | exact below_alloc' (Below.refl _ _).drew _ | exact (below_alloc' (Below.refl _ _) _).drew)).1 (by simp [Act.eval, Act.put]; done) (chv_one HP.out.2) (by omega) (by unfold maxLen; omega) (Below.size (by first | exact below_alloc' (Below.refl _ _).drew _ | exact (below_alloc' (Below.refl _ _) _).drew)) ?_; intro A5 c5 w5 hO5 hG5 hw5; have hX5 := below_nogrow hG5 rfl; have hS5 : Below V.heap.size V w5 := below_next (by first | exact below_alloc' (Below.refl _ _).drew _ | exact (below_alloc' (Below.refl _ _) _).drew) hX5; have hQ5 : Blk w5 V.heap.size 26 [.int .i64 ch.num, .string ch.client, .string ch.text, .slice Ae ch.edits.length ce, .slice Ac ch.recs.length cc] := Blk.below' (by first | exact blk_new V.drew _ _ | exact Blk.drew' (blk_new V _ _)) hX5; rw [Nat.zero_add, List.nil_append] at hO5)
    | (refine step_app rfl rfl chgElem (own_below hO5 ((Below.refl _ _).alloc (Nat.le_refl _) _)) (by simp [Act.eval, Act.put]; done) (row_new w5 [.int .i64 ch.num, .string ch.client, .string ch.text, .slice Ae ch.edits.length ce, .slice Ac ch.recs.length cc] _ 5 1 rfl (by decide) _ rfl) (by simp [Act.eval, Act.put]; done) (by simp [Value.oneCell']) (by omega) (by unfold maxLen; omega) (by have := hS5.size; simp; omega) ?_; intro A6 c6 w6 hO6 hG6 hw6; have hS6 : Below V.heap.size V w6 := (hS5.alloc hS5.size _).grown hG6 (hS5.alloc hS5.size _).size (fun k e => (hO5.lt k e).1))
    | (refine step_app rfl rfl chgElem hO5 (by simp [Act.eval, Act.put]; done) (hQ5.row (size := 5) (n := 1) rfl (by decide)) (by simp [Act.eval, Act.put]; done) (by simp [Value.oneCell']) (by omega) (by unfold maxLen; omega) hS5.size ?_; intro A6 c6 w6 hO6 hG6 hw6; have hS6 : Below V.heap.size V w6 := hS5.grown hG6 hS5.size (fun k e => (hO5.lt k e).1))
    | (go_simp; go_at_call 7; refine (small_any (ps ++ [(ch, .slice Ae ch.edits.length ce, .slice Ac ch.recs.length cc)]) (.slice A6 (ps.length + 1) c6) w6 (chgs_own hO6 hS6 HP.out.2 HPP.out) (by have := HZ.out.1; omega) HZ.out.2.1 HZ.out.2.2).mono ?_; rintro e w7 ⟨b, rfl, hb7, hsm⟩))
  all_goals exact NoPanic.normal (HQ.out _ _ _ _ _ _ b _ ⟨below_next hS6 hb7, hsm⟩)
end Go.Proofs.Ytmhmnchdhacdbaa
/- Region 3 of HistoryOnce: the change appended to what the changes make. -/
namespace Go.Proofs.Ytmhmnchdhacdbaa
open Go.RowKit
set_option linter.unusedVariables false
set_option linter.unusedSimpArgs false

/-- What region 3 of HistoryOnce leaves. -/
def R3Post (V w' : World) (g7 : Nat) (err : Int) (c : Chg) : Prop :=
  Below V.heap.size V w' ∧ V.heap.size ≤ g7 ∧ (err ≠ 0 ∨ err = 0 ∧ ∃ d rs dv dr, appE d c = 0 ∧ Blk w' g7 31 [dv, dr] ∧ DepAt w' dv dr ⟨newRevs d c, rs⟩ ∧ Fresh V.heap.size dv ∧ Fresh V.heap.size dr)
/-- What Append leaves, both ways in one form. -/
def ApU (w : World) (d : Dep) (c : Chg) (e : Ending) (w' : World) : Prop :=
  ∃ A5 n5 c5 A6 n6 c6 err, e = .returned (.tuple #[.agg #[.slice A5 n5 c5, .slice A6 n6 c6], .int .i64 err]) ∧ Below w.heap.size w w' ∧ err = appE d c ∧ (err ≠ 0 ∧ A5 = none ∧ n5 = 0 ∧ c5 = 0 ∧ A6 = none ∧ n6 = 0 ∧ c6 = 0 ∨ err = 0 ∧ appE d c = 0 ∧ ∃ rs, rs.Perm (d.recs ++ c.recs) ∧ rs.Pairwise (fun a b => 0 ≤ cmpR b a) ∧ DepAt w' (.slice A5 n5 c5) (.slice A6 n6 c6) ⟨newRevs d c, rs⟩) ∧ Fresh w.heap.size (.slice A5 n5 c5) ∧ Fresh w.heap.size (.slice A6 n6 c6)
theorem append_u (d : Dep) (c : Chg) (dv dr ev rv : Value) (w : World) (hd : DepAt w dv dr d) (hE : Edts w ev c.edits) (hC : Rcds w rv c.recs) (hW : ChgW c) :
    Calls Try.prog 9 #[.agg #[dv, dr], .agg #[.int .i64 c.num, .string c.client, .string c.text, ev, rv]] w (ApU w d c) :=
  (append_any d c dv dr ev rv w hd.1 hd.2.1 hE hC hd.2.2 hW).mono fun e w' h => by
    obtain ⟨hb, ⟨h0, rfl⟩ | ⟨h0, dv', dr', rs, rfl, h1, h2, h3, h4, h5, h6⟩⟩ := h
    · exact ⟨none, 0, 0, none, 0, 0, appE d c, rfl, hb, rfl, .inl ⟨h0, rfl, rfl, rfl, rfl, rfl, rfl⟩, fun x e => (by cases e), fun x e => (by cases e)⟩
    · obtain ⟨A5, c5, e5, -⟩ := id h1
      obtain ⟨A6, c6, e6, -⟩ := id h2
      subst e5 e6
      exact ⟨_, _, _, _, _, _, 0, rfl, hb, h0.symm, .inr ⟨rfl, h0, rs, h3, h4, h1, h2, appE_keeps hd.2.2 hW h0 rs h3⟩, h5, h6⟩
theorem r3_any {V w6 : World} {c : Chg} {d : Dep} {A5 A6 : Option Addr} {n5 n6 c5 c6 : Nat} {err : Int} (h : Below V.heap.size V w6) (f1 : Fresh V.heap.size (.slice A5 n5 c5)) (f2 : Fresh V.heap.size (.slice A6 n6 c6)) (hd : err ≠ 0 ∧ A5 = none ∧ n5 = 0 ∧ c5 = 0 ∧ A6 = none ∧ n6 = 0 ∧ c6 = 0 ∨ err = 0 ∧ appE d c = 0 ∧ ∃ rs, rs.Perm (d.recs ++ c.recs) ∧ rs.Pairwise (fun a b => 0 ≤ cmpR b a) ∧ DepAt w6 (.slice A5 n5 c5) (.slice A6 n6 c6) ⟨newRevs d c, rs⟩) :
    R3Post V (w6.alloc (.cells #[.slice A5 n5 c5, .slice A6 n6 c6] 31)) w6.heap.size err c := by
  refine ⟨below_alloc' h _, h.size, ?_⟩
  rcases hd with h1 | ⟨h1, h2, rs, -, -, h3⟩
  · exact .inl h1.1
  · exact .inr ⟨h1, d, rs, _, _, h2, blk_new w6 _ _, h3.below ((Below.refl _ _).alloc (Nat.le_refl _) _), f1, f2⟩

theorem r3_set {V X w6 : World} {c : Chg} {d : Dep} {A5 A6 : Option Addr} {n5 n6 c5 c6 g7 : Nat} {err : Int} {a b : Value} (h : Below V.heap.size V w6) (hb : Blk w6 g7 31 [a, b]) (hg : V.heap.size ≤ g7) (hX : g7 < X.heap.size) (f1 : Fresh X.heap.size (.slice A5 n5 c5)) (f2 : Fresh X.heap.size (.slice A6 n6 c6))
    (hd : err ≠ 0 ∧ A5 = none ∧ n5 = 0 ∧ c5 = 0 ∧ A6 = none ∧ n6 = 0 ∧ c6 = 0 ∨ err = 0 ∧ appE d c = 0 ∧ ∃ rs, rs.Perm (d.recs ++ c.recs) ∧ rs.Pairwise (fun a b => 0 ≤ cmpR b a) ∧ DepAt w6 (.slice A5 n5 c5) (.slice A6 n6 c6) ⟨newRevs d c, rs⟩) :
    R3Post V ((w6.setCell ⟨g7, 0, none⟩ (.slice A5 n5 c5)).setCell ⟨g7, 1, none⟩ (.slice A6 n6 c6)) g7 err c := by
  have n1 : (Value.slice A5 n5 c5).ownBlock ≠ some g7 := fun e => by have := f1 _ e; omega
  have n2 : (Value.slice A6 n6 c6).ownBlock ≠ some g7 := fun e => by have := f2 _ e; omega
  refine ⟨(h.setCell (p := ⟨g7, 0, none⟩) hg _).setCell (p := ⟨g7, 1, none⟩) hg _, hg, ?_⟩
  rcases hd with h1 | ⟨h1, h2, rs, -, -, h3⟩
  · exact .inl h1.1
  · exact .inr ⟨h1, d, rs, _, _, h2, (hb.set_ 0 _).set_ 1 _, (h3.setCell n1 n2).setCell n1 n2, fun x e => Nat.le_trans hg (Nat.le_trans (Nat.le_of_lt hX) (f1 x e)), fun x e => Nat.le_trans hg (Nat.le_trans (Nat.le_of_lt hX) (f2 x e))⟩

set_option maxRecDepth 100000 in
set_option maxHeartbeats 8000000 in
theorem onceR3 (ops : Array Oper) (hops : Try.f3.body.bind (regAt 3) = some ops) (Q : Exit → Act → World → Prop) (gc : Nat) (v : Value) (ps : List ChV) (p : ChV) (V : World)
    (hP : Chgs V v ps) (hp : p.ok V) (hB : Blk V gc 26 p.cells) (hs : smallL (ps.map (·.1))) (hr : ∀ p ∈ ps, ∀ r ∈ p.1.recs, r.last ≤ 9223372036854775807) (hW : ChgW p.1)
    (u1 u2 u3 u5 u6 u7 u8 u9 u10 u11 u12 u13 u14 u15 u16 u17 u18 u19 u20 u21 u22 u23 u24 u25 u26 u27 u28 u29 u30 u31 u32 u33 u34 u35 u36 u37 u38 u39 u40 u41 u42 u43 u44 u45 u46 u47 u48 u49 u50 u51 u52 u53 u54 u55 : Value)
    (hQ : ∀ (t19 t20 t21 t22 t23 t24 t25 : Value) (g7 : Nat) (err : Int) (w' : World), Hid (R3Post V w' g7 err p.1) → Q .normal ⟨#[v, u1, u2, u3, .pointer (some ⟨gc, 0, none⟩), u5, u6, .pointer (some ⟨g7, 0, none⟩), .int .i64 err, u9, u10, u11, u12, u13, u14, u15, u16, u17, u18, t19, t20, t21, t22, t23, t24, t25, u26, u27, u28, u29, u30, u31, u32, u33, u34, u35, u36, u37, u38, u39, u40, u41, u42, u43, u44, u45, u46, u47, u48, u49, u50, u51, u52, u53, u54, u55], []⟩ w') :
    (Code.region 3 ops true).wp Try.prog Q ⟨#[v, u1, u2, u3, .pointer (some ⟨gc, 0, none⟩), u5, u6, u7, u8, u9, u10, u11, u12, u13, u14, u15, u16, u17, u18, u19, u20, u21, u22, u23, u24, u25, u26, u27, u28, u29, u30, u31, u32, u33, u34, u35, u36, u37, u38, u39, u40, u41, u42, u43, u44, u45, u46, u47, u48, u49, u50, u51, u52, u53, u54, u55], []⟩ V := by
  simp only [Try.f3, Option.bind_some, regAt] at hops
  simp at hops
  subst hops
  obtain ⟨ch, ev, rv⟩ := p
  obtain ⟨Ae, ce, he, -⟩ := id hp.1
  obtain ⟨Ac, cc, hc2, -⟩ := id hp.2
  change ev = .slice Ae ch.edits.length ce at he
  change rv = .slice Ac ch.recs.length cc at hc2
  subst he hc2
  have HQ := Lib.hid hQ
  have HPP := Lib.hid hp
  have HW := Lib.hid hW
  have HPL := Lib.hid (fun X (hX : Below V.heap.size V X) => play_any ps v X (hP.below hX) hs hr)
  have hB1 : Blk V gc 26 [.int .i64 ch.num, .string ch.client, .string ch.text, .slice Ae ch.edits.length ce, .slice Ac ch.recs.length cc] := hB
  have HB := Lib.hid hB1
  have hf : ∀ w', Below V.heap.size V w' → w'.cell? ⟨gc, 0, none⟩ = some (.int .i64 ch.num) ∧ w'.cell? ⟨gc, 1, none⟩ = some (.string ch.client) ∧ w'.cell? ⟨gc, 2, none⟩ = some (.string ch.text) ∧ w'.cell? ⟨gc, 3, none⟩ = some (.slice Ae ch.edits.length ce) ∧ w'.cell? ⟨gc, 4, none⟩ = some (.slice Ac ch.recs.length cc) := fun w' hb => box5 (HB.out.below hb HB.out.lt)
  have HF := Lib.hid hf
  clear hQ hP hp hB hB1 hf hs hr hW
  obtain ⟨f0, f1, f2, f3, f4⟩ := HF.out V (Below.refl _ _)
  obtain ⟨j0, j1, j2, j3, j4⟩ := HF.out (V.alloc (.cells #[.slice none 0 0, .slice none 0 0] 31)) (below_alloc' (Below.refl _ _) _)
  refine wp_region_noPanic ?_
  go_region_law (first
    | (go_simp; go_at_call 10; refine (HPL.out _ (by repeat (first | with_reducible exact Below.refl _ _ | with_reducible assumption | with_reducible refine Below.drew ?_ | with_reducible refine below_alloc' ?_ _))).mono ?_; rintro e w5 ⟨dv, dr, d, rfl, hX5, hD5, hpl5, hf5, hg5⟩; have hS5 : Below V.heap.size V w5 := below_next (by repeat (first | with_reducible exact Below.refl _ _ | with_reducible assumption | with_reducible refine Below.drew ?_ | with_reducible refine below_alloc' ?_ _)) hX5; obtain ⟨f5, f6, f7, f8, f9⟩ := HF.out w5 hS5; obtain ⟨k5, k6, k7, k8, k9⟩ := HF.out (w5.alloc (.cells #[.slice none 0 0, .slice none 0 0] 31)) (below_alloc' hS5 _); obtain ⟨A1, c1, rfl, -⟩ := id hD5.1; obtain ⟨A2, c2, rfl, -⟩ := id hD5.2.1)
    | (go_simp; go_at_call 9; refine (append_u d ch _ _ (.slice Ae ch.edits.length ce) (.slice Ac ch.recs.length cc) _ (hD5.below (by repeat (first | with_reducible exact Below.refl _ _ | with_reducible assumption | with_reducible refine Below.drew ?_ | with_reducible refine below_alloc' ?_ _))) (HPP.out.1.below (below_next hS5 (by repeat (first | with_reducible exact Below.refl _ _ | with_reducible assumption | with_reducible refine Below.drew ?_ | with_reducible refine below_alloc' ?_ _)))) (HPP.out.2.below (below_next hS5 (by repeat (first | with_reducible exact Below.refl _ _ | with_reducible assumption | with_reducible refine Below.drew ?_ | with_reducible refine below_alloc' ?_ _)))) HW.out).mono ?_; rintro e w6 ⟨A5, n5, c5, A6, n6, c6, err, rfl, hX6, -, hd6, hfa, hfb⟩; have hS6 : Below V.heap.size V w6 := below_next (below_next hS5 (by repeat (first | with_reducible exact Below.refl _ _ | with_reducible assumption | with_reducible refine Below.drew ?_ | with_reducible refine below_alloc' ?_ _))) hX6; (first | (have hB7 := Blk.below' (blk_new _ [.slice none 0 0, .slice none 0 0] 31) hX6; obtain ⟨r0, r1, s0, s1⟩ := box2 hB7) | (have hB7 := Blk.below' (Blk.below' (blk_new _ [.slice none 0 0, .slice none 0 0] 31) hX5) hX6; obtain ⟨r0, r1, s0, s1⟩ := box2 hB7) | (have hB7 := Blk.below' (Blk.below' (Blk.drew' (blk_new _ [.slice none 0 0, .slice none 0 0] 31)) hX5) hX6; obtain ⟨r0, r1, s0, s1⟩ := box2 hB7) | skip)))
  all_goals
    refine NoPanic.normal ?_
    first
      | exact HQ.out _ _ _ _ _ _ _ _ _ _ (r3_set hS6 hB7 (by first | exact hS5.size | exact Nat.le_refl _) (by first | exact hX5.size | (simp only [drew_heap, World.size_alloc]; omega) | (have := hX5.size; simp only [drew_heap, World.size_alloc] at this; omega)) hfa hfb hd6)
      | exact HQ.out _ _ _ _ _ _ _ _ _ _ (r3_any hS6 (fun x e => Nat.le_trans hS5.size (hfa x e)) (fun x e => Nat.le_trans hS5.size (hfb x e)) hd6)
end Go.Proofs.Ytmhmnchdhacdbaa
/- HistoryOnce: the walk. -/
namespace Go.Proofs.Ytmhmnchdhacdbaa
open Go.RowKit
set_option linter.unusedVariables false
set_option linter.unusedSimpArgs false

theorem smallL_init {l : List Chg} {c : Chg} (h : smallL (l ++ [c])) : smallL l ∧ chgSm c ∧ chgLen c ≤ 200 := by
  obtain ⟨h1, h2, h3⟩ := h
  rw [lenSum_snoc] at h3
  rw [List.length_append] at h2
  exact ⟨⟨fun x hx => h1 x (List.mem_append_left _ hx), by simp at h2; omega, by omega⟩, h1 c (by simp), by omega⟩
set_option maxRecDepth 100000 in
set_option maxHeartbeats 8000000 in
theorem once_any (ps : List ChV) (ch : Chg) (Ae Ac : Option Addr) (ce cc : Nat) (n : Int) (v : Value) (w : World) (hP : Chgs w v ps) (hE : Edts w (.slice Ae ch.edits.length ce) ch.edits) (hC : Rcds w (.slice Ac ch.recs.length cc) ch.recs)
    (hz : sizeOk (ps ++ [(ch, .slice Ae ch.edits.length ce, .slice Ac ch.recs.length cc)])) (hr : ∀ p ∈ ps, ∀ r ∈ p.1.recs, r.last ≤ 9223372036854775807) (hrc : ∀ r ∈ ch.recs, r.last ≤ 9223372036854775807) :
    Calls Try.prog 3 #[v, .agg #[.int .i64 ch.num, .string ch.client, .string ch.text, .slice Ae ch.edits.length ce, .slice Ac ch.recs.length cc], .int .i64 n] w fun e w' => e = .returned (.bool true) ∧ Below w.heap.size w w' := by
  have HP := Lib.hid hP
  have HE := Lib.hid (show ChV.ok w (ch, .slice Ae ch.edits.length ce, .slice Ac ch.recs.length cc) from ⟨hE, hC⟩)
  have HZ := Lib.hid hz
  have HR := Lib.hid hr
  have HRC := Lib.hid hrc
  have hB := blk_new w [.int .i64 ch.num, .string ch.client, .string ch.text, .slice Ae ch.edits.length ce, .slice Ac ch.recs.length cc] 26
  have hA : Below w.heap.size w (w.alloc (.cells #[.int .i64 ch.num, .string ch.client, .string ch.text, .slice Ae ch.edits.length ce, .slice Ac ch.recs.length cc] 26)) := (Below.refl _ _).alloc (Nat.le_refl _) _
  clear hP hE hC hz hr hrc
  go_enter Try.func3, Try.ntmps3
  go_upto_region 1 with fail
  generalize w.alloc (.cells #[.int .i64 ch.num, .string ch.client, .string ch.text, .slice Ae ch.edits.length ce, .slice Ac ch.recs.length cc] 26) = W1 at hB hA ⊢
  have HB := Lib.hid hB
  have HA := Lib.hid hA
  clear hB hA
  refine onceR1 _ (by kernel_rfl) _ w.heap.size v ps (ch, .slice Ae ch.edits.length ce, .slice Ac ch.recs.length cc) W1 (HP.out.below HA.out) (ChV.ok_below HE.out HA.out) HB.out HZ.out _ _ _ _ _ _ _ _ _ _ _ _ _ _ _ _ _ _ _ _ _ _ _ _ _ _ _ _ _ _ _ _ _ _ _ _ _ _ _ _ _ _ _ _ _ _ _ _ _ _ _ _ _ _ ?_
  intro t11 t12 t13 t14 t15 t16 b w2 H2
  cases b with
  | false =>
    have HB2 := Lib.hid H2.out.1
    clear H2
    go_wp2_with fail
    refine (awake_any w2).mono ?_
    rintro e w3 ⟨rfl, hb3⟩
    have HB3 := Lib.hid hb3
    clear hb3
    go_wp2_with fail
    go_ret
    exact ⟨rfl, below_next HA.out (below_next HB2.out HB3.out)⟩
  | true =>
    have HSM : Hid _ := smallL_init (by have := H2.out.2 rfl; rwa [List.map_append, List.map_cons, List.map_nil] at this)
    have HCW : Hid (ChgW ch) := small_chgW HSM.out.2.1 HSM.out.2.2 HRC.out
    have HB2 := Lib.hid H2.out.1
    clear H2
    go_upto_region 3 with fail
    refine onceR3 _ (by kernel_rfl) _ w.heap.size v ps (ch, .slice Ae ch.edits.length ce, .slice Ac ch.recs.length cc) w2 ((HP.out.below HA.out).below HB2.out) (ChV.ok_below (ChV.ok_below HE.out HA.out) HB2.out) (HB.out.below HB2.out HB.out.lt) HSM.out.1 HR.out HCW.out _ _ _ _ _ _ _ _ _ _ _ _ _ _ _ _ _ _ _ _ _ _ _ _ _ _ _ _ _ _ _ _ _ _ _ _ _ _ _ _ _ _ _ _ _ _ _ _ _ _ _ _ _ _ ?_
    intro t19 t20 t21 t22 t23 t24 t25 g7 err w3 H3
    obtain ⟨hb3, hg7, he | ⟨he, d, rs, dv, dr, h0, hb7, hd7, hf1, hf2⟩⟩ := H3.out
    · have q : (err != 0) = true := by simpa using he
      have HB3 := Lib.hid hb3
      clear hb3 hg7 he H3
      go_wp2_with fail
      refine (awake_any w3).mono ?_
      rintro e w4 ⟨rfl, hb4⟩
      have HB4 := Lib.hid hb4
      clear hb4
      go_wp2_with fail
      go_ret
      exact ⟨rfl, below_next HA.out (below_next HB2.out (below_next HB3.out HB4.out))⟩
    · subst he
      clear H3
      have hlt : w.heap.size < w2.heap.size := (HB.out.below HB2.out HB.out.lt).lt
      have hbc := HB.out.below (below_next HB2.out hb3) HB.out.lt
      obtain ⟨A5, c5, rfl, -⟩ := id hd7.1
      obtain ⟨A6, c6, rfl, -⟩ := id hd7.2.1
      have e0 : w3.cell? ⟨w.heap.size, 0, none⟩ = some (.int .i64 ch.num) := hbc.cell 0
      have e1 : w3.frozen? ⟨w.heap.size, 0, none⟩ = false := hbc.frozen 0
      have hbd := hbc.set_ 0 (.int .i64 n)
      have hbe : Blk (w3.setCell ⟨w.heap.size, 0, none⟩ (.int .i64 n)) w.heap.size 26 [.int .i64 n, .string ch.client, .string ch.text, .slice Ae ch.edits.length ce, .slice Ac ch.recs.length cc] := hbd
      have hb7e := hb7.far (p := ⟨w.heap.size, 0, none⟩) (by simp; omega) (.int .i64 n)
      have hd7e := hd7.setCell (g := w.heap.size) (i := 0) (u := .int .i64 n) (fun e => by have := hf1 _ e; omega) (fun e => by have := hf2 _ e; omega)
      have hwe : Below w.heap.size w (w3.setCell ⟨w.heap.size, 0, none⟩ (.int .i64 n)) := (below_next HA.out (below_next HB2.out hb3)).setCell (p := ⟨w.heap.size, 0, none⟩) (Nat.le_refl _) _
      have HH0 := Lib.hid h0
      clear hbd hbc hb7 hd7 hb3 hf1 hf2 h0
      go_upto_region 7 with fail
      clear e0 e1
      generalize w3.setCell ⟨w.heap.size, 0, none⟩ (.int .i64 n) = w4 at hbe hb7e hd7e hwe ⊢
      obtain ⟨y0, y1, y2, y3, y4⟩ := box5 hbe
      obtain ⟨z0, z1, -, -⟩ := box2 hb7e
      have HAU := Lib.hid (append_u ⟨newRevs d ch, rs⟩ { ch with num := n } _ _ (.slice Ae ch.edits.length ce) (.slice Ac ch.recs.length cc) w4 hd7e (HE.out.1.below hwe) (HE.out.2.below hwe) ⟨HCW.out.len, HCW.out.rlen, HCW.out.path, HCW.out.rec_⟩)
      have HWE := Lib.hid hwe
      have HON := Lib.hid (once_plain d ch n rs HH0.out)
      clear hbe hb7e hd7e hwe
      go_wp2_with fail
      refine HAU.out.mono ?_
      rintro e w5 ⟨A7, n7, c7, A8, n8, c8, err, rfl, hX5, herr, hd5, -, -⟩
      have hne : err ≠ 0 := by rw [herr]; rcases HON.out with h | h | h <;> (rw [h]; decide)
      obtain ⟨-, rfl, rfl, rfl, rfl, rfl, rfl⟩ : err ≠ 0 ∧ A7 = none ∧ n7 = 0 ∧ c7 = 0 ∧ A8 = none ∧ n8 = 0 ∧ c8 = 0 := by
        rcases hd5 with h | h
        · exact h
        · exact absurd h.1 hne
      have HX5 := Lib.hid hX5
      have HAW := Lib.hid (fun X => awake_any X)
      clear hX5 hd5 hne y0 y1 y2 y3 y4 z0 z1
      have hcase : err = 112 ∨ err = 113 ∨ err = 114 := by rw [herr]; exact HON.out
      clear herr
      rcases hcase with rfl | rfl | rfl
      all_goals
        go_wp2_with fail
        refine (HAW.out _).mono ?_
        rintro e w6 ⟨rfl, hb6⟩
        have HB6 := Lib.hid hb6
        clear hb6
        go_wp2_with fail
        go_ret
        exact ⟨rfl, below_next HWE.out (below_next HX5.out (below_next ((Below.refl _ _).alloc (Nat.le_refl _) _) HB6.out))⟩
end Go.Proofs.Ytmhmnchdhacdbaa
