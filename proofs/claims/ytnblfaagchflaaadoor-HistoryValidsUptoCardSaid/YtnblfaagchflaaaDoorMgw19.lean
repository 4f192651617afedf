/- The statements' own awake. -/
import Derived.Test.YtnblfaagchflaaaDoorMzVal1
import Derived.Test.YtnblfaagchflaaaDoorMgw7
import Derived.Test.YtnblfaagchflaaaDoorMgw11
namespace Go.Proofs.YtnblfaagchflaaaDoor
open Go.RowKit
set_option linter.unusedVariables false
set_option linter.unusedSimpArgs false

def wPath : ByteArray := ⟨#[47, 47, 97, 47, 120]⟩
def wRev : Rev := ⟨wPath, 1, 5, 1, ⟨1, false, false, false⟩, 0, 0, ⟨#[]⟩, 0⟩
def wEdt : Edt := ⟨wPath, 1, ⟨1, false, false, false⟩, 0, 0, 0, ⟨#[]⟩, 0, 0⟩
def wChg : Chg := ⟨5, ⟨#[]⟩, ⟨#[]⟩, [wEdt], []⟩
theorem w_valid : validS wPath = true := by decide
theorem w_edt : edtOf wRev = wEdt := rfl
theorem w_every : everyE (lastOf []) emptyS [wEdt] = 0 := by
  have h1 : editE (lastOf []) emptyS wEdt = 0 := by
    unfold editE
    rw [if_neg (by
      rintro (h | h)
      · exact absurd w_valid (by show ¬ validS wEdt.path = true; rw [h]; decide)
      · exact absurd h (by decide)), if_neg (fun h => h.1 rfl)]
    decide
  rw [everyE, h1]; rfl
theorem w_app : appE ⟨[], []⟩ wChg = 0 := by
  have h1 : sizeE [] wChg = 0 := by decide
  have h3 : movesE wChg.edits = 0 := by decide
  have h4 : recsE [] wChg = 0 := by unfold recsE wChg; rfl
  have h5 : roomE ⟨[], []⟩ wChg = 0 := by decide
  have h2 : everyE (lastOf []) emptyS wChg.edits = 0 := w_every
  unfold appE
  rw [h1, firstE_skip, h2, firstE_skip, h3, firstE_skip, h4, firstE_skip, h5, firstE_skip]; rfl
theorem w_new : newRevs ⟨[], []⟩ wChg = [wRev] := rfl
theorem w_chgW : ChgW wChg := ⟨by decide, by decide, fun x hx => by
  have : x = wEdt := by simpa [wChg] using hx
  subst this; decide, fun r hr => by simp [wChg] at hr⟩

set_option maxRecDepth 100000 in
set_option maxHeartbeats 4000000 in
theorem awake_any (w : World) : Calls Tryd.prog 4 #[] w fun e w' => e = .returned (.bool true) ∧ Below w.heap.size w w' := by
  have HG : Hid (greatest [wRev] wPath (fun _ => true) = some wRev) := Lib.hid (by simp [greatest, wRev])
  go_enter Tryd.func4, Tryd.ntmps4
  go_wp2_with fail
  have hB1 : Blk ((w.alloc (.cells #[.int .i64 1, .bool false, .bool false, .bool false] 28)).alloc (.cells #[.string ⟨#[47, 47, 97, 47, 120]⟩, .int .i64 1, .int .i64 1, .bool false, .bool false, .bool false, .int .u64 0, .int .i64 0, .int .i64 0, .string ⟨#[]⟩, .int .i64 0, .int .i64 0] 39)) (w.heap.size + 1) 39 ([wEdt].flatMap Edt.cells) := blk_at (cs := [wEdt].flatMap Edt.cells) (by simp)
  have hb1 : Below w.heap.size w ((w.alloc (.cells #[.int .i64 1, .bool false, .bool false, .bool false] 28)).alloc (.cells #[.string ⟨#[47, 47, 97, 47, 120]⟩, .int .i64 1, .int .i64 1, .bool false, .bool false, .bool false, .int .u64 0, .int .i64 0, .int .i64 0, .string ⟨#[]⟩, .int .i64 0, .int .i64 0] 39)) := below_alloc' (below_alloc' (Below.refl _ _) _) _
  generalize (w.alloc (.cells #[.int .i64 1, .bool false, .bool false, .bool false] 28)).alloc (.cells #[.string ⟨#[47, 47, 97, 47, 120]⟩, .int .i64 1, .int .i64 1, .bool false, .bool false, .bool false, .int .u64 0, .int .i64 0, .int .i64 0, .string ⟨#[]⟩, .int .i64 0, .int .i64 0] 39) = W1 at hB1 hb1 ⊢
  have HAA := Lib.hid (append_any ⟨[], []⟩ wChg (.slice none 0 0) (.slice none 0 0) (.slice (some ⟨w.heap.size + 1, 0, none⟩) 1 1) (.slice none 0 0) W1 (Revs.nil_ _) (Rcds.nil_ _) (hB1.row (size := 12) (n := 1) rfl (by unfold maxLen; omega)) (Rcds.nil_ _) depW_nil w_chgW)
  have HB1 := Lib.hid hb1
  clear hB1 hb1
  refine HAA.out.mono ?_
  rintro e V2 ⟨hb2, ⟨hn0, rfl⟩ | ⟨h0, dv', dr', rs, rfl, hR', hQ', hpm', hpw', hf1, hf2⟩⟩
  · exact absurd w_app hn0
  · have hrs : rs = [] := by simpa [wChg] using hpm'
    subst hrs
    rw [w_new] at hR'
    obtain ⟨A5, c5, rfl, -⟩ := id hR'
    obtain ⟨A6, c6, rfl, -⟩ := id hQ'
    have hR1 : Revs V2 (.slice A5 1 c5) [wRev] := hR'
    have hQ1 : Rcds V2 (.slice A6 0 c6) [] := hQ'
    have hb3 := below_next HB1.out hb2
    have hA3 : Below V2.heap.size V2 (V2.alloc (.cells #[.slice A5 1 c5, .slice A6 0 c6] 25)) := (Below.refl _ _).alloc (Nat.le_refl _) _
    have hx3 := blk_new V2 [.slice A5 1 c5, .slice A6 0 c6] 25
    clear hR' hQ' hpm' hpw' hf1 hf2 hb2 h0
    go_upto_region 3 with fail
    generalize V2.alloc (.cells #[.slice A5 1 c5, .slice A6 0 c6] 25) = V3 at hA3 hx3 ⊢
    obtain ⟨z0, z1, -, -⟩ := box2 hx3
    have hLa := last_any [wRev] wPath (.slice A5 1 c5) (.slice A6 0 c6) V3 (hR1.below hA3) (by decide)
    rw [HG.out] at hLa
    have HLA : Hid (Calls Tryd.prog 8 #[.agg #[.slice A5 1 c5, .slice A6 0 c6], .string ⟨#[47, 47, 97, 47, 120]⟩] V3 fun e w' => e = .returned (.tuple #[.agg #[.string ⟨#[47, 47, 97, 47, 120]⟩, .int .i64 1, .int .i64 5, .int .i64 1, .int .i64 1, .bool false, .bool false, .bool false, .int .u64 0, .int .i64 0, .string ⟨#[]⟩, .int .i64 0], .bool true]) ∧ Below V3.heap.size V3 w') := Lib.hid hLa
    have HX3 := Lib.hid hx3
    have HS3 : Hid (Below w.heap.size w V3 ∧ Revs V3 (.slice A5 1 c5) [wRev] ∧ Rcds V3 (.slice A6 0 c6) []) := Lib.hid ⟨below_next hb3 hA3, hR1.below hA3, hQ1.below hA3⟩
    clear hLa hx3 hb3 hA3 hR1 hQ1
    go_wp2_with fail
    refine HLA.out.mono ?_
    rintro e V4 ⟨rfl, hb4⟩
    clear z0 z1
    have HB4 := Lib.hid hb4
    clear hb4
    have hA5 : Below V4.heap.size V4 (V4.alloc (.cells #[.string ⟨#[47, 47, 97, 47, 120]⟩, .int .i64 1, .int .i64 5, .int .i64 1, .int .i64 1, .bool false, .bool false, .bool false, .int .u64 0, .int .i64 0, .string ⟨#[]⟩, .int .i64 0] 33)) := (Below.refl _ _).alloc (Nat.le_refl _) _
    have hx5 := blk_new V4 [.string ⟨#[47, 47, 97, 47, 120]⟩, .int .i64 1, .int .i64 5, .int .i64 1, .int .i64 1, .bool false, .bool false, .bool false, .int .u64 0, .int .i64 0, .string ⟨#[]⟩, .int .i64 0] 33
    go_upto_region 4 with fail
    generalize V4.alloc (.cells #[.string ⟨#[47, 47, 97, 47, 120]⟩, .int .i64 1, .int .i64 5, .int .i64 1, .int .i64 1, .bool false, .bool false, .bool false, .int .u64 0, .int .i64 0, .string ⟨#[]⟩, .int .i64 0] 33) = V5 at hA5 hx5 ⊢
    have hb35 := below_next HB4.out hA5
    obtain ⟨-, y1, y2, -, -, -, -, -, -, -, -, -⟩ := box12 hx5
    obtain ⟨z0, z1, -, -⟩ := box2 (HX3.out.below hb35 HX3.out.lt)
    have HV := Lib.hid (valid_one wRev (.slice A5 1 c5) (.slice A6 0 c6) V5 (HS3.out.2.1.below hb35) (HS3.out.2.2.below hb35) (by decide) wChg rfl w_app w_new w_chgW)
    have HB5 := Lib.hid (below_next HS3.out.1 hb35)
    clear hb35 hA5 hx5
    go_wp2_with fail
    refine HV.out.mono ?_
    rintro e V6 ⟨rfl, hb6⟩
    have HB6 := Lib.hid hb6
    clear hb6 y1 y2 z0 z1
    go_wp2_with fail
    go_ret
    exact ⟨rfl, below_next HB5.out HB6.out⟩
end Go.Proofs.YtnblfaagchflaaaDoor
/- Region 1 of HistoryOnce: Small of the changes and one more. -/
namespace Go.Proofs.YtnblfaagchflaaaDoor
open Go.RowKit
set_option linter.unusedVariables false
set_option linter.unusedSimpArgs false

theorem chgElem : ElemOk Tryd.prog 55 42 5 88 := elemOk_of Tryd.underlying55 (z := .agg #[.int .i64 0, .string ⟨#[]⟩, .string ⟨#[]⟩, .slice none 0 0, .slice none 0 0]) (by kernel_rfl) rfl (by decide)
theorem chv_one {w : World} {ps : List ChV} (h : ∀ p ∈ ps, p.ok w) : ∀ u ∈ ps.flatMap ChV.cells, u.oneCell' = true := by
  intro u hu
  obtain ⟨p, hp, hc⟩ := List.mem_flatMap.1 hu
  obtain ⟨⟨A, c, e, -⟩, ⟨A2, c2, e2, -⟩⟩ := h p hp
  simp only [ChV.cells, List.mem_cons, List.not_mem_nil, or_false] at hc
  rcases hc with rfl | rfl | rfl | rfl | rfl
  · rfl
  · rfl
  · rfl
  · rw [e]; rfl
  · rw [e2]; rfl
theorem below_nogrow {w w' : World} {row : Option Nat} (h : w.grownBy w' row) (hr : row = none) : Below w.heap.size w w' := ⟨h.os, h.tape, h.output, h.size, fun k hk => h.block k hk (by rw [hr]; exact fun e => by cases e)⟩
theorem chgs_own {w V : World} {base : Nat} {e : TypeId} {v : Value} {ps : List ChV} {p : ChV} (h : w.ownsRow base e 5 v (ps.length + 1) (ps.flatMap ChV.cells ++ p.cells)) (hV : Below V.heap.size V w) (h1 : ∀ q ∈ ps, q.ok V) (h2 : p.ok V) : Chgs w v (ps ++ [p]) := by
  refine ⟨?_, fun q hq => ?_⟩
  · rw [List.length_append, List.flatMap_append, List.flatMap_cons, List.flatMap_nil, List.append_nil]
    exact Row.of_own h
  · rcases List.mem_append.1 hq with hq | hq
    · exact ChV.ok_below (h1 q hq) hV
    · rw [List.mem_singleton] at hq; subst hq; exact ChV.ok_below h2 hV
/-- What Small is asked of, as a test. -/
def sizeOk (ps : List ChV) : Prop := ps.length * 88 ≤ 140737488355328 ∧ (∀ p ∈ ps, chgLen p.1 ≤ 10000000000000) ∧ ∀ p ∈ ps, (∀ x ∈ p.1.edits, x.path.size ≤ 140737488355328 ∧ x.frm.size ≤ 140737488355328) ∧ ∀ x ∈ p.1.recs, x.frm.size ≤ 140737488355328 ∧ x.to.size ≤ 140737488355328

end Go.Proofs.YtnblfaagchflaaaDoor
/- The statements' copied: the walk. -/
namespace Go.Proofs.YtnblfaagchflaaaDoor
open Go.RowKit
set_option linter.unusedVariables false
set_option linter.unusedSimpArgs false

/-- What copied leaves: the same depot in memory of its own. -/
def CopPost (w : World) (d : Dep) (e : Ending) (w' : World) : Prop := ∃ dv dr, e = .returned (.agg #[dv, dr]) ∧ Below w.heap.size w w' ∧ Revs w' dv d.revs ∧ Rcds w' dr d.recs ∧ Fresh w.heap.size dv ∧ Fresh w.heap.size dr
theorem rev_ones (l : List Rev) : ∀ u ∈ l.flatMap Rev.cells, u.oneCell' = true := by
  intro u hu
  obtain ⟨x, -, hx⟩ := List.mem_flatMap.1 hu
  simp only [Rev.cells, List.mem_cons, List.not_mem_nil, or_false] at hx
  rcases hx with rfl | rfl | rfl | rfl | rfl | rfl | rfl | rfl | rfl | rfl | rfl | rfl <;> rfl
theorem nogrow {w w' : World} {row : Option Nat} (h : w.grownBy w' row) (hr : row = none) : Below w.heap.size w w' := ⟨h.os, h.tape, h.output, h.size, fun k hk => h.block k hk (by rw [hr]; exact fun e => by cases e)⟩
theorem own_fresh {w' : World} {B base : Nat} {e : TypeId} {size n : Nat} {v : Value} {xs : List Value} (h : w'.ownsRow base e size v n xs) (hB : B ≤ base) : Fresh B v := fun x hx => Nat.le_trans hB (h.lt x hx).1
end Go.Proofs.YtnblfaagchflaaaDoor
/- Region 3 of HistoryOnce: the change appended to what the changes make. -/
namespace Go.Proofs.YtnblfaagchflaaaDoor
open Go.RowKit
set_option linter.unusedVariables false
set_option linter.unusedSimpArgs false

/-- What region 3 of HistoryOnce leaves. -/
def R3Post (V w' : World) (g7 : Nat) (err : Int) (c : Chg) : Prop :=
  Below V.heap.size V w' ∧ V.heap.size ≤ g7 ∧ (err ≠ 0 ∨ err = 0 ∧ ∃ d rs dv dr, appE d c = 0 ∧ Blk w' g7 25 [dv, dr] ∧ DepAt w' dv dr ⟨newRevs d c, rs⟩ ∧ Fresh V.heap.size dv ∧ Fresh V.heap.size dr)
/-- What Append leaves, both ways in one form. -/
def ApU (w : World) (d : Dep) (c : Chg) (e : Ending) (w' : World) : Prop :=
  ∃ A5 n5 c5 A6 n6 c6 err, e = .returned (.tuple #[.agg #[.slice A5 n5 c5, .slice A6 n6 c6], .int .i64 err]) ∧ Below w.heap.size w w' ∧ err = appE d c ∧ (err ≠ 0 ∧ A5 = none ∧ n5 = 0 ∧ c5 = 0 ∧ A6 = none ∧ n6 = 0 ∧ c6 = 0 ∨ err = 0 ∧ appE d c = 0 ∧ ∃ rs, rs.Perm (d.recs ++ c.recs) ∧ rs.Pairwise (fun a b => 0 ≤ cmpR b a) ∧ DepAt w' (.slice A5 n5 c5) (.slice A6 n6 c6) ⟨newRevs d c, rs⟩) ∧ Fresh w.heap.size (.slice A5 n5 c5) ∧ Fresh w.heap.size (.slice A6 n6 c6)
theorem append_u (d : Dep) (c : Chg) (dv dr ev rv : Value) (w : World) (hd : DepAt w dv dr d) (hE : Edts w ev c.edits) (hC : Rcds w rv c.recs) (hW : ChgW c) :
    Calls Tryd.prog 7 #[.agg #[dv, dr], .agg #[.int .i64 c.num, .string c.client, .string c.text, ev, rv]] w (ApU w d c) :=
  (append_any d c dv dr ev rv w hd.1 hd.2.1 hE hC hd.2.2 hW).mono fun e w' h => by
    obtain ⟨hb, ⟨h0, rfl⟩ | ⟨h0, dv', dr', rs, rfl, h1, h2, h3, h4, h5, h6⟩⟩ := h
    · exact ⟨none, 0, 0, none, 0, 0, appE d c, rfl, hb, rfl, .inl ⟨h0, rfl, rfl, rfl, rfl, rfl, rfl⟩, fun x e => (by cases e), fun x e => (by cases e)⟩
    · obtain ⟨A5, c5, e5, -⟩ := id h1
      obtain ⟨A6, c6, e6, -⟩ := id h2
      subst e5 e6
      exact ⟨_, _, _, _, _, _, 0, rfl, hb, h0.symm, .inr ⟨rfl, h0, rs, h3, h4, h1, h2, appE_keeps hd.2.2 hW h0 rs h3⟩, h5, h6⟩
theorem r3_any {V w6 : World} {c : Chg} {d : Dep} {A5 A6 : Option Addr} {n5 n6 c5 c6 : Nat} {err : Int} (h : Below V.heap.size V w6) (f1 : Fresh V.heap.size (.slice A5 n5 c5)) (f2 : Fresh V.heap.size (.slice A6 n6 c6)) (hd : err ≠ 0 ∧ A5 = none ∧ n5 = 0 ∧ c5 = 0 ∧ A6 = none ∧ n6 = 0 ∧ c6 = 0 ∨ err = 0 ∧ appE d c = 0 ∧ ∃ rs, rs.Perm (d.recs ++ c.recs) ∧ rs.Pairwise (fun a b => 0 ≤ cmpR b a) ∧ DepAt w6 (.slice A5 n5 c5) (.slice A6 n6 c6) ⟨newRevs d c, rs⟩) :
    R3Post V (w6.alloc (.cells #[.slice A5 n5 c5, .slice A6 n6 c6] 25)) w6.heap.size err c := by
  refine ⟨below_alloc' h _, h.size, ?_⟩
  rcases hd with h1 | ⟨h1, h2, rs, -, -, h3⟩
  · exact .inl h1.1
  · exact .inr ⟨h1, d, rs, _, _, h2, blk_new w6 _ _, h3.below ((Below.refl _ _).alloc (Nat.le_refl _) _), f1, f2⟩

theorem r3_set {V X w6 : World} {c : Chg} {d : Dep} {A5 A6 : Option Addr} {n5 n6 c5 c6 g7 : Nat} {err : Int} {a b : Value} (h : Below V.heap.size V w6) (hb : Blk w6 g7 25 [a, b]) (hg : V.heap.size ≤ g7) (hX : g7 < X.heap.size) (f1 : Fresh X.heap.size (.slice A5 n5 c5)) (f2 : Fresh X.heap.size (.slice A6 n6 c6))
    (hd : err ≠ 0 ∧ A5 = none ∧ n5 = 0 ∧ c5 = 0 ∧ A6 = none ∧ n6 = 0 ∧ c6 = 0 ∨ err = 0 ∧ appE d c = 0 ∧ ∃ rs, rs.Perm (d.recs ++ c.recs) ∧ rs.Pairwise (fun a b => 0 ≤ cmpR b a) ∧ DepAt w6 (.slice A5 n5 c5) (.slice A6 n6 c6) ⟨newRevs d c, rs⟩) :
    R3Post V ((w6.setCell ⟨g7, 0, none⟩ (.slice A5 n5 c5)).setCell ⟨g7, 1, none⟩ (.slice A6 n6 c6)) g7 err c := by
  have n1 : (Value.slice A5 n5 c5).ownBlock ≠ some g7 := fun e => by have := f1 _ e; omega
  have n2 : (Value.slice A6 n6 c6).ownBlock ≠ some g7 := fun e => by have := f2 _ e; omega
  refine ⟨(h.setCell (p := ⟨g7, 0, none⟩) hg _).setCell (p := ⟨g7, 1, none⟩) hg _, hg, ?_⟩
  rcases hd with h1 | ⟨h1, h2, rs, -, -, h3⟩
  · exact .inl h1.1
  · exact .inr ⟨h1, d, rs, _, _, h2, (hb.set_ 0 _).set_ 1 _, (h3.setCell n1 n2).setCell n1 n2, fun x e => Nat.le_trans hg (Nat.le_trans (Nat.le_of_lt hX) (f1 x e)), fun x e => Nat.le_trans hg (Nat.le_trans (Nat.le_of_lt hX) (f2 x e))⟩

end Go.Proofs.YtnblfaagchflaaaDoor
/- HistoryOnce: the walk. -/
namespace Go.Proofs.YtnblfaagchflaaaDoor
open Go.RowKit
set_option linter.unusedVariables false
set_option linter.unusedSimpArgs false

theorem smallL_init {l : List Chg} {c : Chg} (h : smallL (l ++ [c])) : smallL l ∧ chgSm c ∧ chgLen c ≤ 200 := by
  obtain ⟨h1, h2, h3⟩ := h
  rw [lenSum_snoc] at h3
  rw [List.length_append] at h2
  exact ⟨⟨fun x hx => h1 x (List.mem_append_left _ hx), by simp at h2; omega, by omega⟩, h1 c (by simp), by omega⟩
end Go.Proofs.YtnblfaagchflaaaDoor
