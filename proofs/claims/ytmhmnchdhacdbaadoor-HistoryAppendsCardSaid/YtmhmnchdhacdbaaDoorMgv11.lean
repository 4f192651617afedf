/- The statements' own awake. -/
import Derived.Test.YtmhmnchdhacdbaaDoorMgv10
import Derived.Test.YtmhmnchdhacdbaaDoorCards
import Derived.Test.YtmhmnchdhacdbaaDoorTie
import Derived.Test.YtmhmnchdhacdbaaDoorMgv1
import Derived.ProofKit
import Derived.OpenShut
import Derived.ShutString
import Derived.ChangeOld
import Derived.Deep.Slices
import Derived.Deep.Fields
import Derived.SizedLaws
import Derived.WalkKit
import Derived.Deep.DeepHandedRow
import Derived.Lib.LaidTab
import Derived.Lib.SmallJoins
namespace Go.Proofs.YtmhmnchdhacdbaaDoor
open Go.RowKit
set_option linter.unusedVariables false
set_option linter.unusedSimpArgs false

def wPath : ByteArray := ⟨#[47, 47, 97, 47, 120]⟩
def wRev : Rev := ⟨wPath, 1, 5, 1, ⟨1, false, false, false⟩, 0, 0, ⟨#[]⟩, 0⟩
def wEdt : Edt := ⟨wPath, 1, ⟨1, false, false, false⟩, 0, 0, 0, ⟨#[]⟩, 0, 0⟩
def wChg : Chg := ⟨5, ⟨#[]⟩, ⟨#[]⟩, [wEdt], []⟩
theorem w_valid : validS wPath = true := by decide
theorem w_edt : edtOf wRev = wEdt := rfl
theorem w_every : everyE (lastOf []) emptyS [wEdt] = 0 := by
  have h1 : editE (lastOf []) emptyS wEdt = 0 := by
    unfold editE
    rw [if_neg (by
      rintro (h | h)
      · exact absurd w_valid (by show ¬ validS wEdt.path = true; rw [h]; decide)
      · exact absurd h (by decide)), if_neg (fun h => h.1 rfl)]
    decide
  rw [everyE, h1]; rfl
theorem w_app : appE ⟨[], []⟩ wChg = 0 := by
  have h1 : sizeE [] wChg = 0 := by decide
  have h3 : movesE wChg.edits = 0 := by decide
  have h4 : recsE [] wChg = 0 := by unfold recsE wChg; rfl
  have h5 : roomE ⟨[], []⟩ wChg = 0 := by decide
  have h2 : everyE (lastOf []) emptyS wChg.edits = 0 := w_every
  unfold appE
  rw [h1, firstE_skip, h2, firstE_skip, h3, firstE_skip, h4, firstE_skip, h5, firstE_skip]; rfl
theorem w_new : newRevs ⟨[], []⟩ wChg = [wRev] := rfl
theorem w_chgW : ChgW wChg := ⟨by decide, by decide, fun x hx => by
  have : x = wEdt := by simpa [wChg] using hx
  subst this; decide, fun r hr => by simp [wChg] at hr⟩

set_option maxRecDepth 100000 in
set_option maxHeartbeats 4000000 in
theorem awake_any (w : World) : Calls Tryd.prog 7 #[] w fun e w' => e = .returned (.bool true) ∧ Below w.heap.size w w' := by
  have HG : Hid (greatest [wRev] wPath (fun _ => true) = some wRev) := Lib.hid (by simp [greatest, wRev])
  go_enter Tryd.func7, Tryd.ntmps7
  go_wp2_with fail
  have hB1 : Blk ((w.alloc (.cells #[.int .i64 1, .bool false, .bool false, .bool false] 40)).alloc (.cells #[.string ⟨#[47, 47, 97, 47, 120]⟩, .int .i64 1, .int .i64 1, .bool false, .bool false, .bool false, .int .u64 0, .int .i64 0, .int .i64 0, .string ⟨#[]⟩, .int .i64 0, .int .i64 0] 48)) (w.heap.size + 1) 48 ([wEdt].flatMap Edt.cells) := blk_at (cs := [wEdt].flatMap Edt.cells) (by simp)
  have hb1 : Below w.heap.size w ((w.alloc (.cells #[.int .i64 1, .bool false, .bool false, .bool false] 40)).alloc (.cells #[.string ⟨#[47, 47, 97, 47, 120]⟩, .int .i64 1, .int .i64 1, .bool false, .bool false, .bool false, .int .u64 0, .int .i64 0, .int .i64 0, .string ⟨#[]⟩, .int .i64 0, .int .i64 0] 48)) := below_alloc' (below_alloc' (Below.refl _ _) _) _
  generalize (w.alloc (.cells #[.int .i64 1, .bool false, .bool false, .bool false] 40)).alloc (.cells #[.string ⟨#[47, 47, 97, 47, 120]⟩, .int .i64 1, .int .i64 1, .bool false, .bool false, .bool false, .int .u64 0, .int .i64 0, .int .i64 0, .string ⟨#[]⟩, .int .i64 0, .int .i64 0] 48) = W1 at hB1 hb1 ⊢
  have HAA := Lib.hid (append_any ⟨[], []⟩ wChg (.slice none 0 0) (.slice none 0 0) (.slice (some ⟨w.heap.size + 1, 0, none⟩) 1 1) (.slice none 0 0) W1 (Revs.nil_ _) (Rcds.nil_ _) (hB1.row (size := 12) (n := 1) rfl (by unfold maxLen; omega)) (Rcds.nil_ _) depW_nil w_chgW)
  have HB1 := Lib.hid hb1
  clear hB1 hb1
  refine HAA.out.mono ?_
  rintro e V2 ⟨hb2, ⟨hn0, rfl⟩ | ⟨h0, dv', dr', rs, rfl, hR', hQ', hpm', hpw', hf1, hf2⟩⟩
  · exact absurd w_app hn0
  · have hrs : rs = [] := by simpa [wChg] using hpm'
    subst hrs
    rw [w_new] at hR'
    obtain ⟨A5, c5, rfl, -⟩ := id hR'
    obtain ⟨A6, c6, rfl, -⟩ := id hQ'
    have hR1 : Revs V2 (.slice A5 1 c5) [wRev] := hR'
    have hQ1 : Rcds V2 (.slice A6 0 c6) [] := hQ'
    have hb3 := below_next HB1.out hb2
    have hA3 : Below V2.heap.size V2 (V2.alloc (.cells #[.slice A5 1 c5, .slice A6 0 c6] 31)) := (Below.refl _ _).alloc (Nat.le_refl _) _
    have hx3 := blk_new V2 [.slice A5 1 c5, .slice A6 0 c6] 31
    clear hR' hQ' hpm' hpw' hf1 hf2 hb2 h0
    go_upto_region 3 with fail
    generalize V2.alloc (.cells #[.slice A5 1 c5, .slice A6 0 c6] 31) = V3 at hA3 hx3 ⊢
    obtain ⟨z0, z1, -, -⟩ := box2 hx3
    have hLa := last_any [wRev] wPath (.slice A5 1 c5) (.slice A6 0 c6) V3 (hR1.below hA3) (by decide)
    rw [HG.out] at hLa
    have HLA : Hid (Calls Tryd.prog 15 #[.agg #[.slice A5 1 c5, .slice A6 0 c6], .string ⟨#[47, 47, 97, 47, 120]⟩] V3 fun e w' => e = .returned (.tuple #[.agg #[.string ⟨#[47, 47, 97, 47, 120]⟩, .int .i64 1, .int .i64 5, .int .i64 1, .int .i64 1, .bool false, .bool false, .bool false, .int .u64 0, .int .i64 0, .string ⟨#[]⟩, .int .i64 0], .bool true]) ∧ Below V3.heap.size V3 w') := Lib.hid hLa
    have HX3 := Lib.hid hx3
    have HS3 : Hid (Below w.heap.size w V3 ∧ Revs V3 (.slice A5 1 c5) [wRev] ∧ Rcds V3 (.slice A6 0 c6) []) := Lib.hid ⟨below_next hb3 hA3, hR1.below hA3, hQ1.below hA3⟩
    clear hLa hx3 hb3 hA3 hR1 hQ1
    go_wp2_with fail
    refine HLA.out.mono ?_
    rintro e V4 ⟨rfl, hb4⟩
    clear z0 z1
    have HB4 := Lib.hid hb4
    clear hb4
    have hA5 : Below V4.heap.size V4 (V4.alloc (.cells #[.string ⟨#[47, 47, 97, 47, 120]⟩, .int .i64 1, .int .i64 5, .int .i64 1, .int .i64 1, .bool false, .bool false, .bool false, .int .u64 0, .int .i64 0, .string ⟨#[]⟩, .int .i64 0] 45)) := (Below.refl _ _).alloc (Nat.le_refl _) _
    have hx5 := blk_new V4 [.string ⟨#[47, 47, 97, 47, 120]⟩, .int .i64 1, .int .i64 5, .int .i64 1, .int .i64 1, .bool false, .bool false, .bool false, .int .u64 0, .int .i64 0, .string ⟨#[]⟩, .int .i64 0] 45
    go_upto_region 4 with fail
    generalize V4.alloc (.cells #[.string ⟨#[47, 47, 97, 47, 120]⟩, .int .i64 1, .int .i64 5, .int .i64 1, .int .i64 1, .bool false, .bool false, .bool false, .int .u64 0, .int .i64 0, .string ⟨#[]⟩, .int .i64 0] 45) = V5 at hA5 hx5 ⊢
    have hb35 := below_next HB4.out hA5
    obtain ⟨-, y1, y2, -, -, -, -, -, -, -, -, -⟩ := box12 hx5
    obtain ⟨z0, z1, -, -⟩ := box2 (HX3.out.below hb35 HX3.out.lt)
    have HV := Lib.hid (valid_one wRev (.slice A5 1 c5) (.slice A6 0 c6) V5 (HS3.out.2.1.below hb35) (HS3.out.2.2.below hb35) (by decide) wChg rfl w_app w_new w_chgW)
    have HB5 := Lib.hid (below_next HS3.out.1 hb35)
    clear hb35 hA5 hx5
    go_wp2_with fail
    refine HV.out.mono ?_
    rintro e V6 ⟨rfl, hb6⟩
    have HB6 := Lib.hid hb6
    clear hb6 y1 y2 z0 z1
    go_wp2_with fail
    go_ret
    exact ⟨rfl, below_next HB5.out HB6.out⟩
end Go.Proofs.YtmhmnchdhacdbaaDoor
/- Region 1 of HistoryOnce: Small of the changes and one more. -/
namespace Go.Proofs.YtmhmnchdhacdbaaDoor
open Go.RowKit
set_option linter.unusedVariables false
set_option linter.unusedSimpArgs false

theorem chgElem : ElemOk Tryd.prog 22 26 5 88 := elemOk_of Tryd.underlying22 (z := .agg #[.int .i64 0, .string ⟨#[]⟩, .string ⟨#[]⟩, .slice none 0 0, .slice none 0 0]) (by kernel_rfl) rfl (by decide)
theorem chv_one {w : World} {ps : List ChV} (h : ∀ p ∈ ps, p.ok w) : ∀ u ∈ ps.flatMap ChV.cells, u.oneCell' = true := by
  intro u hu
  obtain ⟨p, hp, hc⟩ := List.mem_flatMap.1 hu
  obtain ⟨⟨A, c, e, -⟩, ⟨A2, c2, e2, -⟩⟩ := h p hp
  simp only [ChV.cells, List.mem_cons, List.not_mem_nil, or_false] at hc
  rcases hc with rfl | rfl | rfl | rfl | rfl
  · rfl
  · rfl
  · rfl
  · rw [e]; rfl
  · rw [e2]; rfl
theorem below_nogrow {w w' : World} {row : Option Nat} (h : w.grownBy w' row) (hr : row = none) : Below w.heap.size w w' := ⟨h.os, h.tape, h.output, h.size, fun k hk => h.block k hk (by rw [hr]; exact fun e => by cases e)⟩
theorem chgs_own {w V : World} {base : Nat} {e : TypeId} {v : Value} {ps : List ChV} {p : ChV} (h : w.ownsRow base e 5 v (ps.length + 1) (ps.flatMap ChV.cells ++ p.cells)) (hV : Below V.heap.size V w) (h1 : ∀ q ∈ ps, q.ok V) (h2 : p.ok V) : Chgs w v (ps ++ [p]) := by
  refine ⟨?_, fun q hq => ?_⟩
  · rw [List.length_append, List.flatMap_append, List.flatMap_cons, List.flatMap_nil, List.append_nil]
    exact Row.of_own h
  · rcases List.mem_append.1 hq with hq | hq
    · exact ChV.ok_below (h1 q hq) hV
    · rw [List.mem_singleton] at hq; subst hq; exact ChV.ok_below h2 hV
/-- What Small is asked of, as a test. -/
def sizeOk (ps : List ChV) : Prop := ps.length * 88 ≤ 140737488355328 ∧ (∀ p ∈ ps, chgLen p.1 ≤ 10000000000000) ∧ ∀ p ∈ ps, (∀ x ∈ p.1.edits, x.path.size ≤ 140737488355328 ∧ x.frm.size ≤ 140737488355328) ∧ ∀ x ∈ p.1.recs, x.frm.size ≤ 140737488355328 ∧ x.to.size ≤ 140737488355328

end Go.Proofs.YtmhmnchdhacdbaaDoor
/- Region 3 of HistoryOnce: the change appended to what the changes make. -/
namespace Go.Proofs.YtmhmnchdhacdbaaDoor
open Go.RowKit
set_option linter.unusedVariables false
set_option linter.unusedSimpArgs false

/-- What region 3 of HistoryOnce leaves. -/
def R3Post (V w' : World) (g7 : Nat) (err : Int) (c : Chg) : Prop :=
  Below V.heap.size V w' ∧ V.heap.size ≤ g7 ∧ (err ≠ 0 ∨ err = 0 ∧ ∃ d rs dv dr, appE d c = 0 ∧ Blk w' g7 31 [dv, dr] ∧ DepAt w' dv dr ⟨newRevs d c, rs⟩ ∧ Fresh V.heap.size dv ∧ Fresh V.heap.size dr)
/-- What Append leaves, both ways in one form. -/
def ApU (w : World) (d : Dep) (c : Chg) (e : Ending) (w' : World) : Prop :=
  ∃ A5 n5 c5 A6 n6 c6 err, e = .returned (.tuple #[.agg #[.slice A5 n5 c5, .slice A6 n6 c6], .int .i64 err]) ∧ Below w.heap.size w w' ∧ err = appE d c ∧ (err ≠ 0 ∧ A5 = none ∧ n5 = 0 ∧ c5 = 0 ∧ A6 = none ∧ n6 = 0 ∧ c6 = 0 ∨ err = 0 ∧ appE d c = 0 ∧ ∃ rs, rs.Perm (d.recs ++ c.recs) ∧ rs.Pairwise (fun a b => 0 ≤ cmpR b a) ∧ DepAt w' (.slice A5 n5 c5) (.slice A6 n6 c6) ⟨newRevs d c, rs⟩) ∧ Fresh w.heap.size (.slice A5 n5 c5) ∧ Fresh w.heap.size (.slice A6 n6 c6)
theorem append_u (d : Dep) (c : Chg) (dv dr ev rv : Value) (w : World) (hd : DepAt w dv dr d) (hE : Edts w ev c.edits) (hC : Rcds w rv c.recs) (hW : ChgW c) :
    Calls Tryd.prog 10 #[.agg #[dv, dr], .agg #[.int .i64 c.num, .string c.client, .string c.text, ev, rv]] w (ApU w d c) :=
  (append_any d c dv dr ev rv w hd.1 hd.2.1 hE hC hd.2.2 hW).mono fun e w' h => by
    obtain ⟨hb, ⟨h0, rfl⟩ | ⟨h0, dv', dr', rs, rfl, h1, h2, h3, h4, h5, h6⟩⟩ := h
    · exact ⟨none, 0, 0, none, 0, 0, appE d c, rfl, hb, rfl, .inl ⟨h0, rfl, rfl, rfl, rfl, rfl, rfl⟩, fun x e => (by cases e), fun x e => (by cases e)⟩
    · obtain ⟨A5, c5, e5, -⟩ := id h1
      obtain ⟨A6, c6, e6, -⟩ := id h2
      subst e5 e6
      exact ⟨_, _, _, _, _, _, 0, rfl, hb, h0.symm, .inr ⟨rfl, h0, rs, h3, h4, h1, h2, appE_keeps hd.2.2 hW h0 rs h3⟩, h5, h6⟩
theorem r3_any {V w6 : World} {c : Chg} {d : Dep} {A5 A6 : Option Addr} {n5 n6 c5 c6 : Nat} {err : Int} (h : Below V.heap.size V w6) (f1 : Fresh V.heap.size (.slice A5 n5 c5)) (f2 : Fresh V.heap.size (.slice A6 n6 c6)) (hd : err ≠ 0 ∧ A5 = none ∧ n5 = 0 ∧ c5 = 0 ∧ A6 = none ∧ n6 = 0 ∧ c6 = 0 ∨ err = 0 ∧ appE d c = 0 ∧ ∃ rs, rs.Perm (d.recs ++ c.recs) ∧ rs.Pairwise (fun a b => 0 ≤ cmpR b a) ∧ DepAt w6 (.slice A5 n5 c5) (.slice A6 n6 c6) ⟨newRevs d c, rs⟩) :
    R3Post V (w6.alloc (.cells #[.slice A5 n5 c5, .slice A6 n6 c6] 31)) w6.heap.size err c := by
  refine ⟨below_alloc' h _, h.size, ?_⟩
  rcases hd with h1 | ⟨h1, h2, rs, -, -, h3⟩
  · exact .inl h1.1
  · exact .inr ⟨h1, d, rs, _, _, h2, blk_new w6 _ _, h3.below ((Below.refl _ _).alloc (Nat.le_refl _) _), f1, f2⟩

theorem r3_set {V X w6 : World} {c : Chg} {d : Dep} {A5 A6 : Option Addr} {n5 n6 c5 c6 g7 : Nat} {err : Int} {a b : Value} (h : Below V.heap.size V w6) (hb : Blk w6 g7 31 [a, b]) (hg : V.heap.size ≤ g7) (hX : g7 < X.heap.size) (f1 : Fresh X.heap.size (.slice A5 n5 c5)) (f2 : Fresh X.heap.size (.slice A6 n6 c6))
    (hd : err ≠ 0 ∧ A5 = none ∧ n5 = 0 ∧ c5 = 0 ∧ A6 = none ∧ n6 = 0 ∧ c6 = 0 ∨ err = 0 ∧ appE d c = 0 ∧ ∃ rs, rs.Perm (d.recs ++ c.recs) ∧ rs.Pairwise (fun a b => 0 ≤ cmpR b a) ∧ DepAt w6 (.slice A5 n5 c5) (.slice A6 n6 c6) ⟨newRevs d c, rs⟩) :
    R3Post V ((w6.setCell ⟨g7, 0, none⟩ (.slice A5 n5 c5)).setCell ⟨g7, 1, none⟩ (.slice A6 n6 c6)) g7 err c := by
  have n1 : (Value.slice A5 n5 c5).ownBlock ≠ some g7 := fun e => by have := f1 _ e; omega
  have n2 : (Value.slice A6 n6 c6).ownBlock ≠ some g7 := fun e => by have := f2 _ e; omega
  refine ⟨(h.setCell (p := ⟨g7, 0, none⟩) hg _).setCell (p := ⟨g7, 1, none⟩) hg _, hg, ?_⟩
  rcases hd with h1 | ⟨h1, h2, rs, -, -, h3⟩
  · exact .inl h1.1
  · exact .inr ⟨h1, d, rs, _, _, h2, (hb.set_ 0 _).set_ 1 _, (h3.setCell n1 n2).setCell n1 n2, fun x e => Nat.le_trans hg (Nat.le_trans (Nat.le_of_lt hX) (f1 x e)), fun x e => Nat.le_trans hg (Nat.le_trans (Nat.le_of_lt hX) (f2 x e))⟩

end Go.Proofs.YtmhmnchdhacdbaaDoor
/- HistoryOnce: the walk. -/
namespace Go.Proofs.YtmhmnchdhacdbaaDoor
open Go.RowKit
set_option linter.unusedVariables false
set_option linter.unusedSimpArgs false

theorem smallL_init {l : List Chg} {c : Chg} (h : smallL (l ++ [c])) : smallL l ∧ chgSm c ∧ chgLen c ≤ 200 := by
  obtain ⟨h1, h2, h3⟩ := h
  rw [lenSum_snoc] at h3
  rw [List.length_append] at h2
  exact ⟨⟨fun x hx => h1 x (List.mem_append_left _ hx), by simp at h2; omega, by omega⟩, h1 c (by simp), by omega⟩
end Go.Proofs.YtmhmnchdhacdbaaDoor
/- The arguments of the statements, opened: changes, edits, records. -/
namespace Go.Proofs.YtmhmnchdhacdbaaDoor
open Go.RowKit Go.ChangeShapes Go.WideShapes Go.Deep
set_option linter.unusedVariables false
set_option linter.unusedSimpArgs false

section
variable {H : Type} {enc : TypeId × Value → H} {P : Program} {w : World} {spare : Nat → Bool} {held : Bool}
/-- No part of d is too great for memory. -/
def Wt (P : Program) (e : TypeId) (d : DataW H) : Prop := ∀ x ∈ d.weights P e, x ≤ reachBytes
/-- Whatever reads as a value of type e is the cells of some x, of which Pr holds. -/
def Rd {α : Type} (enc : TypeId × Value → H) (P : Program) (w : World) (spare : Nat → Bool) (held : Bool) (e : TypeId) (f : α → List Value) (Pr : α → Prop) : Prop :=
  ∀ n cs y, DataW.trod enc P w 0 spare held n e cs = some y → Wt P e y.1 → ∃ x, cs = f x ∧ Pr x
theorem rd_string {t : TypeId} (ht : P.underlying t = some .string) : Rd enc P w spare held t (fun s : ByteArray => [.string s]) (fun s => s.size ≤ reachBytes) := fun n cs y h hw => by
  obtain ⟨s, e, hy, hs⟩ := DataW.trod_string ht h
  subst hy
  exact ⟨s, e, hw _ (by simp [DataW.weights])⟩
theorem rd_int {t : TypeId} {k : IntKind} (ht : P.underlying t = some (.int k)) : Rd enc P w spare held t (fun n : Int => [.int k n]) (fun n => (Lit.int k n).wf = true) := fun n cs y h _ => by
  obtain ⟨s, e, _, hs⟩ := DataW.trod_int ht h
  exact ⟨s, e, hs⟩
theorem rd_bool {t : TypeId} (ht : P.underlying t = some .bool) : Rd enc P w spare held t (fun b : Bool => [.bool b]) (fun _ => True) := fun n cs y h _ => by
  obtain ⟨s, e, _⟩ := DataW.trod_bool ht h
  exact ⟨s, e, trivial⟩
theorem choose_list {α : Type} {p : Nat → α → Prop} : ∀ (n : Nat), (∀ i, i < n → ∃ x, p i x) → ∃ l : List α, l.length = n ∧ ∀ i (h : i < l.length), p i l[i]
  | 0, _ => ⟨[], rfl, fun i h => absurd h (by simp)⟩
  | n + 1, h => by
    obtain ⟨l, hl, hp⟩ := choose_list n (fun i hi => h i (by omega))
    obtain ⟨x, hx⟩ := h n (by omega)
    refine ⟨l ++ [x], by simp [hl], fun i hi => ?_⟩
    by_cases hil : i < l.length
    · rw [List.getElem_append_left hil]; exact hp i hil
    · have : i = n := by simp at hi; omega
      subst this
      rw [List.getElem_append_right (by omega)]; simpa using hx
theorem wts_all {P : Program} {e : TypeId} {l : List (DataW H)} {d : DataW H} {x : Nat} (hd : d ∈ l) (hx : x ∈ d.weights P e) : x ∈ DataW.weightsAll P e l := by
  induction l with
  | nil => cases hd
  | cons a l ih =>
    rw [DataW.weightsAll]
    rcases List.mem_cons.1 hd with rfl | hd
    · exact List.mem_append_left _ hx
    · exact List.mem_append_right _ (ih hd)
/-- A field of a struct. -/
theorem rd_field {e : TypeId} {fs : Array Field} {cs : List Value} {n : Nat} {y : DataW H × List MemPlace} (he : P.underlying e = some (.struct fs)) (h : DataW.trod enc P w 0 spare held n e cs = some y) (hw : Wt P e y.1) {i : Nat} {f : Field} (hf : fs[i]? = some f) :
    ∃ n' y', DataW.trod enc P w 0 spare held n' f.type ((cs.drop f.offset).take (P.cellsOf f.type)) = some y' ∧ Wt P f.type y'.1 := by
  obtain ⟨ys, n', _, hy, _, hlen, hfld⟩ := DataW.trod_struct he h
  have := hfld i f hf
  have hi := (Array.getElem?_eq_some_iff.1 hf).1
  rw [List.getElem?_eq_getElem (by omega)] at this
  refine ⟨n', _, this, fun x hx => hw x ?_⟩
  rw [hy]
  simp only [DataW.weights, he]
  exact DataW.weights_mem_each (j := i) (t := f.type) (by simp [hf]) (by rw [List.getElem?_map, List.getElem?_eq_getElem (by omega)]; rfl) x hx
theorem rd_field' {e T : TypeId} {fs : Array Field} {cs : List Value} {n off k : Nat} {y : DataW H × List MemPlace} (he : P.underlying e = some (.struct fs)) (h : DataW.trod enc P w 0 spare held n e cs = some y) (hw : Wt P e y.1) {i : Nat} {f : Field} (hf : fs[i]? = some f) (hT : f.type = T) (ho : f.offset = off) (hk : P.cellsOf T = k) :
    ∃ n' y', DataW.trod enc P w 0 spare held n' T ((cs.drop off).take k) = some y' ∧ Wt P T y'.1 := by
  obtain ⟨n', y', h', hw'⟩ := rd_field he h hw hf
  rw [hT] at hw'
  rw [hT, ho, hk] at h'
  exact ⟨n', y', h', hw'⟩
theorem rd_len {e : TypeId} {fs : Array Field} {cs : List Value} {n : Nat} {y : DataW H × List MemPlace} (he : P.underlying e = some (.struct fs)) (h : DataW.trod enc P w 0 spare held n e cs = some y) : cs.length = P.cellsOf e := by
  obtain ⟨ys, n', _, _, hl, _, _⟩ := DataW.trod_struct he h
  exact hl
/-- A slice. -/
theorem rd_slice {α : Type} {f : α → List Value} {Pr : α → Prop} {k : Nat} {t e : TypeId} (hf : ∀ x, (f x).length = k) (hk : 0 < k) (ht : P.underlying t = some (.slice e)) (hC : P.cellsOf e = k) (hR : Rd enc P w spare held e f Pr) :
    ∀ n cs y, DataW.trod enc P w 0 spare held n t cs = some y → Wt P t y.1 → ∃ (v : Value) (l : List α), cs = [v] ∧ l.length * P.bytesOf e ≤ reachBytes ∧ (∃ A c, v = .slice A l.length c) ∧ Row w k v l.length (l.flatMap f) ∧ ∀ x ∈ l, Pr x := by
  intro n cs y h hw
  rcases open_slice ht h with ⟨rfl, _⟩ | ⟨x, len, cap, m, nf, D, Pl, rfl, _, hl, hm, hmm, hy, hi⟩
  · exact ⟨_, [], rfl, by simp, ⟨none, 0, rfl⟩, Row.nil_ w k, by simp⟩
  · have hnm : len ≤ m := by rw [hmm]; split <;> omega
    obtain ⟨l, hll, hp⟩ := choose_list (α := α) (p := fun i q => (∀ j u, (f q)[j]? = some u → w.cell? (x.add (i * k + j)) = some u) ∧ Pr q) len (fun i hin => by
      obtain ⟨cs', hcc, htr⟩ := hi i (by omega)
      rw [hC] at hcc
      obtain ⟨_, hcl, hat⟩ := World.cells?_some hcc
      obtain ⟨q, rfl, hq⟩ := hR _ _ _ htr (fun z hz => hw z (by
        rw [hy]
        simp only [DataW.weights, ht]
        exact List.mem_cons_of_mem _ (List.mem_append_left _ (wts_all (List.mem_map.2 ⟨i, List.mem_range.2 hin, rfl⟩) hz))))
      refine ⟨q, fun j u hu => ?_, hq⟩
      have hj : j < k := by rw [← hf q]; exact (List.getElem?_eq_some_iff.1 hu).1
      have := hat j (by omega)
      rw [add_add'] at this
      rw [this]
      first | exact hu | (simpa using hu))
    refine ⟨_, l, rfl, ?_, ⟨some x, cap, by rw [hll]⟩, ?_, fun q hq => ?_⟩
    · have := hw ((len + (m - len)) * P.bytesOf e) (by rw [hy]; simp [DataW.weights, ht])
      rw [hll]
      exact Nat.le_trans (Nat.mul_le_mul_right _ (by omega)) this
    · rw [hll]
      refine ⟨_, _, rfl, hl, hm, by rw [flat_len f k hf, hll], fun h => (by cases h), fun hn => ⟨x, rfl, ?_, fun j u hu => ?_⟩⟩
      · have h0 : 0 < (f (l[0]'(by omega))).length := by rw [hf]; exact hk
        have := (hp 0 (by omega)).1 0 _ (List.getElem?_eq_getElem h0)
        exact (add_block x _) ▸ cell_lt this
      · have hjl : j < len * k := by have := (List.getElem?_eq_some_iff.1 hu).1; rwa [flat_len f k hf, hll] at this
        have hq : j / k < l.length := by rw [hll, Nat.div_lt_iff_lt_mul hk]; exact hjl
        have hr : j % k < k := Nat.mod_lt _ hk
        have e1 : j / k * k + j % k = j := by rw [Nat.mul_comm]; exact Nat.div_add_mod j k
        have e2 := flat_get f k hf l (j / k) (j % k) hq hr
        rw [e1, hu] at e2
        have := (hp (j / k) hq).1 (j % k) u e2.symm
        rwa [e1] at this
    · obtain ⟨i, hil, rfl⟩ := List.mem_iff_getElem.1 hq
      exact (hp i hil).2
end
section
variable {H : Type} {enc : TypeId × Value → H}
theorem rd_ty (w : World) (spare : Nat → Bool) (held : Bool) : Rd enc Tryd.prog w spare held 40 Ty.cells (fun _ => True) := by
  intro n cs y h hw
  have hl : cs.length = 4 := (rd_len Tryd.underlying40 h).trans (by kernel_rfl)
  obtain ⟨n0, y0, h0, wh0⟩ := rd_field' (T := 3) (off := 0) (k := 1) Tryd.underlying40 h hw (i := 0) rfl rfl rfl (by kernel_rfl)
  obtain ⟨a0, e0, p0⟩ := rd_int Tryd.underlying3 _ _ _ h0 wh0
  obtain ⟨n1, y1, h1, wh1⟩ := rd_field' (T := 4) (off := 1) (k := 1) Tryd.underlying40 h hw (i := 1) rfl rfl rfl (by kernel_rfl)
  obtain ⟨a1, e1, p1⟩ := rd_bool Tryd.underlying4 _ _ _ h1 wh1
  obtain ⟨n2, y2, h2, wh2⟩ := rd_field' (T := 4) (off := 2) (k := 1) Tryd.underlying40 h hw (i := 2) rfl rfl rfl (by kernel_rfl)
  obtain ⟨a2, e2, p2⟩ := rd_bool Tryd.underlying4 _ _ _ h2 wh2
  obtain ⟨n3, y3, h3, wh3⟩ := rd_field' (T := 4) (off := 3) (k := 1) Tryd.underlying40 h hw (i := 3) rfl rfl rfl (by kernel_rfl)
  obtain ⟨a3, e3, p3⟩ := rd_bool Tryd.underlying4 _ _ _ h3 wh3
  clear h hw h0 h1 h2 h3 wh0 wh1 wh2 wh3
  match cs, hl with
  | [u0, u1, u2, u3], _ =>
    have e0' : [u0] = _ := e0
    have e1' : [u1] = _ := e1
    have e2' : [u2] = _ := e2
    have e3' : [u3] = _ := e3
    clear e0
    clear e1
    clear e2
    clear e3
    simp only [List.cons.injEq, and_true] at e0' e1' e2' e3'
    subst e0' e1' e2' e3'
    exact ⟨⟨a0, a1, a2, a3⟩, rfl, trivial⟩
theorem rd_con (w : World) (spare : Nat → Bool) (held : Bool) : Rd enc Tryd.prog w spare held 43 (fun p : Int × Int => [.int .u64 p.1, .int .i64 p.2]) (fun _ => True) := by
  intro n cs y h hw
  have hl : cs.length = 2 := (rd_len Tryd.underlying43 h).trans (by kernel_rfl)
  obtain ⟨n0, y0, h0, wh0⟩ := rd_field' (T := 41) (off := 0) (k := 1) Tryd.underlying43 h hw (i := 0) rfl rfl rfl (by kernel_rfl)
  obtain ⟨a0, e0, p0⟩ := rd_int Tryd.underlying41 _ _ _ h0 wh0
  obtain ⟨n1, y1, h1, wh1⟩ := rd_field' (T := 3) (off := 1) (k := 1) Tryd.underlying43 h hw (i := 1) rfl rfl rfl (by kernel_rfl)
  obtain ⟨a1, e1, p1⟩ := rd_int Tryd.underlying3 _ _ _ h1 wh1
  clear h hw h0 h1 wh0 wh1
  match cs, hl with
  | [u0, u1], _ =>
    have e0' : [u0] = _ := e0
    have e1' : [u1] = _ := e1
    clear e0
    clear e1
    simp only [List.cons.injEq, and_true] at e0' e1'
    subst e0' e1'
    exact ⟨(a0, a1), rfl, trivial⟩
theorem rd_edt (w : World) (spare : Nat → Bool) (held : Bool) : Rd enc Tryd.prog w spare held 48 Edt.cells (fun x => x.path.size ≤ reachBytes ∧ x.frm.size ≤ reachBytes) := by
  intro n cs y h hw
  have hl : cs.length = 12 := (rd_len Tryd.underlying48 h).trans (by kernel_rfl)
  obtain ⟨n0, y0, h0, wh0⟩ := rd_field' (T := 9) (off := 0) (k := 1) Tryd.underlying48 h hw (i := 0) rfl rfl rfl (by kernel_rfl)
  obtain ⟨a0, e0, p0⟩ := rd_string Tryd.underlying9 _ _ _ h0 wh0
  obtain ⟨n1, y1, h1, wh1⟩ := rd_field' (T := 3) (off := 1) (k := 1) Tryd.underlying48 h hw (i := 1) rfl rfl rfl (by kernel_rfl)
  obtain ⟨a1, e1, p1⟩ := rd_int Tryd.underlying3 _ _ _ h1 wh1
  obtain ⟨n2, y2, h2, wh2⟩ := rd_field' (T := 40) (off := 2) (k := 4) Tryd.underlying48 h hw (i := 2) rfl rfl rfl (by kernel_rfl)
  obtain ⟨a2, e2, p2⟩ := rd_ty w spare held _ _ _ h2 wh2
  obtain ⟨n3, y3, h3, wh3⟩ := rd_field' (T := 43) (off := 6) (k := 2) Tryd.underlying48 h hw (i := 3) rfl rfl rfl (by kernel_rfl)
  obtain ⟨a3, e3, p3⟩ := rd_con w spare held _ _ _ h3 wh3
  obtain ⟨n4, y4, h4, wh4⟩ := rd_field' (T := 3) (off := 8) (k := 1) Tryd.underlying48 h hw (i := 4) rfl rfl rfl (by kernel_rfl)
  obtain ⟨a4, e4, p4⟩ := rd_int Tryd.underlying3 _ _ _ h4 wh4
  obtain ⟨n5, y5, h5, wh5⟩ := rd_field' (T := 9) (off := 9) (k := 1) Tryd.underlying48 h hw (i := 5) rfl rfl rfl (by kernel_rfl)
  obtain ⟨a5, e5, p5⟩ := rd_string Tryd.underlying9 _ _ _ h5 wh5
  obtain ⟨n6, y6, h6, wh6⟩ := rd_field' (T := 3) (off := 10) (k := 1) Tryd.underlying48 h hw (i := 6) rfl rfl rfl (by kernel_rfl)
  obtain ⟨a6, e6, p6⟩ := rd_int Tryd.underlying3 _ _ _ h6 wh6
  obtain ⟨n7, y7, h7, wh7⟩ := rd_field' (T := 3) (off := 11) (k := 1) Tryd.underlying48 h hw (i := 7) rfl rfl rfl (by kernel_rfl)
  obtain ⟨a7, e7, p7⟩ := rd_int Tryd.underlying3 _ _ _ h7 wh7
  clear h hw h0 h1 h2 h3 h4 h5 h6 h7 wh0 wh1 wh2 wh3 wh4 wh5 wh6 wh7
  match cs, hl with
  | [u0, u1, u2, u3, u4, u5, u6, u7, u8, u9, u10, u11], _ =>
    have e0' : [u0] = _ := e0
    have e1' : [u1] = _ := e1
    have e2' : [u2, u3, u4, u5] = _ := e2
    have e3' : [u6, u7] = _ := e3
    have e4' : [u8] = _ := e4
    have e5' : [u9] = _ := e5
    have e6' : [u10] = _ := e6
    have e7' : [u11] = _ := e7
    clear e0
    clear e1
    clear e2
    clear e3
    clear e4
    clear e5
    clear e6
    clear e7
    simp only [Ty.cells, List.cons.injEq, and_true] at e0' e1' e2' e3' e4' e5' e6' e7'
    obtain ⟨b0, b1, b2, b3⟩ := e2'
    obtain ⟨b4, b5⟩ := e3'
    subst e0' e1' b0 b1 b2 b3 b4 b5 e4' e5' e6' e7'
    exact ⟨⟨a0, a1, a2, a3.1, a3.2, a4, a5, a6, a7⟩, rfl, p0, p5⟩
theorem rd_rcd (w : World) (spare : Nat → Bool) (held : Bool) : Rd enc Tryd.prog w spare held 50 Rcd.cells (fun x => x.frm.size ≤ reachBytes ∧ x.to.size ≤ reachBytes ∧ x.last ≤ 9223372036854775807) := by
  intro n cs y h hw
  have hl : cs.length = 6 := (rd_len Tryd.underlying50 h).trans (by kernel_rfl)
  obtain ⟨n0, y0, h0, wh0⟩ := rd_field' (T := 9) (off := 0) (k := 1) Tryd.underlying50 h hw (i := 0) rfl rfl rfl (by kernel_rfl)
  obtain ⟨a0, e0, p0⟩ := rd_string Tryd.underlying9 _ _ _ h0 wh0
  obtain ⟨n1, y1, h1, wh1⟩ := rd_field' (T := 3) (off := 1) (k := 1) Tryd.underlying50 h hw (i := 1) rfl rfl rfl (by kernel_rfl)
  obtain ⟨a1, e1, p1⟩ := rd_int Tryd.underlying3 _ _ _ h1 wh1
  obtain ⟨n2, y2, h2, wh2⟩ := rd_field' (T := 3) (off := 2) (k := 1) Tryd.underlying50 h hw (i := 2) rfl rfl rfl (by kernel_rfl)
  obtain ⟨a2, e2, p2⟩ := rd_int Tryd.underlying3 _ _ _ h2 wh2
  obtain ⟨n3, y3, h3, wh3⟩ := rd_field' (T := 9) (off := 3) (k := 1) Tryd.underlying50 h hw (i := 3) rfl rfl rfl (by kernel_rfl)
  obtain ⟨a3, e3, p3⟩ := rd_string Tryd.underlying9 _ _ _ h3 wh3
  obtain ⟨n4, y4, h4, wh4⟩ := rd_field' (T := 3) (off := 4) (k := 1) Tryd.underlying50 h hw (i := 4) rfl rfl rfl (by kernel_rfl)
  obtain ⟨a4, e4, p4⟩ := rd_int Tryd.underlying3 _ _ _ h4 wh4
  obtain ⟨n5, y5, h5, wh5⟩ := rd_field' (T := 3) (off := 5) (k := 1) Tryd.underlying50 h hw (i := 5) rfl rfl rfl (by kernel_rfl)
  obtain ⟨a5, e5, p5⟩ := rd_int Tryd.underlying3 _ _ _ h5 wh5
  clear h hw h0 h1 h2 h3 h4 h5 wh0 wh1 wh2 wh3 wh4 wh5
  match cs, hl with
  | [u0, u1, u2, u3, u4, u5], _ =>
    have e0' : [u0] = _ := e0
    have e1' : [u1] = _ := e1
    have e2' : [u2] = _ := e2
    have e3' : [u3] = _ := e3
    have e4' : [u4] = _ := e4
    have e5' : [u5] = _ := e5
    clear e0
    clear e1
    clear e2
    clear e3
    clear e4
    clear e5
    simp only [List.cons.injEq, and_true] at e0' e1' e2' e3' e4' e5'
    subst e0' e1' e2' e3' e4' e5'
    exact ⟨⟨a0, a1, a2, a3, a4, a5⟩, rfl, p0, p3, by simp [Lit.wf] at p2; show a2 ≤ 9223372036854775807; omega⟩
/-- What the reading of a change gives. -/
def ChV.rd (w : World) (p : ChV) : Prop := p.ok w ∧ p.1.edits.length * 96 ≤ reachBytes ∧ p.1.recs.length * 64 ≤ reachBytes ∧ (∃ A c, p.2.1 = .slice A p.1.edits.length c) ∧ (∃ A c, p.2.2 = .slice A p.1.recs.length c) ∧
  (∀ x ∈ p.1.edits, x.path.size ≤ reachBytes ∧ x.frm.size ≤ reachBytes) ∧ ∀ x ∈ p.1.recs, x.frm.size ≤ reachBytes ∧ x.to.size ≤ reachBytes ∧ x.last ≤ 9223372036854775807
theorem rd_chg (w : World) (spare : Nat → Bool) (held : Bool) : Rd enc Tryd.prog w spare held 26 ChV.cells (ChV.rd w) := by
  intro n cs y h hw
  have hl : cs.length = 5 := (rd_len Tryd.underlying26 h).trans (by kernel_rfl)
  obtain ⟨n0, y0, h0, wh0⟩ := rd_field' (T := 3) (off := 0) (k := 1) Tryd.underlying26 h hw (i := 0) rfl rfl rfl (by kernel_rfl)
  obtain ⟨a0, e0, p0⟩ := rd_int Tryd.underlying3 _ _ _ h0 wh0
  obtain ⟨n1, y1, h1, wh1⟩ := rd_field' (T := 9) (off := 1) (k := 1) Tryd.underlying26 h hw (i := 1) rfl rfl rfl (by kernel_rfl)
  obtain ⟨a1, e1, p1⟩ := rd_string Tryd.underlying9 _ _ _ h1 wh1
  obtain ⟨n2, y2, h2, wh2⟩ := rd_field' (T := 9) (off := 2) (k := 1) Tryd.underlying26 h hw (i := 2) rfl rfl rfl (by kernel_rfl)
  obtain ⟨a2, e2, p2⟩ := rd_string Tryd.underlying9 _ _ _ h2 wh2
  obtain ⟨n3, y3, h3, wh3⟩ := rd_field' (T := 23) (off := 3) (k := 1) Tryd.underlying26 h hw (i := 3) rfl rfl rfl (by kernel_rfl)
  obtain ⟨v3, es, e3, b3, s3, r3, p3⟩ := rd_slice (k := 12) (fun _ => rfl) (by decide) Tryd.underlying23 (by kernel_rfl) (rd_edt w spare held) _ _ _ h3 wh3
  obtain ⟨n4, y4, h4, wh4⟩ := rd_field' (T := 24) (off := 4) (k := 1) Tryd.underlying26 h hw (i := 4) rfl rfl rfl (by kernel_rfl)
  obtain ⟨v4, rs, e4, b4, s4, r4, p4⟩ := rd_slice (k := 6) (fun _ => rfl) (by decide) Tryd.underlying24 (by kernel_rfl) (rd_rcd w spare held) _ _ _ h4 wh4
  rw [show Tryd.prog.bytesOf 48 = 96 by kernel_rfl] at b3
  rw [show Tryd.prog.bytesOf 50 = 64 by kernel_rfl] at b4
  clear h hw h0 h1 h2 h3 h4 wh0 wh1 wh2 wh3 wh4
  match cs, hl with
  | [u0, u1, u2, u3, u4], _ =>
    have e0' : [u0] = _ := e0
    have e1' : [u1] = _ := e1
    have e2' : [u2] = _ := e2
    have e3' : [u3] = _ := e3
    have e4' : [u4] = _ := e4
    clear e0 e1 e2 e3 e4
    simp only [List.cons.injEq, and_true] at e0' e1' e2' e3' e4'
    subst e0' e1' e2' e3' e4'
    exact ⟨(⟨a0, a1, a2, es, rs⟩, u3, u4), rfl, ⟨r3, r4⟩, b3, b4, s3, s4, p3, p4⟩
theorem chgs_open (w : World) (spare : Nat → Bool) (held : Bool) {n : Nat} {v : Value} {y : DataW H × List MemPlace} (h : DataW.trod enc Tryd.prog w 0 spare held n 22 [v] = some y) (hw : Wt Tryd.prog 22 y.1) :
    ∃ ps : List ChV, Chgs w v ps ∧ ps.length * 88 ≤ reachBytes ∧ ∀ p ∈ ps, p.rd w := by
  obtain ⟨v', ps, e, hb, -, hr, hp⟩ := rd_slice (k := 5) (fun _ => rfl) (by decide) Tryd.underlying22 (by kernel_rfl) (rd_chg w spare held) _ _ _ h hw
  rw [show Tryd.prog.bytesOf 26 = 88 by kernel_rfl] at hb
  simp only [List.cons.injEq, and_true] at e
  subst e
  exact ⟨ps, ⟨hr, fun p hq => (hp p hq).1⟩, hb, hp⟩
end
end Go.Proofs.YtmhmnchdhacdbaaDoor
/- The arguments of the statements at a row: lists of changes, one change. -/
namespace Go.Proofs.YtmhmnchdhacdbaaDoor
open Go.RowKit Go.ChangeShapes Go.WideShapes Go.Deep
set_option linter.unusedVariables false
set_option linter.unusedSimpArgs false

section
variable {H : Type} {enc : TypeId × Value → H}
theorem wt_at {P : Program} {ps : Array TypeId} {ts : List TypeId} {ds gs : List (DataW H)} (h : (DataW.weightsEach P (ps.toList ++ ts) (ds ++ gs)).all (· ≤ reachBytes) = true) (j : Nat) (t : TypeId) (d : DataW H) (ht : ps[j]? = some t) (hd : ds[j]? = some d) : Wt P t d := by
  intro x hx
  have h1 : (ps.toList ++ ts)[j]? = some t := by
    rw [List.getElem?_append_left (by rw [Array.length_toList]; exact (Array.getElem?_eq_some_iff.1 ht).1), Array.getElem?_toList]; exact ht
  have h2 : (ds ++ gs)[j]? = some d := by
    rw [List.getElem?_append_left (List.getElem?_eq_some_iff.1 hd).1]; exact hd
  have := List.all_eq_true.1 h x (DataW.weights_mem_each h1 h2 x hx)
  simpa using this
/-- What the reading of a list of changes gives. -/
def ChgsRd (w : World) (v : Value) (ps : List ChV) : Prop := Chgs w v ps ∧ ps.length * 88 ≤ reachBytes ∧ ∀ p ∈ ps, p.rd w
set_option maxRecDepth 100000 in
theorem chgs_arg {w : World} {r : Reach} {b0 : Nat} {spare : Nat → Bool} {held : Bool} {v : Value} {d : DataW H} {p : List MemPlace} (hv : Value.okWide Tryd.prog w r b0 22 v) (h : DataW.Trod enc Tryd.prog w 0 spare held 22 v d p) (hw : Wt Tryd.prog 22 d) :
    ∃ ps : List ChV, ChgsRd w v ps := by
  obtain ⟨a, n, c, rfl⟩ := okWide_slice Tryd.underlying22 hv
  obtain ⟨m, hm⟩ := h
  exact chgs_open w spare held hm hw
set_option maxRecDepth 100000 in
theorem chg_arg {w : World} {r : Reach} {b0 : Nat} {spare : Nat → Bool} {held : Bool} {v : Value} {d : DataW H} {p : List MemPlace} (hv : Value.okWide Tryd.prog w r b0 26 v) (h : DataW.Trod enc Tryd.prog w 0 spare held 26 v d p) (hw : Wt Tryd.prog 26 d) :
    ∃ (ch : Chg) (Ae Ac : Option Addr) (ce cc : Nat), v = .agg #[.int .i64 ch.num, .string ch.client, .string ch.text, .slice Ae ch.edits.length ce, .slice Ac ch.recs.length cc] ∧ ChV.rd w (ch, .slice Ae ch.edits.length ce, .slice Ac ch.recs.length cc) := by
  obtain ⟨cs, rfl, -⟩ := okWide_struct Tryd.underlying26 hv
  obtain ⟨m, hm⟩ := h
  obtain ⟨⟨ch, ev, rv⟩, e, hr⟩ := rd_chg w spare held _ _ _ hm hw
  obtain ⟨Ae, ce, he⟩ := hr.2.2.2.1
  obtain ⟨Ac, cc, hc⟩ := hr.2.2.2.2.1
  change ev = .slice Ae ch.edits.length ce at he
  change rv = .slice Ac ch.recs.length cc at hc
  subst he hc
  refine ⟨ch, Ae, Ac, ce, cc, ?_, hr⟩
  have e' : cs.toList = [.int .i64 ch.num, .string ch.client, .string ch.text, .slice Ae ch.edits.length ce, .slice Ac ch.recs.length cc] := e
  cases cs
  simp only at e'
  rw [e']
theorem rd_last {w : World} {p : ChV} (h : p.rd w) : ∀ r ∈ p.1.recs, r.last ≤ 9223372036854775807 := fun r hr => (h.2.2.2.2.2.2 r hr).2.2
theorem rd_size {w : World} {p : ChV} (h : p.rd w) : chgLen p.1 ≤ 10000000000000 ∧ (∀ x ∈ p.1.edits, x.path.size ≤ 140737488355328 ∧ x.frm.size ≤ 140737488355328) ∧ ∀ x ∈ p.1.recs, x.frm.size ≤ 140737488355328 ∧ x.to.size ≤ 140737488355328 := by
  have hb : reachBytes = 140737488351232 := by decide
  obtain ⟨-, h1, h2, -, -, h3, h4⟩ := h
  rw [hb] at h1 h2
  refine ⟨?_, fun x hx => ?_, fun x hx => ?_⟩
  · unfold chgLen; omega
  · have := h3 x hx; rw [hb] at this; omega
  · have := h4 x hx; rw [hb] at this; omega
theorem rd_sizeOk {w : World} {v : Value} {ps : List ChV} {p : ChV} (h : ChgsRd w v ps) (hp : p.rd w) : sizeOk (ps ++ [p]) := by
  have hb : reachBytes = 140737488351232 := by decide
  have hl := h.2.1
  rw [hb] at hl
  have hm : ∀ q ∈ ps ++ [p], q.rd w := fun q hq => by
    rcases List.mem_append.1 hq with hq | hq
    · exact h.2.2 q hq
    · rw [List.mem_singleton] at hq; subst hq; exact hp
  exact ⟨by rw [List.length_append, List.length_singleton]; omega, fun q hq => (rd_size (hm q hq)).1, fun q hq => (rd_size (hm q hq)).2⟩
theorem rd_sizeOk' {w : World} {v : Value} {ps : List ChV} (h : ChgsRd w v ps) : sizeOk ps := by
  have hb : reachBytes = 140737488351232 := by decide
  have hl := h.2.1
  rw [hb] at hl
  exact ⟨by omega, fun q hq => (rd_size (h.2.2 q hq)).1, fun q hq => (rd_size (h.2.2 q hq)).2⟩
end
end Go.Proofs.YtmhmnchdhacdbaaDoor
/- What all cards of this seat use: the world of the witness; opening the arguments. -/
namespace Go.Proofs.YtmhmnchdhacdbaaDoor.cardBase
open Go.ChangeShapes Go.WideShapes Go.ChangeAt Go.RowKit
set_option linter.unusedVariables false

theorem own : ownKnob Tryd.prog.godebug = none := by kernel_rfl
theorem laidOut : laidOutB Tryd.prog = true := by kernel_rfl
theorem env_of {W : World} (h : W.ShapedOpen Tryd.prog) : Env W := Tryd.laysM143.s1_3 W h

def layFirst : Obj → Obj
  | .cells _ t frozen => .cells (Go.Pinned.utf8FirstZ.map fun (n : Nat) => Value.int .u8 (n : Int)).toArray t frozen
  | o => o
def layAccept : Obj → Obj
  | .cells _ t frozen => .cells #[.int .u8 128, .int .u8 191, .int .u8 160, .int .u8 191, .int .u8 128, .int .u8 159, .int .u8 144, .int .u8 191, .int .u8 128, .int .u8 143, .int .u8 0, .int .u8 0, .int .u8 0, .int .u8 0, .int .u8 0, .int .u8 0, .int .u8 0, .int .u8 0, .int .u8 0, .int .u8 0, .int .u8 0, .int .u8 0, .int .u8 0, .int .u8 0, .int .u8 0, .int .u8 0, .int .u8 0, .int .u8 0, .int .u8 0, .int .u8 0, .int .u8 0, .int .u8 0] t frozen
  | o => o
/-- A world for the witness: the settled one, the two tables holding what their initialisers lay. -/
noncomputable def laidWorld (os : Os) : World :=
  { World.holding Tryd.prog os ⟨#[], #[], []⟩ with heap := ((World.holding Tryd.prog os ⟨#[], #[], []⟩).heap.modify 1 layFirst).modify 2 layAccept }

end Go.Proofs.YtmhmnchdhacdbaaDoor.cardBase
