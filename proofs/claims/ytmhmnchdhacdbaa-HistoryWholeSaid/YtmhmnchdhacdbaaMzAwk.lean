/- The statements' own awake. -/
import Derived.Test.YtmhmnchdhacdbaaMgval
import Derived.Test.YtmhmnchdhacdbaaMggat
namespace Go.Proofs.Ytmhmnchdhacdbaa
open Go.RowKit
set_option linter.unusedVariables false
set_option linter.unusedSimpArgs false

def wPath : ByteArray := ⟨#[47, 47, 97, 47, 120]⟩
def wRev : Rev := ⟨wPath, 1, 5, 1, ⟨1, false, false, false⟩, 0, 0, ⟨#[]⟩, 0⟩
def wEdt : Edt := ⟨wPath, 1, ⟨1, false, false, false⟩, 0, 0, 0, ⟨#[]⟩, 0, 0⟩
def wChg : Chg := ⟨5, ⟨#[]⟩, ⟨#[]⟩, [wEdt], []⟩
theorem w_valid : validS wPath = true := by decide
theorem w_edt : edtOf wRev = wEdt := rfl
theorem w_every : everyE (lastOf []) emptyS [wEdt] = 0 := by
  have h1 : editE (lastOf []) emptyS wEdt = 0 := by
    unfold editE
    rw [if_neg (by
      rintro (h | h)
      · exact absurd w_valid (by show ¬ validS wEdt.path = true; rw [h]; decide)
      · exact absurd h (by decide)), if_neg (fun h => h.1 rfl)]
    decide
  rw [everyE, h1]; rfl
theorem w_app : appE ⟨[], []⟩ wChg = 0 := by
  have h1 : sizeE [] wChg = 0 := by decide
  have h3 : movesE wChg.edits = 0 := by decide
  have h4 : recsE [] wChg = 0 := by unfold recsE wChg; rfl
  have h5 : roomE ⟨[], []⟩ wChg = 0 := by decide
  have h2 : everyE (lastOf []) emptyS wChg.edits = 0 := w_every
  unfold appE
  rw [h1, firstE_skip, h2, firstE_skip, h3, firstE_skip, h4, firstE_skip, h5, firstE_skip]; rfl
theorem w_new : newRevs ⟨[], []⟩ wChg = [wRev] := rfl
theorem w_chgW : ChgW wChg := ⟨by decide, by decide, fun x hx => by
  have : x = wEdt := by simpa [wChg] using hx
  subst this; decide, fun r hr => by simp [wChg] at hr⟩

set_option maxRecDepth 100000 in
set_option maxHeartbeats 4000000 in
theorem awake_any (w : World) : Calls Try.prog 8 #[] w fun e w' => e = .returned (.bool true) ∧ Below w.heap.size w w' := by
  have HG : Hid (greatest [wRev] wPath (fun _ => true) = some wRev) := Lib.hid (by simp [greatest, wRev])
  go_enter Try.func8, Try.ntmps8
  go_wp2_with fail
  have hB1 : Blk ((w.alloc (.cells #[.int .i64 1, .bool false, .bool false, .bool false] 38)).alloc (.cells #[.string ⟨#[47, 47, 97, 47, 120]⟩, .int .i64 1, .int .i64 1, .bool false, .bool false, .bool false, .int .u64 0, .int .i64 0, .int .i64 0, .string ⟨#[]⟩, .int .i64 0, .int .i64 0] 45)) (w.heap.size + 1) 45 ([wEdt].flatMap Edt.cells) := blk_at (cs := [wEdt].flatMap Edt.cells) (by simp)
  have hb1 : Below w.heap.size w ((w.alloc (.cells #[.int .i64 1, .bool false, .bool false, .bool false] 38)).alloc (.cells #[.string ⟨#[47, 47, 97, 47, 120]⟩, .int .i64 1, .int .i64 1, .bool false, .bool false, .bool false, .int .u64 0, .int .i64 0, .int .i64 0, .string ⟨#[]⟩, .int .i64 0, .int .i64 0] 45)) := below_alloc' (below_alloc' (Below.refl _ _) _) _
  generalize (w.alloc (.cells #[.int .i64 1, .bool false, .bool false, .bool false] 38)).alloc (.cells #[.string ⟨#[47, 47, 97, 47, 120]⟩, .int .i64 1, .int .i64 1, .bool false, .bool false, .bool false, .int .u64 0, .int .i64 0, .int .i64 0, .string ⟨#[]⟩, .int .i64 0, .int .i64 0] 45) = W1 at hB1 hb1 ⊢
  have HAA := Lib.hid (append_any ⟨[], []⟩ wChg (.slice none 0 0) (.slice none 0 0) (.slice (some ⟨w.heap.size + 1, 0, none⟩) 1 1) (.slice none 0 0) W1 (Revs.nil_ _) (Rcds.nil_ _) (hB1.row (size := 12) (n := 1) rfl (by unfold maxLen; omega)) (Rcds.nil_ _) depW_nil w_chgW)
  have HB1 := Lib.hid hb1
  clear hB1 hb1
  refine HAA.out.mono ?_
  rintro e V2 ⟨hb2, ⟨hn0, rfl⟩ | ⟨h0, dv', dr', rs, rfl, hR', hQ', hpm', hpw', hf1, hf2⟩⟩
  · exact absurd w_app hn0
  · have hrs : rs = [] := by simpa [wChg] using hpm'
    subst hrs
    rw [w_new] at hR'
    obtain ⟨A5, c5, rfl, -⟩ := id hR'
    obtain ⟨A6, c6, rfl, -⟩ := id hQ'
    have hR1 : Revs V2 (.slice A5 1 c5) [wRev] := hR'
    have hQ1 : Rcds V2 (.slice A6 0 c6) [] := hQ'
    have hb3 := below_next HB1.out hb2
    have hA3 : Below V2.heap.size V2 (V2.alloc (.cells #[.slice A5 1 c5, .slice A6 0 c6] 31)) := (Below.refl _ _).alloc (Nat.le_refl _) _
    have hx3 := blk_new V2 [.slice A5 1 c5, .slice A6 0 c6] 31
    clear hR' hQ' hpm' hpw' hf1 hf2 hb2 h0
    go_upto_region 3 with fail
    generalize V2.alloc (.cells #[.slice A5 1 c5, .slice A6 0 c6] 31) = V3 at hA3 hx3 ⊢
    obtain ⟨z0, z1, -, -⟩ := box2 hx3
    have hLa := last_any [wRev] wPath (.slice A5 1 c5) (.slice A6 0 c6) V3 (hR1.below hA3) (by decide)
    rw [HG.out] at hLa
    have HLA : Hid (Calls Try.prog 15 #[.agg #[.slice A5 1 c5, .slice A6 0 c6], .string ⟨#[47, 47, 97, 47, 120]⟩] V3 fun e w' => e = .returned (.tuple #[.agg #[.string ⟨#[47, 47, 97, 47, 120]⟩, .int .i64 1, .int .i64 5, .int .i64 1, .int .i64 1, .bool false, .bool false, .bool false, .int .u64 0, .int .i64 0, .string ⟨#[]⟩, .int .i64 0], .bool true]) ∧ Below V3.heap.size V3 w') := Lib.hid hLa
    have HX3 := Lib.hid hx3
    have HS3 : Hid (Below w.heap.size w V3 ∧ Revs V3 (.slice A5 1 c5) [wRev] ∧ Rcds V3 (.slice A6 0 c6) []) := Lib.hid ⟨below_next hb3 hA3, hR1.below hA3, hQ1.below hA3⟩
    clear hLa hx3 hb3 hA3 hR1 hQ1
    go_wp2_with fail
    refine HLA.out.mono ?_
    rintro e V4 ⟨rfl, hb4⟩
    clear z0 z1
    have HB4 := Lib.hid hb4
    clear hb4
    have hA5 : Below V4.heap.size V4 (V4.alloc (.cells #[.string ⟨#[47, 47, 97, 47, 120]⟩, .int .i64 1, .int .i64 5, .int .i64 1, .int .i64 1, .bool false, .bool false, .bool false, .int .u64 0, .int .i64 0, .string ⟨#[]⟩, .int .i64 0] 43)) := (Below.refl _ _).alloc (Nat.le_refl _) _
    have hx5 := blk_new V4 [.string ⟨#[47, 47, 97, 47, 120]⟩, .int .i64 1, .int .i64 5, .int .i64 1, .int .i64 1, .bool false, .bool false, .bool false, .int .u64 0, .int .i64 0, .string ⟨#[]⟩, .int .i64 0] 43
    go_upto_region 4 with fail
    generalize V4.alloc (.cells #[.string ⟨#[47, 47, 97, 47, 120]⟩, .int .i64 1, .int .i64 5, .int .i64 1, .int .i64 1, .bool false, .bool false, .bool false, .int .u64 0, .int .i64 0, .string ⟨#[]⟩, .int .i64 0] 43) = V5 at hA5 hx5 ⊢
    have hb35 := below_next HB4.out hA5
    obtain ⟨-, y1, y2, -, -, -, -, -, -, -, -, -⟩ := box12 hx5
    obtain ⟨z0, z1, -, -⟩ := box2 (HX3.out.below hb35 HX3.out.lt)
    have HV := Lib.hid (valid_one wRev (.slice A5 1 c5) (.slice A6 0 c6) V5 (HS3.out.2.1.below hb35) (HS3.out.2.2.below hb35) (by decide) wChg rfl w_app w_new w_chgW)
    have HB5 := Lib.hid (below_next HS3.out.1 hb35)
    clear hb35 hA5 hx5
    go_wp2_with fail
    refine HV.out.mono ?_
    rintro e V6 ⟨rfl, hb6⟩
    have HB6 := Lib.hid hb6
    clear hb6 y1 y2 z0 z1
    go_wp2_with fail
    go_ret
    exact ⟨rfl, below_next HB5.out HB6.out⟩
end Go.Proofs.Ytmhmnchdhacdbaa
