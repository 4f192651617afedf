/- steps. -/
import Derived.Test.YtmhmnchdhacdbaaMzNewC
import Derived.Laws.EntriesVeiled
namespace Go.Proofs.Ytmhmnchdhacdbaa
open Go.RowKit
set_option linter.unusedVariables false
set_option linter.unusedSimpArgs false

def stepV (n g : Nat) : Value := .func (.func n) #[.pointer (some ⟨g, 0, none⟩)] #[]
set_option maxHeartbeats 1000000 in
theorem steps_any (g : Nat) (w : World) :
    Calls Try.prog 17 #[.pointer (some ⟨g, 0, none⟩)] w
      fun e w' => e = .returned (.slice (some ⟨w.heap.size, 0, none⟩) 5 5) ∧ Below w.heap.size w w' ∧ Blk w' w.heap.size 59 [stepV 34 g, stepV 35 g, stepV 36 g, stepV 37 g, stepV 38 g] := by
  go_enter Try.func17, Try.ntmps17
  go_wp2_with fail
  go_ret
  exact ⟨rfl, (Below.refl _ _).alloc (Nat.le_refl _) _, blk_new w _ _⟩
end Go.Proofs.Ytmhmnchdhacdbaa
/- slices.Clone at revisions; slices.Concat at records. -/
namespace Go.Proofs.Ytmhmnchdhacdbaa
open Go.RowKit
set_option linter.unusedVariables false
set_option linter.unusedSimpArgs false

theorem revElem : ElemOk Try.prog 29 43 12 96 := elemOk_of Try.underlying29 (z := zeroRev.val) (by kernel_rfl) rfl (by decide)
theorem rcdElem : ElemOk Try.prog 24 53 6 64 := elemOk_of Try.underlying24 (z := .agg #[.string ⟨#[]⟩, .int .i64 0, .int .i64 0, .string ⟨#[]⟩, .int .i64 0, .int .i64 0]) (by kernel_rfl) rfl (by decide)
set_option maxHeartbeats 1000000 in
theorem clone_any (revs : List Rev) (v : Value) (w : World) (hR : Revs w v revs) (hl : revs.length ≤ 1000000) :
    Calls Try.prog 18 #[v] w
      fun e w' => ∃ v', e = .returned v' ∧ Below w.heap.size w w' ∧ w'.ownsRow w.heap.size 43 12 v' revs.length (revs.flatMap Rev.cells) := by
  obtain ⟨A, c, rfl, hc, hm, hlen, h0, hx⟩ := id hR
  cases A with
  | none =>
    have hc0 := h0 rfl
    have hn0 : revs = [] := List.eq_nil_of_length_eq_zero (by omega)
    subst hn0 hc0
    go_enter Try.func18, Try.ntmps18
    have heq : ∀ W, (binOp .eql 29 (.slice none 0 0) (.slice none 0 0)).run Try.prog W = .ok (.bool true) W := fun W => by kernel_rfl
    clear hx hlen h0 hR
    go_wp2_with fail
    go_ret
    exact ⟨_, rfl, Below.refl _ _, World.ownsRow_nil _ _ _ _⟩
  | some ad =>
    have heq : ∀ W, (binOp .eql 29 (.slice (some ad) revs.length c) (.slice none 0 0)).run Try.prog W = .ok (.bool false) W := fun W => by kernel_rfl
    clear hx hlen h0
    have HR := Lib.hid hR
    clear hR
    have hb0 : Below w.heap.size w (w.alloc (.cells #[] 43)) := (Below.refl _ _).alloc (Nat.le_refl _) _
    have hown : (w.alloc (.cells #[] 43)).ownsRow w.heap.size 43 12 (.slice (some ⟨w.heap.size, 0, none⟩) 0 0) 0 [] := ⟨rfl, .inr ⟨w.heap.size, 0, #[], rfl, Nat.le_refl _, heap_alloc_new w _, Nat.le_refl _, by unfold maxLen; omega, rfl, rfl⟩⟩
    have h1 : ∀ u ∈ revs.flatMap Rev.cells, u.oneCell' = true := by
      intro u hu
      obtain ⟨r, -, hr⟩ := List.mem_flatMap.1 hu
      simp only [Rev.cells, List.mem_cons, List.not_mem_nil, or_false] at hr
      rcases hr with rfl | rfl | rfl | rfl | rfl | rfl | rfl | rfl | rfl | rfl | rfl | rfl <;> rfl
    have H1 := Lib.hid h1
    clear h1
    go_enter Try.func18, Try.ntmps18
    go_wp2_with (at_builtin; refine wpList_push rfl rfl revElem hown rfl (HR.out.below hb0) rfl hb0 hb0.size H1.out (by omega) (by unfold maxLen; omega) ?_; intro A' c' w1 hown1 hbl1)
    go_ret
    exact ⟨_, rfl, hbl1, by simpa using hown1⟩
end Go.Proofs.Ytmhmnchdhacdbaa
