/- slices.Clone at revisions; slices.Concat at records. -/
import Derived.Test.YtmhmnchdhacdbaaGreatDoorSteps
namespace Go.Proofs.YtmhmnchdhacdbaaGreatDoor
open Go.RowKit
set_option linter.unusedVariables false
set_option linter.unusedSimpArgs false

theorem revElem : ElemOk Tryz.prog 25 36 12 96 := elemOk_of Tryz.underlying25 (z := zeroRev.val) (by kernel_rfl) rfl (by decide)
theorem rcdElem : ElemOk Tryz.prog 26 60 6 64 := elemOk_of Tryz.underlying26 (z := .agg #[.string ⟨#[]⟩, .int .i64 0, .int .i64 0, .string ⟨#[]⟩, .int .i64 0, .int .i64 0]) (by kernel_rfl) rfl (by decide)
set_option maxHeartbeats 1000000 in
theorem clone_any (revs : List Rev) (v : Value) (w : World) (hR : Revs w v revs) (hl : revs.length ≤ 1000000) :
    Calls Tryz.prog 49 #[v] w
      fun e w' => ∃ v', e = .returned v' ∧ Below w.heap.size w w' ∧ w'.ownsRow w.heap.size 36 12 v' revs.length (revs.flatMap Rev.cells) := by
  obtain ⟨A, c, rfl, hc, hm, hlen, h0, hx⟩ := id hR
  cases A with
  | none =>
    have hc0 := h0 rfl
    have hn0 : revs = [] := List.eq_nil_of_length_eq_zero (by omega)
    subst hn0 hc0
    go_enter Tryz.func49, Tryz.ntmps49
    have heq : ∀ W, (binOp .eql 25 (.slice none 0 0) (.slice none 0 0)).run Tryz.prog W = .ok (.bool true) W := fun W => by kernel_rfl
    clear hx hlen h0 hR
    go_wp2_with fail
    go_ret
    exact ⟨_, rfl, Below.refl _ _, World.ownsRow_nil _ _ _ _⟩
  | some ad =>
    have heq : ∀ W, (binOp .eql 25 (.slice (some ad) revs.length c) (.slice none 0 0)).run Tryz.prog W = .ok (.bool false) W := fun W => by kernel_rfl
    clear hx hlen h0
    have HR := Lib.hid hR
    clear hR
    have hb0 : Below w.heap.size w (w.alloc (.cells #[] 36)) := (Below.refl _ _).alloc (Nat.le_refl _) _
    have hown : (w.alloc (.cells #[] 36)).ownsRow w.heap.size 36 12 (.slice (some ⟨w.heap.size, 0, none⟩) 0 0) 0 [] := ⟨rfl, .inr ⟨w.heap.size, 0, #[], rfl, Nat.le_refl _, heap_alloc_new w _, Nat.le_refl _, by unfold maxLen; omega, rfl, rfl⟩⟩
    have h1 : ∀ u ∈ revs.flatMap Rev.cells, u.oneCell' = true := by
      intro u hu
      obtain ⟨r, -, hr⟩ := List.mem_flatMap.1 hu
      simp only [Rev.cells, List.mem_cons, List.not_mem_nil, or_false] at hr
      rcases hr with rfl | rfl | rfl | rfl | rfl | rfl | rfl | rfl | rfl | rfl | rfl | rfl <;> rfl
    have H1 := Lib.hid h1
    clear h1
    go_enter Tryz.func49, Tryz.ntmps49
    go_wp2_with (at_builtin; refine wpList_push rfl rfl revElem hown rfl (HR.out.below hb0) rfl hb0 hb0.size H1.out (by omega) (by unfold maxLen; omega) ?_; intro A' c' w1 hown1 hbl1)
    go_ret
    exact ⟨_, rfl, hbl1, by simpa using hown1⟩
end Go.Proofs.YtmhmnchdhacdbaaGreatDoor
