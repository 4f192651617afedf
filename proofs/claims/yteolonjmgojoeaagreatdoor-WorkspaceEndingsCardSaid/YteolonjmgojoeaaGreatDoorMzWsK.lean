/- slices.Clone and bytes.Clone at bytes; Local at the line ends of LF. -/
import Derived.Test.YteolonjmgojoeaaGreatDoorMzSyA
import Derived.Test.YteolonjmgojoeaaGreatDoorMgw4
namespace Go.Proofs.YteolonjmgojoeaaGreatDoor
open Go.RowKit
set_option linter.unusedVariables false
set_option linter.unusedSimpArgs false

def u8Cells (l : List UInt8) : List Value := l.map fun b => .int .u8 b.toNat
theorem bytElem : ElemOk Tryz.prog 44 5 1 1 := elemOk_of Tryz.underlying44 (z := .int .u8 0) (by kernel_rfl) rfl (by decide)
set_option maxHeartbeats 1000000 in
theorem sclone_own (l : List UInt8) (v : Value) (w : World) (hb : Bytes w v l) (hl : l.length ≤ 1000000) :
    Calls Tryz.prog 27 #[v] w fun e w' => ∃ v', e = .returned v' ∧ w'.ownsRow w.heap.size 5 1 v' l.length (u8Cells l) ∧ Below w.heap.size w w' := by
  obtain ⟨A, c, rfl, hc, hm, hlen, h0, hx⟩ := id hb
  cases A with
  | none =>
    have hc0 := h0 rfl
    have hn0 : l = [] := List.eq_nil_of_length_eq_zero (by omega)
    subst hn0 hc0
    have heq : ∀ W, (binOp .eql 44 (.slice none 0 0) (.slice none 0 0)).run Tryz.prog W = .ok (.bool true) W := fun W => by kernel_rfl
    clear hx hlen h0 hb
    go_enter Tryz.func27, Tryz.ntmps27
    go_wp2_with fail
    go_ret
    exact ⟨_, rfl, World.ownsRow_nil _ _ _ _, Below.refl _ _⟩
  | some ad =>
    have heq : ∀ W, (binOp .eql 44 (.slice (some ad) l.length c) (.slice none 0 0)).run Tryz.prog W = .ok (.bool false) W := fun W => by kernel_rfl
    clear hx hlen h0
    have HR := Lib.hid hb
    clear hb
    have hb0 : Below w.heap.size w (w.alloc (.cells #[] 5)) := (Below.refl _ _).alloc (Nat.le_refl _) _
    have hown : (w.alloc (.cells #[] 5)).ownsRow w.heap.size 5 1 (.slice (some ⟨w.heap.size, 0, none⟩) 0 0) 0 [] := ⟨rfl, .inr ⟨w.heap.size, 0, #[], rfl, Nat.le_refl _, heap_alloc_new w _, Nat.le_refl _, by unfold maxLen; omega, rfl, rfl⟩⟩
    have h1 : ∀ u ∈ u8Cells l, u.oneCell' = true := fun u hu => by
      obtain ⟨b, -, rfl⟩ := List.mem_map.1 hu
      rfl
    have H1 := Lib.hid h1
    clear h1
    go_enter Tryz.func27, Tryz.ntmps27
    go_wp2_with (at_builtin; refine wpList_push rfl rfl bytElem hown rfl (HR.out.below hb0) rfl hb0 hb0.size H1.out (by omega) (by unfold maxLen; omega) ?_; intro A' c' w1 hown1 hbl1)
    go_ret
    have h := hown1
    rw [List.nil_append, Nat.zero_add] at h
    exact ⟨_, rfl, h, hbl1⟩
theorem sclone_any (l : List UInt8) (v : Value) (w : World) (hb : Bytes w v l) (hl : l.length ≤ 1000000) :
    Calls Tryz.prog 27 #[v] w fun e w' => ∃ v', e = .returned v' ∧ Bytes w' v' l ∧ Below w.heap.size w w' :=
  (sclone_own l v w hb hl).mono fun e w' ⟨v', h1, h2, h3⟩ => ⟨v', h1, Row.of_own h2, h3⟩
set_option maxHeartbeats 1000000 in
theorem bclone_any (l : List UInt8) (v : Value) (w : World) (hb : Bytes w v l) (hl : l.length ≤ 1000000) :
    Calls Tryz.prog 94 #[v] w fun e w' => ∃ v', e = .returned v' ∧ Bytes w' v' l ∧ Below w.heap.size w w' := by
  obtain ⟨A, c, rfl, hc, hm, hlen, h0, hx⟩ := id hb
  cases A with
  | none =>
    have hc0 := h0 rfl
    have hn0 : l = [] := List.eq_nil_of_length_eq_zero (by omega)
    subst hn0 hc0
    have heq : ∀ W, (binOp .eql 44 (.slice none 0 0) (.slice none 0 0)).run Tryz.prog W = .ok (.bool true) W := fun W => by kernel_rfl
    clear hx hlen h0 hb
    go_enter Tryz.func94, Tryz.ntmps94
    go_wp2_with fail
    go_ret
    exact ⟨_, rfl, Row.nil_ _ _, Below.refl _ _⟩
  | some ad =>
    have heq : ∀ W, (binOp .eql 44 (.slice (some ad) l.length c) (.slice none 0 0)).run Tryz.prog W = .ok (.bool false) W := fun W => by kernel_rfl
    clear hx hlen h0
    have HR := Lib.hid hb
    clear hb
    have hb0 : Below w.heap.size w (w.alloc (.cells #[] 5)) := (Below.refl _ _).alloc (Nat.le_refl _) _
    have hown : (w.alloc (.cells #[] 5)).ownsRow w.heap.size 5 1 (.slice (some ⟨w.heap.size, 0, none⟩) 0 0) 0 [] := ⟨rfl, .inr ⟨w.heap.size, 0, #[], rfl, Nat.le_refl _, heap_alloc_new w _, Nat.le_refl _, by unfold maxLen; omega, rfl, rfl⟩⟩
    have h1 : ∀ u ∈ u8Cells l, u.oneCell' = true := fun u hu => by
      obtain ⟨b, -, rfl⟩ := List.mem_map.1 hu
      rfl
    have H1 := Lib.hid h1
    clear h1
    go_enter Tryz.func94, Tryz.ntmps94
    go_wp2_with (at_builtin; refine wpList_push rfl rfl bytElem hown rfl (HR.out.below hb0) rfl hb0 hb0.size H1.out (by omega) (by unfold maxLen; omega) ?_; intro A' c' w1 hown1 hbl1)
    go_ret
    have h := Row.of_own hown1
    rw [List.nil_append, Nat.zero_add] at h
    exact ⟨_, rfl, h, hbl1⟩
theorem box4t {w : World} {g : Nat} {e : TypeId} {a b c d : Value} (h : Blk w g e [a, b, c, d]) : w.cell? ⟨g, 0, none⟩ = some a ∧ w.cell? ⟨g, 1, none⟩ = some b ∧ w.cell? ⟨g, 2, none⟩ = some c ∧ w.cell? ⟨g, 3, none⟩ = some d := ⟨h.cell 0, h.cell 1, h.cell 2, h.cell 3⟩
set_option maxRecDepth 100000 in
set_option maxHeartbeats 4000000 in
theorem checkBytesLF (b : Int) (k l x : Bool) (bs : List UInt8) (v : Value) (w : World) (hb : Bytes w v bs) (hok : tyOk b k x = true) (h3 : ¬ b = 3) :
    Calls Tryz.prog 93 #[.agg #[.int .i64 b, .bool k, .bool l, .bool x], v, .int .i64 1] w fun e w' => e = .returned (.int .i64 0) ∧ Below w.heap.size w w' := by
  have HC := Lib.hid (fun W => check_any b k l x W)
  rw [hok] at HC
  have hA0 : Below w.heap.size w (w.alloc (.cells #[.int .i64 b, .bool k, .bool l, .bool x] 52)) := (Below.refl _ _).alloc (Nat.le_refl _) _
  obtain ⟨A, c, rfl, -⟩ := id hb
  have q3 : (b == 3) = false := by simpa using h3
  clear hok h3 hb
  go_enter Tryz.func93, Tryz.ntmps93
  go_wp2_with fail
  refine (HC.out _).mono ?_
  rintro e w1 ⟨rfl, hb1⟩
  have hT1 := (blk_new w [.int .i64 b, .bool k, .bool l, .bool x] 52).below hb1 (by simp)
  have hbw1 : Below w.heap.size w w1 := hA0.trans (hb1.mono (by simp))
  obtain ⟨y0, y1, y2, y3⟩ := box4t hT1
  go_wp2_with fail
  go_ret
  exact ⟨rfl, hbw1⟩
set_option maxRecDepth 100000 in
set_option maxHeartbeats 4000000 in
theorem localLF (b : Int) (k l x : Bool) (bs : List UInt8) (v : Value) (w : World) (hb : Bytes w v bs) (hok : tyOk b k x = true) (h3 : ¬ b = 3) (hl : bs.length ≤ 1000000) :
    Calls Tryz.prog 54 #[.agg #[.int .i64 b, .bool k, .bool l, .bool x], v, .int .i64 1] w fun e w' => ∃ v', e = .returned (.tuple #[v', .int .i64 0]) ∧ Bytes w' v' bs ∧ Below w.heap.size w w' := by
  have HT : Hid (∀ W, Below w.heap.size w W → Calls Tryz.prog 78 #[.agg #[.int .i64 b, .bool k, .bool l, .bool x], v, .int .i64 1, .string ⟨#[10]⟩, .string ⟨#[13, 10]⟩] W fun e w' => ∃ v', e = .returned (.tuple #[v', .int .i64 0]) ∧ Bytes w' v' bs ∧ Below W.heap.size W w') := Lib.hid (fun W hW => by
    have HB := Lib.hid (hb.below hW)
    have hA0 : Below W.heap.size W (W.alloc (.cells #[.int .i64 b, .bool k, .bool l, .bool x] 52)) := (Below.refl _ _).alloc (Nat.le_refl _) _
    have HC := Lib.hid (checkBytesLF b k l x bs v _ ((hb.below hW).below hA0) hok h3)
    have HCL := Lib.hid (fun X (hX : Below W.heap.size W X) => bclone_any bs v X ((hb.below hW).below hX) hl)
    obtain ⟨A, c, rfl, -⟩ := id hb
    clear hb hok h3
    cases h1 : (b != 1)
    all_goals
      go_enter Tryz.func78, Tryz.ntmps78
      go_wp2_with fail
      refine HC.out.mono ?_
      rintro e w1 ⟨rfl, hb1⟩
      have hT1 := (blk_new W [.int .i64 b, .bool k, .bool l, .bool x] 52).below hb1 (by simp)
      have hbw1 := Lib.hid (hA0.trans (hb1.mono (by simp)))
      obtain ⟨y0, y1, y2, y3⟩ := box4t hT1
      have HC1 := Lib.hid (HCL.out w1 hbw1.out)
      go_wp2_with fail
      refine HC1.out.mono ?_
      rintro e w2 ⟨v', rfl, hv', hb2⟩
      go_wp2_with fail
      go_ret2
      exact ⟨v', rfl, hv', below_next hbw1.out hb2⟩)
  have hA0 : Below w.heap.size w (w.alloc (.cells #[.int .i64 b, .bool k, .bool l, .bool x] 52)) := (Below.refl _ _).alloc (Nat.le_refl _) _
  have H := Lib.hid (HT.out _ hA0)
  obtain ⟨A, c, rfl, -⟩ := id hb
  clear hb hok h3 HT
  go_enter Tryz.func54, Tryz.ntmps54
  go_wp2_with fail
  refine H.out.mono ?_
  rintro e w1 ⟨v', rfl, h1, h2⟩
  go_wp2_with fail
  go_ret2
  exact ⟨v', rfl, h1, hA0.trans (h2.mono (by simp))⟩
end Go.Proofs.YteolonjmgojoeaaGreatDoor
