/- Types of files: filetype.Check, the reference's Check and Text. -/
import Derived.Test.YtfifalpacagacaaDoorPath
namespace Go.Proofs.YtfifalpacagacaaDoor
open Go.RowKit

structure Ty where
  base : Int
  k : Bool
  l : Bool
  x : Bool
deriving DecidableEq
def zeroTy : Ty := ⟨0, false, false, false⟩
def Ty.val (t : Ty) : Value := .agg #[.int .i64 t.base, .bool t.k, .bool t.l, .bool t.x]
def Ty.cells (t : Ty) : List Value := [.int .i64 t.base, .bool t.k, .bool t.l, .bool t.x]
def tyOk (b : Int) (k x : Bool) : Bool := (b == 1) || ((b == 2) && !k) || ((b == 3) && !k && !x)
def Ty.ok (t : Ty) : Bool := tyOk t.base t.k t.x
def errOf (n : Int) : Bool → Int
  | true => 0
  | false => n

theorem ret_int {k : IntKind} {a b : Int} (h : a = b) : Ending.returned (.int k a) = .returned (.int k b) := by rw [h]

set_option maxHeartbeats 1000000 in
theorem check_any (b : Int) (k l x : Bool) (w : World) :
    Calls Tryd.prog 27 #[.agg #[.int .i64 b, .bool k, .bool l, .bool x]] w fun e w' => e = .returned (.int .i64 (errOf 90 (tyOk b k x))) ∧ Below w.heap.size w w' := by
  by_cases h1 : b = 1
  · subst h1
    go_enter Tryd.func27, Tryd.ntmps27
    go_wp2
    go_ret
    exact ⟨rfl, (Below.refl _ _).alloc (Nat.le_refl _) _⟩
  · by_cases h2 : b = 2
    · subst h2
      cases k
      all_goals
        go_enter Tryd.func27, Tryd.ntmps27
        go_wp2
        go_ret
        exact ⟨rfl, (Below.refl _ _).alloc (Nat.le_refl _) _⟩
    · by_cases h3 : b = 3
      · subst h3
        cases k <;> cases x
        all_goals
          go_enter Tryd.func27, Tryd.ntmps27
          go_wp2
          go_ret
          exact ⟨rfl, (Below.refl _ _).alloc (Nat.le_refl _) _⟩
      · have H : Hid (tyOk b k x = false) := Lib.hid (by unfold tyOk; simp [h1, h2, h3])
        have g1 : (b == 1) = false := by simpa using h1
        have g2 : (b == 2) = false := by simpa using h2
        have g3 : (b == 3) = false := by simpa using h3
        go_enter Tryd.func27, Tryd.ntmps27
        go_wp2
        go_ret
        exact ⟨ret_int (by rw [H.out]; rfl), (Below.refl _ _).alloc (Nat.le_refl _) _⟩

set_option maxHeartbeats 1000000 in
theorem refCheck_any (b : Int) (k l x : Bool) (w : World) :
    Calls Tryd.prog 26 #[.agg #[.int .i64 b, .bool k, .bool l, .bool x]] w fun e w' => e = .returned (.int .i64 (errOf 90 (tyOk b k x))) ∧ Below w.heap.size w w' := by
  by_cases h0 : 1 ≤ b ∧ b ≤ 3
  · have hb : b = 1 ∨ b = 2 ∨ b = 3 := by omega
    rcases hb with rfl | rfl | rfl <;> cases k <;> cases x
    all_goals
      go_enter Tryd.func26, Tryd.ntmps26
      go_wp2
      go_ret
      exact ⟨rfl, (Below.refl _ _).alloc (Nat.le_refl _) _⟩
  · have H : Hid (tyOk b k x = false) := Lib.hid (by
      unfold tyOk
      have h1 : (b == 1) = false := by rw [beq_eq_false_iff_ne]; omega
      have h2 : (b == 2) = false := by rw [beq_eq_false_iff_ne]; omega
      have h3 : (b == 3) = false := by rw [beq_eq_false_iff_ne]; omega
      simp [h1, h2, h3])
    by_cases hb : b < 1
    · clear h0
      go_enter Tryd.func26, Tryd.ntmps26
      go_wp2
      go_ret
      exact ⟨ret_int (by rw [H.out]; rfl), (Below.refl _ _).alloc (Nat.le_refl _) _⟩
    · have hb3 : 3 < b := by omega
      clear h0
      go_enter Tryd.func26, Tryd.ntmps26
      go_wp2
      go_ret
      exact ⟨ret_int (by rw [H.out]; rfl), (Below.refl _ _).alloc (Nat.le_refl _) _⟩

/-! The text of a type. -/
def baseText (b : Int) : List UInt8 := if b = 1 then [116, 101, 120, 116] else if b = 2 then [98, 105, 110, 97, 114, 121] else [108, 105, 110, 107]
def markText (k l x : Bool) : List UInt8 := (if k then [107] else []) ++ (if l then [108] else []) ++ (if x then [120] else [])
def textT (t : Ty) : List UInt8 := baseText t.base ++ (if markText t.k t.l t.x = [] then [] else 43 :: markText t.k t.l t.x)

theorem cc_k : ((⟨#[]⟩ : ByteArray) ++ ⟨#[107]⟩) = ⟨#[107]⟩ := by decide +kernel
theorem cc_l : ((⟨#[]⟩ : ByteArray) ++ ⟨#[108]⟩) = ⟨#[108]⟩ := by decide +kernel
theorem cc_x : ((⟨#[]⟩ : ByteArray) ++ ⟨#[120]⟩) = ⟨#[120]⟩ := by decide +kernel
theorem cc_kl : ((⟨#[107]⟩ : ByteArray) ++ ⟨#[108]⟩) = ⟨#[107, 108]⟩ := by decide +kernel
theorem cc_kx : ((⟨#[107]⟩ : ByteArray) ++ ⟨#[120]⟩) = ⟨#[107, 120]⟩ := by decide +kernel
theorem cc_lx : ((⟨#[108]⟩ : ByteArray) ++ ⟨#[120]⟩) = ⟨#[108, 120]⟩ := by decide +kernel
theorem cc_klx : ((⟨#[107, 108]⟩ : ByteArray) ++ ⟨#[120]⟩) = ⟨#[107, 108, 120]⟩ := by decide +kernel
theorem ne_ba {l : List UInt8} (h : l ≠ []) : ((⟨l.toArray⟩ : ByteArray).toList.isEmpty) = false := by
  rw [ByteArray.toList_eq]; cases l <;> simp_all

set_option maxHeartbeats 1000000 in
theorem refText_any (b : Int) (k l x : Bool) (w : World) (h1 : 1 ≤ b) (h3 : b ≤ 3) :
    Calls Tryd.prog 28 #[.agg #[.int .i64 b, .bool k, .bool l, .bool x]] w fun e w' => e = .returned (.string ⟨(textT ⟨b, k, l, x⟩).toArray⟩) ∧ Below w.heap.size w w' := by
  have hb : b = 1 ∨ b = 2 ∨ b = 3 := by omega
  clear h1 h3
  have c1 := cc_k
  have c2 := cc_l
  have c3 := cc_x
  have c4 := cc_kl
  have c5 := cc_kx
  have c6 := cc_lx
  have c7 := cc_klx
  have e1 := ne_ba (l := [107]) (by simp)
  have e2 := ne_ba (l := [108]) (by simp)
  have e3 := ne_ba (l := [120]) (by simp)
  have e4 := ne_ba (l := [107, 108]) (by simp)
  have e5 := ne_ba (l := [107, 120]) (by simp)
  have e6 := ne_ba (l := [108, 120]) (by simp)
  have e7 := ne_ba (l := [107, 108, 120]) (by simp)
  rcases hb with rfl | rfl | rfl <;> cases k <;> cases l <;> cases x
  all_goals
    go_enter Tryd.func28, Tryd.ntmps28
    go_wp2
    go_ret
    exact ⟨congrArg (fun s => Ending.returned (.string s)) (by decide +kernel), ((Below.refl _ _).alloc (Nat.le_refl _) _).alloc (by simp) _⟩

end Go.Proofs.YtfifalpacagacaaDoor
