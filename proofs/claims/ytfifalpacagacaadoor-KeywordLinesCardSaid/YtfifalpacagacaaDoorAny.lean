/- strings.IndexRune and IndexAny at the two bytes 0 and 10, over any bytes. -/
import Derived.Test.YtfifalpacagacaaDoorJoin
import Derived.Laws.RangeAny
import Derived.Lib.DecodeN
import Derived.Lib.IndexAny
import Derived.Deep.LoopGhost
import Derived.WalkMore
namespace Go.Proofs.YtfifalpacagacaaDoor
open Go.RowKit
set_option linter.unusedVariables false

def nul10 : ByteArray := ⟨#[0, 10]⟩

theorem get_list (s : ByteArray) (j : Nat) (b : UInt8) (h : s.data.toList[j]? = some b) : s.get! j = b := by
  have hj : j < s.size := by
    have := (List.getElem?_eq_some_iff.1 h).1; simpa using this
  have : s.get! j = s[j] := by simp [ByteArray.get!, getElem!_pos, hj]; rfl
  rw [this]
  have h2 := (List.getElem?_eq_some_iff.1 h).2
  rw [← h2]; rfl

theorem decode_wide (s : ByteArray) (pos : Nat) (h : pos < s.size) (hb : 128 ≤ (s.get! pos).toNat) :
    128 ≤ (Utf8.decode s pos).1 ∧ (Utf8.decode s pos).1 ≤ 1114111 ∧ Utf8.valid (Utf8.decode s pos).1 = true ∧ 1 ≤ (Utf8.decode s pos).2 ∧ pos + (Utf8.decode s pos).2 ≤ s.size ∧
      ∀ j, pos ≤ j → j < pos + (Utf8.decode s pos).2 → 128 ≤ (s.get! j).toNat := by
  rw [Lib.decode_at]
  have hz : 0 < s.size - pos := by omega
  have hsz : pos + (s.size - pos) = s.size := by omega
  generalize s.size - pos = n at hz hsz
  generalize h1 : (s.get! (pos + 1)).toNat = b1
  generalize h2 : (s.get! (pos + 2)).toNat = b2
  generalize h3 : (s.get! (pos + 3)).toNat = b3
  have hb0 : (s.get! pos).toNat < 256 := (s.get! pos).toNat_lt
  have hb1 : b1 < 256 := h1 ▸ (s.get! (pos + 1)).toNat_lt
  have hb2 : b2 < 256 := h2 ▸ (s.get! (pos + 2)).toNat_lt
  have hb3 : b3 < 256 := h3 ▸ (s.get! (pos + 3)).toNat_lt
  generalize h0 : (s.get! pos).toNat = b0 at hb hb0
  have e1 : ∀ j, pos ≤ j → j < pos + 1 → 128 ≤ (s.get! j).toNat := fun j a b => by
    obtain rfl : j = pos := by omega
    omega
  have e2 : 128 ≤ b1 → ∀ j, pos ≤ j → j < pos + 2 → 128 ≤ (s.get! j).toNat := fun hh j a b => by
    have : j = pos ∨ j = pos + 1 := by omega
    rcases this with rfl | rfl <;> omega
  have e3 : 128 ≤ b1 → 128 ≤ b2 → ∀ j, pos ≤ j → j < pos + 3 → 128 ≤ (s.get! j).toNat := fun hh hh2 j a b => by
    have : j = pos ∨ j = pos + 1 ∨ j = pos + 2 := by omega
    rcases this with rfl | rfl | rfl <;> omega
  have e4 : 128 ≤ b1 → 128 ≤ b2 → 128 ≤ b3 → ∀ j, pos ≤ j → j < pos + 4 → 128 ≤ (s.get! j).toNat := fun hh hh2 hh3 j a b => by
    have : j = pos ∨ j = pos + 1 ∨ j = pos + 2 ∨ j = pos + 3 := by omega
    rcases this with rfl | rfl | rfl | rfl <;> omega
  have ve : ∀ c : Nat, c < 55296 ∨ (57344 ≤ c ∧ c ≤ 1114111) → Utf8.valid c = true := fun c hc => by
    unfold Utf8.valid; simp; omega
  unfold Lib.decodeN
  split
  · omega
  split
  · split
    · exact ⟨by simp only; omega, by simp only; omega, ve _ (by omega), by simp only; omega, by simp only; omega, e2 (by omega)⟩
    · exact ⟨by decide, by decide, by decide, by decide, by simp only; omega, e1⟩
  split
  · split
    · exact ⟨by simp only; omega, by simp only; omega, ve _ (by omega), by simp only; omega, by simp only; omega, e3 (by omega) (by omega)⟩
    · exact ⟨by decide, by decide, by decide, by decide, by simp only; omega, e1⟩
  split
  · split
    · exact ⟨by simp only; omega, by simp only; omega, ve _ (by omega), by simp only; omega, by simp only; omega, e4 (by omega) (by omega) (by omega)⟩
    · exact ⟨by decide, by decide, by decide, by decide, by simp only; omega, e1⟩
  · exact ⟨by decide, by decide, by decide, by decide, by simp only; omega, e1⟩

theorem below_iter (w : World) (s : ByteArray) (i : Nat) : Below w.heap.size w (w.iter s i) := (Below.refl _ _).alloc (Nat.le_refl _) _

set_option maxHeartbeats 2000000 in
set_option maxRecDepth 1000000 in
theorem indexRune_err (w : World) :
    Calls Tryd.prog 100 #[.string nul10, .int .i32 65533] w fun e w' => e = .returned (.int .i64 (-1)) ∧ Below w.heap.size w w' := by
  unfold nul10
  go_enter Tryd.func100, Tryd.ntmps100
  go_wp2_with fail
  go_loopg [4] 2 (fun g _ wx => ∃ i : Nat, i + g = 2 ∧ wx = w.iter ⟨#[0, 10]⟩ i)
  case atStart => exact ⟨0, by omega, rfl⟩
  case round =>
    obtain ⟨i, hig, rfl⟩ := hrel
    have hi : i = 0 ∨ i = 1 ∨ i = 2 := by omega
    rcases hi with rfl | rfl | rfl
    · have hnx := fun ty => run_next_ascii (P := Tryd.prog) w ⟨#[0, 10]⟩ 0 ty (by decide) (by decide)
      obtain rfl : gk = 2 := by omega
      go_wp2_with fail
      go_roundg 1
      case measure => omega
      case rel => exact ⟨1, by omega, rfl⟩
    · have hnx := fun ty => run_next_ascii (P := Tryd.prog) w ⟨#[0, 10]⟩ 1 ty (by decide) (by decide)
      obtain rfl : gk = 1 := by omega
      go_wp2_with fail
      go_roundg 0
      case measure => omega
      case rel => exact ⟨2, by omega, rfl⟩
    · have hnx := fun ty => run_next_end (P := Tryd.prog) w ⟨#[0, 10]⟩ 2 ty (by decide)
      go_wp2_with fail
      go_ret
      exact ⟨rfl, below_iter _ _ _⟩

end Go.Proofs.YtfifalpacagacaaDoor
