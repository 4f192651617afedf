/- Plain facts on the order of paths. -/
import Derived.Test.YtmhmnchdhacdbaaGreatDoorHp
namespace Go.Proofs.YtmhmnchdhacdbaaGreatDoor
open Go.RowKit
set_option linter.unusedVariables false
set_option linter.unusedSimpArgs false

theorem cmpL_self (l : List UInt8) : cmpL l l = 0 := by
  induction l with
  | nil => rfl
  | cons a l ih => simp [cmpL, ih]
theorem cmpL_range (l m : List UInt8) : cmpL l m = -1 ∨ cmpL l m = 0 ∨ cmpL l m = 1 := by
  induction l generalizing m with
  | nil => cases m <;> simp [cmpL]
  | cons a l ih =>
    cases m with
    | nil => simp [cmpL]
    | cons b m =>
      unfold cmpL
      by_cases h : a = b
      · rw [if_pos h]; exact ih m
      · rw [if_neg h]; split <;> (try split) <;> (try split) <;> simp
theorem cmpL_eq {l m : List UInt8} (h : cmpL l m = 0) : l = m := by
  induction l generalizing m with
  | nil => cases m <;> simp [cmpL] at h ⊢
  | cons a l ih =>
    cases m with
    | nil => simp [cmpL] at h
    | cons b m =>
      unfold cmpL at h
      by_cases e : a = b
      · rw [if_pos e] at h; rw [e, ih h]
      · rw [if_neg e] at h; split at h <;> (try split at h) <;> (try split at h) <;> simp at h
theorem cmpL_anti (l m : List UInt8) : cmpL m l = - cmpL l m := by
  induction l generalizing m with
  | nil => cases m <;> simp [cmpL]
  | cons a l ih =>
    cases m with
    | nil => simp [cmpL]
    | cons b m =>
      unfold cmpL
      by_cases e : a = b
      · subst e; rw [if_pos rfl, if_pos rfl]; exact ih m
      · rw [if_neg e, if_neg (fun h => e h.symm)]
        by_cases ha : a = 47
        · subst ha
          rw [if_neg (fun h => e h.symm), if_pos rfl, if_pos rfl]
          decide
        · by_cases hb : b = 47
          · subst hb; rw [if_pos rfl, if_neg ha, if_pos rfl]
          · rw [if_neg hb, if_neg ha, if_neg ha, if_neg hb]
            by_cases hl : a < b
            · have : ¬ b < a := by rw [UInt8.lt_iff_toNat_lt] at hl ⊢; omega
              rw [if_neg this, if_pos hl]; decide
            · have : b < a := by
                have : a.toNat ≠ b.toNat := fun h => e (UInt8.toNat_inj.1 h)
                rw [UInt8.lt_iff_toNat_lt] at hl ⊢; omega
              rw [if_neg hl, if_pos this]
def rk (c : UInt8) : Nat := if c = 47 then 0 else c.toNat + 1
theorem rk_inj {a b : UInt8} (h : rk a = rk b) : a = b := by
  unfold rk at h
  split at h <;> split at h
  · simp_all
  · omega
  · omega
  · exact UInt8.toNat_inj.1 (by omega)
theorem cmpL_cons (a b : UInt8) (l m : List UInt8) : cmpL (a :: l) (b :: m) < 0 ↔ rk a < rk b ∨ (a = b ∧ cmpL l m < 0) := by
  rw [cmpL]
  by_cases e : a = b
  · subst e; simp
  · rw [if_neg e]
    unfold rk
    by_cases ha : a = 47
    · subst ha; rw [if_pos rfl, if_pos rfl, if_neg (fun h => e h.symm)]; simp
    · by_cases hb : b = 47
      · subst hb; simp [ha]
      · simp only [ha, hb, if_false, e, false_and, or_false]
        by_cases hl : a < b
        · rw [if_pos hl]; rw [UInt8.lt_iff_toNat_lt] at hl; simp; omega
        · rw [if_neg hl]; rw [UInt8.lt_iff_toNat_lt] at hl; simp; omega
theorem cmpL_trans {l m n : List UInt8} (h1 : cmpL l m < 0) (h2 : cmpL m n < 0) : cmpL l n < 0 := by
  induction l generalizing m n with
  | nil =>
    cases m with
    | nil => simp [cmpL] at h1
    | cons b m => cases n with
      | nil => simp [cmpL] at h2
      | cons c n => simp [cmpL]
  | cons a l ih =>
    cases m with
    | nil => simp [cmpL] at h1
    | cons b m => cases n with
      | nil => simp [cmpL] at h2
      | cons c n =>
        rw [cmpL_cons] at h1 h2 ⊢
        rcases h1 with h1 | ⟨rfl, h1⟩ <;> rcases h2 with h2 | ⟨rfl, h2⟩
        · left; omega
        · left; exact h1
        · left; exact h2
        · right; exact ⟨rfl, ih h1 h2⟩

end Go.Proofs.YtmhmnchdhacdbaaGreatDoor
