/- What is left of a function's text from a region on. -/
import Derived.Test.YteolonjmgojoeaaGreatDoorRows
import Derived.Test.YteolonjmgojoeaaGreatDoorCore
import Derived.WalkKit
import Derived.WalkSpells
import Derived.WalkLawsBesides
import Derived.Lib.Hide
import Derived.Deep.QuietTactic
import Derived.BigQuiet
import Derived.Maps.AppendAt
import Derived.OwnWalkIn
import Derived.Lib.AppendStr
import Derived.Sort.LotA
namespace Go.Proofs.YteolonjmgojoeaaGreatDoor
open Go.RowKit
set_option linter.unusedVariables false
set_option linter.unusedSimpArgs false

def hasReg (n : Nat) : Code → Bool
  | .region i _ _ => i == n
  | .seq a b => hasReg n a || hasReg n b
  | .cond _ a b => hasReg n a || hasReg n b
  | .block _ a => hasReg n a
  | .loop a => hasReg n a
  | _ => false
/-- What is left of a function's text from the statement on that holds region n. -/
def tailAt (n : Nat) : Code → Option Code
  | .seq a b => if hasReg n a then some (.seq a b) else tailAt n b
  | c => if hasReg n c then some c else none
end Go.Proofs.YteolonjmgojoeaaGreatDoor
/- Plain Lean: the merging of slices.SortStableFunc: exchanging two ranges, rotating, merging in place. No program in sight. -/
namespace Go.Proofs.YteolonjmgojoeaaGreatDoor
open Go.Sort
set_option linter.unusedVariables false
set_option linter.unusedSimpArgs false
section
variable {α : Type} [Inhabited α]

/-- The element at x once [a, m) and [m, b) are exchanged. -/
def rotAt (d : Array α) (a m b x : Nat) : α :=
  if a ≤ x ∧ x < a + (b - m) then d[x + (m - a)]! else if a + (b - m) ≤ x ∧ x < b then d[x - (b - m)]! else d[x]!
/-- The first n elements from a on exchanged with those from b on. -/
def swpR (d : Array α) (a b : Nat) : Nat → Array α
  | 0 => d
  | n + 1 => swp (swpR d a b n) (a + n) (b + n)
theorem swpR_size (d : Array α) (a b n : Nat) : (swpR d a b n).size = d.size := by
  induction n with
  | zero => rfl
  | succ n ih => rw [swpR, swp_size, ih]
theorem swpR_get (d : Array α) (a b : Nat) : ∀ n, a + n ≤ b → b + n ≤ d.size → ∀ x, (swpR d a b n)[x]! = if a ≤ x ∧ x < a + n then d[x + (b - a)]! else if b ≤ x ∧ x < b + n then d[x - (b - a)]! else d[x]! := by
  intro n
  induction n with
  | zero => intro h hb x; rw [swpR, if_neg (by omega), if_neg (by omega)]
  | succ n ih =>
    intro h hb x
    have ih := ih (by omega) (by omega)
    rw [swpR, swp_get _ (by rw [swpR_size]; omega) (by rw [swpR_size]; omega), ih, ih, ih]
    by_cases h1 : x = b + n
    · subst h1
      rw [if_pos rfl, if_neg (by omega), if_neg (by omega), if_neg (by omega), if_pos (by omega)]
      congr 1; omega
    · rw [if_neg h1]
      by_cases h2 : x = a + n
      · subst h2
        rw [if_pos rfl, if_neg (by omega), if_neg (by omega), if_pos (by omega)]
        congr 1; omega
      · rw [if_neg h2]
        by_cases h3 : a ≤ x ∧ x < a + n
        · rw [if_pos h3, if_pos (by omega)]
        · rw [if_neg h3, if_neg (show ¬ (a ≤ x ∧ x < a + (n + 1)) by omega)]
          by_cases h4 : b ≤ x ∧ x < b + n
          · rw [if_pos h4, if_pos (by omega)]
          · rw [if_neg h4, if_neg (by omega)]
theorem swpR_perm (d : Array α) (a b lo hi : Nat) : ∀ n, lo ≤ a → lo ≤ b → a + n ≤ hi → b + n ≤ hi → hi ≤ d.size → PermIn lo hi d (swpR d a b n) := by
  intro n
  induction n with
  | zero => intros; exact permIn_refl _ _ _
  | succ n ih =>
    intro h1 h2 h3 h4 h5
    exact permIn_trans _ _ _ _ _ (ih h1 h2 (by omega) (by omega) h5) (swp_permIn _ _ _ _ _ (by omega) (by omega) (by omega) (by omega) (by rw [swpR_size]; exact h5))

/-- What the loop of rotate keeps: d' turned at [m - i, m + j) is d turned at [a, b). -/
def RotI (d : Array α) (a m b : Nat) (d' : Array α) (i j : Nat) : Prop :=
  0 < i ∧ 0 < j ∧ i ≤ m - a ∧ j ≤ b - m ∧ PermIn a b d d' ∧ ∀ x, rotAt d' (m - i) m (m + j) x = rotAt d a m b x
theorem RotI.start {d : Array α} {a m b : Nat} (h1 : a < m) (h2 : m < b) : RotI d a m b d (m - a) (b - m) :=
  ⟨by omega, by omega, by omega, by omega, permIn_refl _ _ _, fun x => by rw [show m - (m - a) = a by omega, show m + (b - m) = b by omega]⟩
theorem RotI.left {d d' : Array α} {a m b i j : Nat} (h : RotI d a m b d' i j) (ha : a < m) (hm : m < b) (hb : b ≤ d.size) (hij : j < i) : RotI d a m b (swpR d' (m - i) m j) (i - j) j := by
  obtain ⟨h1, h2, h3, h4, h5, h6⟩ := h
  have hs := h5.1
  refine ⟨by omega, h2, by omega, h4, permIn_trans _ _ _ _ _ h5 (swpR_perm _ _ _ _ _ _ (by omega) (by omega) (by omega) (by omega) (by omega)), fun x => ?_⟩
  rw [← h6 x]
  unfold rotAt
  have g := swpR_get d' (m - i) m j (by omega) (by omega)
  rw [g, g, g]
  by_cases c1 : x < m - i
  · rw [if_neg (by omega), if_neg (by omega), if_neg (by omega), if_neg (by omega), if_neg (by omega), if_neg (by omega)]
  · by_cases c2 : x < m - i + j
    · rw [if_neg (by omega), if_neg (by omega), if_pos (by omega), if_pos (by omega)]
      (try (congr 1; omega))
    · by_cases c3 : m + j ≤ x
      · rw [if_neg (by omega), if_neg (by omega), if_neg (by omega), if_neg (by omega), if_neg (by omega), if_neg (by omega)]
      · by_cases c4 : x < m - (i - j) + j
        · rw [if_pos (by omega), if_neg (by omega), if_pos (by omega), if_neg (by omega), if_pos (by omega)]
          congr 1; omega
        · rw [if_neg (by omega), if_pos (by omega), if_neg (by omega), if_neg (by omega), if_neg (by omega), if_pos (by omega)]
          (try (congr 1; omega))
theorem RotI.right {d d' : Array α} {a m b i j : Nat} (h : RotI d a m b d' i j) (ha : a < m) (hm : m < b) (hb : b ≤ d.size) (hij : i < j) : RotI d a m b (swpR d' (m - i) (m + j - i) i) i (j - i) := by
  obtain ⟨h1, h2, h3, h4, h5, h6⟩ := h
  have hs := h5.1
  refine ⟨h1, by omega, h3, by omega, permIn_trans _ _ _ _ _ h5 (swpR_perm _ _ _ _ _ _ (by omega) (by omega) (by omega) (by omega) (by omega)), fun x => ?_⟩
  rw [← h6 x]
  unfold rotAt
  have g := swpR_get d' (m - i) (m + j - i) i (by omega) (by omega)
  rw [g, g, g]
  by_cases c1 : x < m - i
  · rw [if_neg (by omega), if_neg (by omega), if_neg (by omega), if_neg (by omega), if_neg (by omega), if_neg (by omega)]
  · by_cases c3 : m + j ≤ x
    · rw [if_neg (by omega), if_neg (by omega), if_neg (by omega), if_neg (by omega), if_neg (by omega), if_neg (by omega)]
    · by_cases c2 : m + j - i ≤ x
      · rw [if_neg (by omega), if_neg (by omega), if_neg (by omega), if_pos (by omega), if_neg (by omega), if_pos (by omega)]
        congr 1; omega
      · by_cases c4 : x < m - i + (m + (j - i) - m)
        · rw [if_pos (show m - i ≤ x ∧ x < m - i + (m + (j - i) - m) by omega), if_neg (by omega)]
          by_cases c5 : x + (m - (m - i)) < m + j - i
          · rw [if_neg (by omega), if_pos (by omega)]
          · omega
        · rw [if_neg (show ¬ (m - i ≤ x ∧ x < m - i + (m + (j - i) - m)) by omega), if_pos (show m - i + (m + (j - i) - m) ≤ x ∧ x < m + (j - i) by omega), if_pos (by omega), if_pos (by omega)]
          congr 1; omega
theorem RotI.fin {d d' : Array α} {a m b i : Nat} (h : RotI d a m b d' i i) (ha : a < m) (hm : m < b) (hb : b ≤ d.size) :
    PermIn a b d (swpR d' (m - i) m i) ∧ ∀ x, (swpR d' (m - i) m i)[x]! = rotAt d a m b x := by
  obtain ⟨h1, h2, h3, h4, h5, h6⟩ := h
  have hs := h5.1
  refine ⟨permIn_trans _ _ _ _ _ h5 (swpR_perm _ _ _ _ _ _ (by omega) (by omega) (by omega) (by omega) (by omega)), fun x => ?_⟩
  rw [← h6 x, swpR_get d' (m - i) m i (by omega) (by omega)]
  unfold rotAt
  by_cases c1 : m - i ≤ x ∧ x < m - i + i
  · rw [if_pos c1, if_pos (by omega)]
  · rw [if_neg c1, if_neg (show ¬ (m - i ≤ x ∧ x < m - i + (m + i - m)) by omega)]
    by_cases c2 : m ≤ x ∧ x < m + i
    · rw [if_pos c2, if_pos (by omega)]; congr 1; omega
    · rw [if_neg c2, if_neg (by omega)]

/-- One element carried upwards by exchanges with its right neighbour. -/
theorem rot_up {d d' : Array α} {a k : Nat} (hk : k + 1 < d'.size) (hak : a ≤ k) (h : ∀ x, d'[x]! = rotAt d a (a + 1) (k + 1) x) : ∀ x, (swp d' k (k + 1))[x]! = rotAt d a (a + 1) (k + 2) x := by
  intro x
  rw [swp_get d' (by omega) hk, h, h, h]
  unfold rotAt
  by_cases c1 : x = k + 1
  · subst c1
    rw [if_pos rfl, if_neg (show ¬ (a ≤ k + 1 ∧ k + 1 < a + (k + 2 - (a + 1))) by omega), if_pos (show a + (k + 2 - (a + 1)) ≤ k + 1 ∧ k + 1 < k + 2 by omega)]
    rw [if_neg (by omega), if_pos (by omega)]
    congr 1; omega
  · rw [if_neg c1]
    by_cases c2 : x = k
    · subst c2
      rw [if_pos rfl, if_neg (by omega), if_neg (by omega), if_pos (by omega)]
      congr 1; omega
    · rw [if_neg c2]
      by_cases c3 : a ≤ x ∧ x < a + (k + 1 - (a + 1))
      · rw [if_pos c3, if_pos (by omega)]
      · rw [if_neg c3, if_neg (by omega), if_neg (by omega), if_neg (by omega)]
theorem rot_up0 (d : Array α) (a : Nat) : ∀ x, d[x]! = rotAt d a (a + 1) (a + 1) x := by
  intro x
  unfold rotAt
  rw [if_neg (by omega)]
  by_cases c : a + (a + 1 - (a + 1)) ≤ x ∧ x < a + 1
  · rw [if_pos c]; congr 1; omega
  · rw [if_neg c]
/-- One element carried downwards: the one at m is at k now. -/
theorem rot_down {d d' : Array α} {m k : Nat} (hm : m < d'.size) (hk : k + 1 ≤ m) (h : ∀ x, d'[x]! = rotAt d (k + 1) m (m + 1) x) : ∀ x, (swp d' (k + 1) k)[x]! = rotAt d k m (m + 1) x := by
  intro x
  rw [swp_get d' (by omega) (by omega), h, h, h]
  unfold rotAt
  by_cases c1 : x = k
  · subst c1
    rw [if_pos rfl, if_pos (by omega), if_pos (by omega)]
    congr 1; omega
  · rw [if_neg c1]
    by_cases c2 : x = k + 1
    · subst c2
      rw [if_pos rfl, if_neg (by omega), if_neg (by omega), if_neg (by omega), if_pos (by omega)]
      congr 1; omega
    · rw [if_neg c2, if_neg (by omega), if_neg (show ¬ (k ≤ x ∧ x < k + (m + 1 - m)) by omega)]
      by_cases c3 : k + 1 + (m + 1 - m) ≤ x ∧ x < m + 1
      · rw [if_pos c3, if_pos (by omega)]
      · rw [if_neg c3, if_neg (by omega)]
theorem rot_down0 (d : Array α) (m : Nat) : ∀ x, d[x]! = rotAt d m m (m + 1) x := by
  intro x
  unfold rotAt
  by_cases c : m ≤ x ∧ x < m + (m + 1 - m)
  · rw [if_pos c]; congr 1; omega
  · rw [if_neg c, if_neg (by omega)]
theorem rot_none {d : Array α} {a m b : Nat} (h : a = m ∨ m = b) : ∀ x, d[x]! = rotAt d a m b x := by
  intro x
  unfold rotAt
  rcases h with h | h
  · subst h
    by_cases c : a ≤ x ∧ x < a + (b - a)
    · rw [if_pos c]; congr 1; omega
    · rw [if_neg c, if_neg (by omega)]
  · subst h
    rw [if_neg (by omega)]
    by_cases c : a + (m - m) ≤ x ∧ x < m
    · rw [if_pos c]; congr 1; omega
    · rw [if_neg c]

/-! Merging. -/
variable {lt : α → α → Bool}
/-- Merging with a left run of one element. -/
theorem merge_one_left (hO : SWO lt) {d d' : Array α} {a i b : Nat} (hb : b ≤ d.size) (hi : a + 1 ≤ i) (hib : i ≤ b) (hs : SortedIn lt (a + 1) b d)
    (h1 : ∀ k, a + 1 ≤ k → k < i → lt d[k]! d[a]! = true) (h2 : ∀ k, i ≤ k → k < b → lt d[k]! d[a]! = false) (hr : ∀ x, d'[x]! = rotAt d a (a + 1) i x) : SortedIn lt a b d' := by
  intro p q hp hpq hq
  rw [hr, hr]
  unfold rotAt
  by_cases c1 : q < a + (i - (a + 1))
  · rw [if_pos (by omega), if_pos (by omega)]
    exact hs _ _ (by omega) (by omega) (by omega)
  · rw [if_neg (show ¬ (a ≤ q ∧ q < a + (i - (a + 1))) by omega)]
    by_cases c2 : q < i
    · rw [if_pos (show a + (i - (a + 1)) ≤ q ∧ q < i by omega), if_pos (by omega), show q - (i - (a + 1)) = a by omega]
      exact hO.asymmA (h1 _ (by omega) (by omega))
    · rw [if_neg (show ¬ (a + (i - (a + 1)) ≤ q ∧ q < i) by omega)]
      by_cases c3 : p < a + (i - (a + 1))
      · rw [if_pos (by omega)]; exact hs _ _ (by omega) (by omega) hq
      · rw [if_neg (by omega)]
        by_cases c4 : p < i
        · rw [if_pos (by omega), show p - (i - (a + 1)) = a by omega]; exact h2 q (by omega) hq
        · rw [if_neg (by omega)]; exact hs p q (by omega) hpq hq
/-- Merging with a right run of one element. -/
theorem merge_one_right (hO : SWO lt) {d d' : Array α} {a i m : Nat} (hb : m + 1 ≤ d.size) (hi : a ≤ i) (hib : i ≤ m) (hs : SortedIn lt a m d)
    (h1 : ∀ k, a ≤ k → k < i → lt d[m]! d[k]! = false) (h2 : ∀ k, i ≤ k → k < m → lt d[m]! d[k]! = true) (hr : ∀ x, d'[x]! = rotAt d i m (m + 1) x) : SortedIn lt a (m + 1) d' := by
  intro p q hp hpq hq
  rw [hr, hr]
  unfold rotAt
  by_cases c1 : q < i
  · rw [if_neg (by omega), if_neg (by omega), if_neg (by omega), if_neg (by omega)]
    exact hs p q hp hpq (by omega)
  · by_cases c2 : q = i
    · subst c2
      rw [if_pos (by omega), if_neg (by omega), if_neg (by omega), show q + (m - q) = m by omega]
      exact h1 p hp hpq
    · rw [if_neg (show ¬ (i ≤ q ∧ q < i + (m + 1 - m)) by omega), if_pos (show i + (m + 1 - m) ≤ q ∧ q < m + 1 by omega)]
      by_cases c3 : p < i
      · rw [if_neg (by omega), if_neg (by omega)]; exact hs _ _ hp (by omega) (by omega)
      · by_cases c4 : p = i
        · subst c4
          rw [if_pos (by omega), show p + (m - p) = m by omega]; exact hO.asymmA (h2 _ (by omega) (by omega))
        · rw [if_neg (by omega), if_pos (by omega)]; exact hs _ _ (by omega) (by omega) (by omega)

theorem SortedIn.sub {d : Array α} {a b a' b' : Nat} (h : SortedIn lt a b d) (ha : a ≤ a') (hb : b' ≤ b) : SortedIn lt a' b' d := fun i j hi hij hj => h i j (by omega) hij (by omega)
theorem SortedIn.same {d d' : Array α} {a b : Nat} (h : SortedIn lt a b d) (he : ∀ x, a ≤ x → x < b → d'[x]! = d[x]!) : SortedIn lt a b d' := fun i j hi hij hj => by
  rw [he i hi (by omega), he j (by omega) hj]; exact h i j hi hij hj
omit [Inhabited α] in
theorem SWO.le (hO : SWO lt) {x y z : α} (h1 : lt y x = false) (h2 : lt z y = false) : lt z x = false := hO.ntrans _ _ _ h2 h1

/-- Where the two runs [a, m) and [m, b) are cut: at start and at n - start, n = mid + m. -/
structure CutAt (lt : α → α → Bool) (d : Array α) (a m b mid s : Nat) : Prop where
  lo : a ≤ s
  hi : s ≤ m
  le : s ≤ mid
  elo : m + s ≤ mid + m
  ehi : mid + m ≤ b + s
  below : a < s → mid + m < b + s → lt d[mid + m - s]! d[s - 1]! = false
  above : s < m → s < mid → lt d[mid + m - s - 1]! d[s]! = true
/-- Behind the turning: both halves consist of two runs, and nothing of the right half is less than anything of the left one. -/
theorem CutAt.halves (hO : SWO lt) {d d' : Array α} {a m b mid s : Nat} (h : CutAt lt d a m b mid s) (ham : a < m) (hmb : m < b) (h1 : a ≤ mid) (h2 : mid ≤ b) (hL : SortedIn lt a m d) (hR : SortedIn lt m b d)
    (hr : ∀ x, d'[x]! = rotAt d s m (mid + m - s) x) :
    SortedIn lt a s d' ∧ SortedIn lt s mid d' ∧ SortedIn lt mid (mid + m - s) d' ∧ SortedIn lt (mid + m - s) b d' ∧ ∀ x y, a ≤ x → x < mid → mid ≤ y → y < b → lt d'[y]! d'[x]! = false := by
  obtain ⟨h3, h4, h5, h6, h7, hbel, habv⟩ := h
  have r1 : ∀ x, x < s → d'[x]! = d[x]! := fun x hx => by rw [hr]; unfold rotAt; rw [if_neg (by omega), if_neg (by omega)]
  have r2 : ∀ x, s ≤ x → x < mid → d'[x]! = d[x + (m - s)]! := fun x h1 h2 => by rw [hr]; unfold rotAt; rw [if_pos (by omega)]
  have r3 : ∀ x, mid ≤ x → x < mid + m - s → d'[x]! = d[x - (mid - s)]! := fun x h1 h2 => by rw [hr]; unfold rotAt; rw [if_neg (by omega), if_pos (by omega)]; congr 1; omega
  have r4 : ∀ x, mid + m - s ≤ x → d'[x]! = d[x]! := fun x h1 => by rw [hr]; unfold rotAt; rw [if_neg (by omega), if_neg (by omega)]
  refine ⟨?_, ?_, ?_, ?_, ?_⟩
  · intro i j hi hij hj; rw [r1 i (by omega), r1 j hj]; exact hL i j hi hij (by omega)
  · intro i j hi hij hj; rw [r2 i hi (by omega), r2 j (by omega) hj]; exact hR _ _ (by omega) (by omega) (by omega)
  · intro i j hi hij hj; rw [r3 i hi (by omega), r3 j (by omega) hj]; exact hL _ _ (by omega) (by omega) (by omega)
  · intro i j hi hij hj; rw [r4 i hi, r4 j (by omega)]; exact hR _ _ (by omega) hij hj
  · intro x y hx hxm hy hyb
    by_cases c1 : x < s
    · rw [r1 x c1]
      by_cases c2 : y < mid + m - s
      · rw [r3 y hy c2]; exact hL _ _ hx (by omega) (by omega)
      · rw [r4 y (by omega)]
        have k := hbel (by omega) (by omega)
        have k1 : lt d[s - 1]! d[x]! = false := by
          by_cases e : x = s - 1
          · rw [e]; exact hO.irrefl _
          · exact hL _ _ hx (by omega) (by omega)
        have k2 : lt d[y]! d[mid + m - s]! = false := by
          by_cases e : y = mid + m - s
          · rw [e]; exact hO.irrefl _
          · exact hR _ _ (by omega) (by omega) hyb
        exact SWO.le hO (SWO.le hO k1 k) k2
    · rw [r2 x (by omega) hxm]
      by_cases c2 : y < mid + m - s
      · rw [r3 y hy c2]
        have k := hO.asymmA (habv (by omega) (by omega))
        have k1 : lt d[mid + m - s - 1]! d[x + (m - s)]! = false := by
          by_cases e : x + (m - s) = mid + m - s - 1
          · rw [e]; exact hO.irrefl _
          · exact hR _ _ (by omega) (by omega) (by omega)
        have k2 : lt d[y - (mid - s)]! d[s]! = false := by
          by_cases e : y - (mid - s) = s
          · rw [e]; exact hO.irrefl _
          · exact hL _ _ (by omega) (by omega) (by omega)
        exact SWO.le hO (SWO.le hO k1 k) k2
      · rw [r4 y (by omega)]
        exact hR _ _ (by omega) (by omega) hyb
/-- The two halves merged. -/
theorem halves_join (hO : SWO lt) {d d1 d2 : Array α} {a mid b : Nat} (h1 : a ≤ mid) (h2 : mid ≤ b) (hb : b ≤ d.size) (hx : ∀ x y, a ≤ x → x < mid → mid ≤ y → y < b → lt d[y]! d[x]! = false)
    (hp1 : PermIn a mid d d1) (hs1 : SortedIn lt a mid d1) (hp2 : PermIn mid b d1 d2) (hs2 : SortedIn lt mid b d2) : PermIn a b d d2 ∧ SortedIn lt a b d2 := by
  refine ⟨permIn_trans _ _ _ _ _ (permIn_mono _ _ _ _ _ _ (Nat.le_refl _) h2 hb hp1) (permIn_mono _ _ _ _ _ _ h1 (Nat.le_refl _) (by rw [hp1.1]; exact hb) hp2), ?_⟩
  have k1 : ∀ x y, a ≤ x → x < mid → mid ≤ y → y < b → lt d1[y]! d1[x]! = false := fun x y g1 g2 g3 g4 => by
    have := permIn_all d d1 a mid (fun z => lt d[y]! z = false) (by omega) hp1 (fun i i1 i2 => hx i y i1 i2 g3 g4) x g1 g2
    rw [hp1.2.1 y (.inr g3)]; exact this
  have k2 : ∀ x y, a ≤ x → x < mid → mid ≤ y → y < b → lt d2[y]! d2[x]! = false := fun x y g1 g2 g3 g4 => by
    have := permIn_all d1 d2 mid b (fun z => lt z d1[x]! = false) (by rw [hp1.1]; exact hb) hp2 (fun i i1 i2 => k1 x i g1 g2 i1 i2) y g3 g4
    rw [hp2.2.1 x (.inl g2)]; exact this
  intro i j hi hij hj
  by_cases c1 : j < mid
  · rw [hp2.2.1 i (.inl (by omega)), hp2.2.1 j (.inl c1)]; exact hs1 i j hi hij c1
  · by_cases c2 : i < mid
    · exact k2 i j hi c2 (by omega) hj
    · exact hs2 i j (by omega) hij hj
/-- The search for the cut. -/
structure Search (lt : α → α → Bool) (d : Array α) (n s0 r0 s r : Nat) : Prop where
  lo : s0 ≤ s
  mid : s ≤ r
  hi : r ≤ r0
  below : ∀ c, s0 ≤ c → c < s → lt d[n - 1 - c]! d[c]! = false
  above : ∀ c, r ≤ c → c < r0 → lt d[n - 1 - c]! d[c]! = true
theorem Search.cut (hO : SWO lt) {d : Array α} {a m b s0 r0 s : Nat} (ham : a < m) (hmb : m < b) (h0 : ((a + b) / 2 < m ∧ s0 = (a + b) / 2 + m - b ∧ r0 = (a + b) / 2) ∨ (m ≤ (a + b) / 2 ∧ s0 = a ∧ r0 = m))
    (h : Search lt d ((a + b) / 2 + m) s0 r0 s s) : CutAt lt d a m b ((a + b) / 2) s := by
  obtain ⟨h1, -, h2, h3, h4⟩ := h
  refine ⟨by omega, by omega, by omega, by omega, by omega, fun g1 g2 => ?_, fun g1 g2 => ?_⟩
  · have := h3 (s - 1) (by omega) (by omega)
    rw [show (a + b) / 2 + m - 1 - (s - 1) = (a + b) / 2 + m - s by omega] at this
    exact this
  · have := h4 s (Nat.le_refl _) (by omega)
    rw [show (a + b) / 2 + m - 1 - s = (a + b) / 2 + m - s - 1 by omega] at this
    exact this
/-- A test in the search's middle. -/
theorem Search.go (hO : SWO lt) {d : Array α} {a m b n s0 r0 s r c : Nat} (h : Search lt d n s0 r0 s r) (hs : s ≤ c) (hr : c < r) (ha : a ≤ s0) (hr0 : r0 ≤ m) (hn1 : m + r0 ≤ n) (hn2 : n ≤ b + s0) (hL : SortedIn lt a m d) (hR : SortedIn lt m b d)
    (hc : lt d[n - 1 - c]! d[c]! = false) : Search lt d n s0 r0 (c + 1) r := by
  obtain ⟨h1, h2, h3, h4, h5⟩ := h
  refine ⟨by omega, by omega, h3, fun x hx hx2 => ?_, h5⟩
  by_cases e : x = c
  · rw [e]; exact hc
  · have k1 : lt d[c]! d[x]! = false := hL _ _ (by omega) (by omega) (by omega)
    have k2 : lt d[n - 1 - x]! d[n - 1 - c]! = false := hR _ _ (by omega) (by omega) (by omega)
    exact SWO.le hO (SWO.le hO k1 hc) k2
theorem Search.back (hO : SWO lt) {d : Array α} {a m b n s0 r0 s r c : Nat} (h : Search lt d n s0 r0 s r) (hs : s ≤ c) (hr : c < r) (ha : a ≤ s0) (hr0 : r0 ≤ m) (hn1 : m + r0 ≤ n) (hn2 : n ≤ b + s0) (hL : SortedIn lt a m d) (hR : SortedIn lt m b d)
    (hc : lt d[n - 1 - c]! d[c]! = true) : Search lt d n s0 r0 s c := by
  obtain ⟨h1, h2, h3, h4, h5⟩ := h
  refine ⟨h1, hs, by omega, h4, fun x hx hx2 => ?_⟩
  by_cases e : x = c
  · rw [e]; exact hc
  · have k1 : lt d[x]! d[c]! = false := hL _ _ (by omega) (by omega) (by omega)
    have k2 : lt d[n - 1 - c]! d[n - 1 - x]! = false := hR _ _ (by omega) (by omega) (by omega)
    cases hh : lt d[n - 1 - x]! d[x]! with
    | true => rfl
    | false =>
      have := SWO.le hO (SWO.le hO k1 hh) k2
      rw [hc] at this; cases this

/-! The blocks of stableCmpFunc. -/
/-- The blocks of bs elements from the one numbered q on are sorted. -/
def BlocksFrom (lt : α → α → Bool) (d : Array α) (n bs q : Nat) : Prop := ∀ k, q ≤ k → SortedIn lt (k * bs) (min ((k + 1) * bs) n) d
/-- The blocks ahead of the one numbered q are sorted. -/
def BlocksTo (lt : α → α → Bool) (d : Array α) (n bs q : Nat) : Prop := ∀ k, k < q → SortedIn lt (k * bs) (min ((k + 1) * bs) n) d
theorem BlocksTo.zero (d : Array α) (n bs : Nat) : BlocksTo lt d n bs 0 := fun k hk => by omega
theorem BlocksTo.step {d d' : Array α} {n bs q lo hi : Nat} (h : BlocksTo lt d n bs q) (hlo : lo = q * bs) (hp : PermIn lo hi d d') (hs : SortedIn lt (q * bs) (min ((q + 1) * bs) n) d') : BlocksTo lt d' n bs (q + 1) := by
  intro k hk
  by_cases e : k = q
  · subst e; exact hs
  · refine SortedIn.same (h k (by omega)) fun x hx hx2 => hp.2.1 x (.inl ?_)
    have : (k + 1) * bs ≤ q * bs := Nat.mul_le_mul_right _ (by omega)
    omega
theorem BlocksFrom.step {d d' : Array α} {n bs q lo hi : Nat} (h : BlocksFrom lt d n bs q) (hlo : hi = (q + 2) * bs) (hp : PermIn lo hi d d') : BlocksFrom lt d' n bs (q + 2) := by
  intro k hk
  refine SortedIn.same (h k (by omega)) fun x hx hx2 => hp.2.1 x (.inr ?_)
  have : (q + 2) * bs ≤ k * bs := Nat.mul_le_mul_right _ hk
  omega
theorem BlocksTo.all {d : Array α} {n bs q : Nat} (h : BlocksTo lt d n bs q) (hq : n ≤ q * bs) : BlocksFrom lt d n bs 0 := by
  intro k _
  by_cases hk : k < q
  · exact h k hk
  · intro i j hi hij hj
    have : q * bs ≤ k * bs := Nat.mul_le_mul_right _ (by omega)
    omega
theorem BlocksFrom.whole {d : Array α} {n bs : Nat} (h : BlocksFrom lt d n bs 0) (hn : n ≤ bs) : SortedIn lt 0 n d := by
  have := h 0 (Nat.le_refl _)
  rw [Nat.zero_mul, Nat.zero_add, Nat.one_mul, Nat.min_eq_right hn] at this
  exact this
end
end Go.Proofs.YteolonjmgojoeaaGreatDoor
