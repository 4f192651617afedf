/- Plain: a text as segments (single bytes and occurrences); what replacing does to them; scanning the replaced text again. -/
import Derived.Test.YtfifalpacagacaaDoorKScan2
namespace Go.Proofs.YtfifalpacagacaaDoor.kw
set_option linter.unusedVariables false
set_option linter.unusedSimpArgs false
open Go.RowKit

inductive Seg where
  | byte (c : UInt8)
  | occ (nm raw : List UInt8)

def Seg.raw : Seg → List UInt8
  | .byte c => [c]
  | .occ _ r => r
def Seg.show (txt : List UInt8 → List UInt8) : Seg → List UInt8
  | .byte c => [c]
  | .occ nm _ => txt nm
def Seg.to (txt : List UInt8 → List UInt8) : Seg → Seg
  | .byte c => .byte c
  | .occ nm _ => .occ nm (txt nm)
def rawL (l : List Seg) : List UInt8 := l.flatMap Seg.raw
def showL (txt : List UInt8 → List UInt8) (l : List Seg) : List UInt8 := l.flatMap (Seg.show txt)

/-- What follows a dollar sign: the bytes up to the next one. -/
def upto (s : List UInt8) : List UInt8 := s.takeWhile (fun c => c.toNat != 36)
def stepP (names : List (List UInt8)) (pre : List UInt8) (d : Bool) : Option (List UInt8) :=
  let nm := pre.takeWhile (fun c => letterB c.toNat)
  let rest := pre.drop nm.length
  if nm ∈ names ∧ d = true ∧ (rest = [] ∨ (rest.head? = some 58 ∧ (10 : UInt8) ∉ rest)) then some nm else none
/-- The name of the occurrence that begins with the dollar sign ahead of s. -/
def stepS (names : List (List UInt8)) (s : List UInt8) : Option (List UInt8) := stepP names (upto s) (decide ((36 : UInt8) ∈ s))

def scanF (names : List (List UInt8)) : Nat → List UInt8 → List Seg
  | 0, _ => []
  | _ + 1, [] => []
  | f + 1, c :: s => if c = 36 then
      match stepS names s with
      | some nm => .occ nm (36 :: (upto s ++ [36])) :: scanF names f (s.drop ((upto s).length + 1))
      | none => .byte c :: scanF names f s
    else .byte c :: scanF names f s
def scan (names : List (List UInt8)) (s : List UInt8) : List Seg := scanF names s.length s

theorem scanF_fuel (names : List (List UInt8)) : ∀ (f g : Nat) (s : List UInt8), s.length ≤ f → s.length ≤ g → scanF names f s = scanF names g s
  | 0, 0, s, _, _ => rfl
  | 0, g + 1, s, h, _ => by obtain rfl : s = [] := List.eq_nil_of_length_eq_zero (by omega); rfl
  | f + 1, 0, s, _, h => by obtain rfl : s = [] := List.eq_nil_of_length_eq_zero (by omega); rfl
  | f + 1, g + 1, [], _, _ => rfl
  | f + 1, g + 1, c :: s, hf, hg => by
    simp only [List.length_cons] at hf hg
    have h1 := scanF_fuel names f g s (by omega) (by omega)
    have h2 := scanF_fuel names f g (s.drop ((upto s).length + 1)) (by rw [List.length_drop]; omega) (by rw [List.length_drop]; omega)
    unfold scanF
    rw [h1, h2]

theorem scan_nil (names : List (List UInt8)) : scan names [] = [] := rfl
theorem scan_cons (names : List (List UInt8)) (c : UInt8) (s : List UInt8) : scan names (c :: s) = if c = 36 then
      match stepS names s with
      | some nm => .occ nm (36 :: (upto s ++ [36])) :: scan names (s.drop ((upto s).length + 1))
      | none => .byte c :: scan names s
    else .byte c :: scan names s := by
  unfold scan
  rw [scanF_fuel names (s.drop ((upto s).length + 1)).length s.length _ (Nat.le_refl _) (by rw [List.length_drop]; omega)]
  rfl

theorem upto_split {s : List UInt8} (h : (36 : UInt8) ∈ s) : s = upto s ++ 36 :: s.drop ((upto s).length + 1) := by
  induction s with
  | nil => simp at h
  | cons c s ih =>
    by_cases hc : c = 36
    · subst hc; simp [upto]
    · have hc' : (c.toNat != 36) = true := by
        simp only [bne_iff_ne, ne_eq]
        exact fun e => hc (UInt8.toNat.inj (by simpa using e))
      have hs : (36 : UInt8) ∈ s := by
        rcases List.mem_cons.1 h with e | h
        · exact absurd e.symm hc
        · exact h
      have e1 : upto (c :: s) = c :: upto s := by unfold upto; rw [List.takeWhile_cons, if_pos hc']
      rw [e1]
      simp only [List.length_cons, List.drop_succ_cons, List.cons_append]
      exact congrArg (c :: ·) (ih hs)

theorem stepS_mem {names : List (List UInt8)} {s nm : List UInt8} (h : stepS names s = some nm) : (36 : UInt8) ∈ s ∧ nm ∈ names := by
  unfold stepS stepP at h
  simp only at h
  split at h
  · rename_i hc
    injection h with h
    subst h
    exact ⟨by simpa using hc.2.1, hc.1⟩
  · cases h

theorem scan_raw (names : List (List UInt8)) (s : List UInt8) : rawL (scan names s) = s := by
  induction hn : s.length using Nat.strongRecOn generalizing s with
  | _ n ih =>
    cases s with
    | nil => rfl
    | cons c s =>
      simp only [List.length_cons] at hn
      rw [scan_cons]
      have hs := ih s.length (by omega) s rfl
      by_cases hc : c = 36
      · rw [if_pos hc]
        cases hst : stepS names s with
        | none => simp only [rawL, List.flatMap_cons, Seg.raw] at hs ⊢; rw [hs]; rfl
        | some nm =>
          have hd := ih (s.drop ((upto s).length + 1)).length (by rw [List.length_drop]; omega) _ rfl
          simp only [rawL, List.flatMap_cons, Seg.raw] at hd ⊢
          rw [hd]
          simp only [List.cons_append, List.append_assoc, List.nil_append]
          rw [← upto_split (stepS_mem hst).1, hc]
      · rw [if_neg hc]
        simp only [rawL, List.flatMap_cons, Seg.raw] at hs ⊢; rw [hs]; rfl

theorem ne36 {c : UInt8} (h : c ≠ 36) : (c.toNat != 36) = true := by
  simp only [bne_iff_ne, ne_eq]
  exact fun e => h (UInt8.toNat.inj (by simpa using e))
theorem upto_cons36 (s : List UInt8) : upto (36 :: s) = [] := by simp [upto]
theorem upto_cons {c : UInt8} (h : c ≠ 36) (s : List UInt8) : upto (c :: s) = c :: upto s := by unfold upto; rw [List.takeWhile_cons, if_pos (ne36 h)]
theorem upto_app {u : List UInt8} (h : ∀ c ∈ u, c ≠ 36) (r : List UInt8) : upto (u ++ r) = u ++ upto r := by
  induction u with
  | nil => rfl
  | cons c u ih => rw [List.cons_append, upto_cons (h c (by simp)), ih (fun x hx => h x (by simp [hx]))]; rfl

/-- What replaces a name reads as an occurrence of that name. -/
def Good (names : List (List UInt8)) (txt : List UInt8 → List UInt8) : Prop :=
  ∀ nm ∈ names, ∃ body, txt nm = 36 :: (nm ++ body ++ [36]) ∧ (∀ c ∈ nm ++ body, c ≠ 36) ∧ stepP names (nm ++ body) true = some nm

theorem scan_occ (names : List (List UInt8)) (s : List UInt8) : ∀ nm raw, Seg.occ nm raw ∈ scan names s → nm ∈ names ∧ ∃ r, raw = 36 :: r := by
  induction hn : s.length using Nat.strongRecOn generalizing s with
  | _ n ih =>
    cases s with
    | nil => intro nm raw h; simp [scan_nil] at h
    | cons c s =>
      simp only [List.length_cons] at hn
      intro nm raw h
      rw [scan_cons] at h
      have hs := ih s.length (by omega) s rfl
      by_cases hc : c = 36
      · rw [if_pos hc] at h
        cases hst : stepS names s with
        | none =>
          rw [hst] at h
          simp only [List.mem_cons, reduceCtorEq, false_or] at h
          exact hs nm raw h
        | some nm' =>
          rw [hst] at h
          simp only [List.mem_cons, Seg.occ.injEq] at h
          rcases h with ⟨rfl, rfl⟩ | h
          · exact ⟨(stepS_mem hst).2, _, rfl⟩
          · exact ih (s.drop ((upto s).length + 1)).length (by rw [List.length_drop]; omega) _ rfl nm raw h
      · rw [if_neg hc] at h
        simp only [List.mem_cons, reduceCtorEq, false_or] at h
        exact hs nm raw h

theorem upto_show {names : List (List UInt8)} {txt : List UInt8 → List UInt8} (hg : Good names txt) : ∀ (l : List Seg), (∀ nm raw, Seg.occ nm raw ∈ l → nm ∈ names ∧ ∃ r, raw = 36 :: r) →
    upto (showL txt l) = upto (rawL l) ∧ ((36 : UInt8) ∈ showL txt l ↔ (36 : UInt8) ∈ rawL l)
  | [], _ => ⟨rfl, Iff.rfl⟩
  | .byte c :: l, h => by
    obtain ⟨h1, h2⟩ := upto_show hg l (fun nm raw hm => h nm raw (by simp [hm]))
    have e1 : showL txt (.byte c :: l) = c :: showL txt l := rfl
    have e2 : rawL (.byte c :: l) = c :: rawL l := rfl
    rw [e1, e2]
    by_cases hc : c = 36
    · subst hc; exact ⟨by rw [upto_cons36, upto_cons36], by simp⟩
    · exact ⟨by rw [upto_cons hc, upto_cons hc, h1], by rw [List.mem_cons, List.mem_cons, h2]⟩
  | .occ nm raw :: l, h => by
    obtain ⟨hn, r, rfl⟩ := h nm raw (by simp)
    obtain ⟨body, hb, -, -⟩ := hg nm hn
    have e1 : showL txt (.occ nm (36 :: r) :: l) = 36 :: (nm ++ body ++ [36] ++ showL txt l) := by
      show txt nm ++ showL txt l = _
      rw [hb]; rfl
    have e2 : rawL (.occ nm (36 :: r) :: l) = 36 :: (r ++ rawL l) := rfl
    rw [e1, e2, upto_cons36, upto_cons36]
    exact ⟨rfl, by simp⟩

theorem scan_show {names : List (List UInt8)} {txt : List UInt8 → List UInt8} (hg : Good names txt) (s : List UInt8) : scan names (showL txt (scan names s)) = (scan names s).map (Seg.to txt) := by
  induction hn : s.length using Nat.strongRecOn generalizing s with
  | _ n ih =>
    cases s with
    | nil => rfl
    | cons c s =>
      simp only [List.length_cons] at hn
      have hs := ih s.length (by omega) s rfl
      by_cases hc : c = 36
      · cases hst : stepS names s with
        | none =>
          have e : scan names (c :: s) = .byte c :: scan names s := by rw [scan_cons, if_pos hc, hst]
          rw [e]
          have e1 : showL txt (.byte c :: scan names s) = c :: showL txt (scan names s) := rfl
          obtain ⟨h1, h2⟩ := upto_show hg (scan names s) (scan_occ names s)
          rw [scan_raw] at h1 h2
          have hst2 : stepS names (showL txt (scan names s)) = none := by
            rw [← hst]; unfold stepS; rw [h1, decide_eq_decide.2 h2]
          rw [e1, scan_cons, if_pos hc, hst2, hs]
          rfl
        | some nm =>
          have e : scan names (c :: s) = .occ nm (36 :: (upto s ++ [36])) :: scan names (s.drop ((upto s).length + 1)) := by rw [scan_cons, if_pos hc, hst]
          rw [e]
          have hd := ih (s.drop ((upto s).length + 1)).length (by rw [List.length_drop]; omega) _ rfl
          obtain ⟨body, hb, hb2, hb3⟩ := hg nm (stepS_mem hst).2
          generalize scan names (s.drop ((upto s).length + 1)) = L at hd
          have e1 : showL txt (.occ nm (36 :: (upto s ++ [36])) :: L) = 36 :: ((nm ++ body) ++ 36 :: showL txt L) := by
            show txt nm ++ showL txt L = _
            rw [hb]; simp
          have hup : upto ((nm ++ body) ++ 36 :: showL txt L) = nm ++ body := by rw [upto_app hb2, upto_cons36, List.append_nil]
          have hst2 : stepS names ((nm ++ body) ++ 36 :: showL txt L) = some nm := by
            unfold stepS
            rw [hup, show decide ((36 : UInt8) ∈ (nm ++ body) ++ 36 :: showL txt L) = true by simp]
            exact hb3
          rw [e1, scan_cons, if_pos rfl, hst2]
          simp only
          rw [hup, List.drop_append, List.drop_of_length_le (by omega)]
          rw [show (nm ++ body).length + 1 - (nm ++ body).length = 1 by omega]
          simp only [List.nil_append, List.drop_succ_cons, List.drop_zero]
          rw [hd]
          simp only [List.map_cons, Seg.to, hb]
      · have e : scan names (c :: s) = .byte c :: scan names s := by rw [scan_cons, if_neg hc]
        rw [e]
        have e1 : showL txt (.byte c :: scan names s) = c :: showL txt (scan names s) := rfl
        rw [e1, scan_cons, if_neg hc, hs]
        rfl

theorem show_to (t1 t2 : List UInt8 → List UInt8) (l : List Seg) : showL t2 (l.map (Seg.to t1)) = showL t2 l := by
  induction l with
  | nil => rfl
  | cons x l ih =>
    simp only [showL, List.map_cons, List.flatMap_cons] at ih ⊢
    rw [ih]
    cases x <;> rfl

/-! Where the occurrences lie. -/
def posOf : Nat → List Seg → List Occ
  | _, [] => []
  | k, .byte _ :: l => posOf (k + 1) l
  | k, .occ nm raw :: l => (k, k + raw.length - 1, nm) :: posOf (k + raw.length) l

theorem tw_tw {p q : UInt8 → Bool} (h : ∀ c, q c = true → p c = true) (s : List UInt8) : (s.takeWhile p).takeWhile q = s.takeWhile q := by
  induction s with
  | nil => rfl
  | cons c s ih =>
    rw [List.takeWhile_cons, List.takeWhile_cons]
    cases hp : p c
    · cases hq : q c
      · simp
      · rw [h c hq] at hp; cases hp
    · simp only [if_true, List.takeWhile_cons]; rw [ih]

theorem letter_ne36 {c : UInt8} (h : letterB c.toNat = true) : c ≠ 36 := by rintro rfl; revert h; decide

end Go.Proofs.YtfifalpacagacaaDoor.kw
