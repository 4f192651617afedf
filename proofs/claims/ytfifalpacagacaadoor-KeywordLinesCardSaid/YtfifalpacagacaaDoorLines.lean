/- Plain: the ends of lines. -/
import Derived.Lib.ReplaceLaws
namespace Go.Proofs.YtfifalpacagacaaDoor
set_option linter.unusedVariables false
set_option linter.unusedSimpArgs false

/-! All instances replaced, as a recursion over the list. -/
def replR (old new s : List UInt8) : List UInt8 := Lib.replaceK old new (Lib.count s old) s
theorem replR_miss {old new s : List UInt8} (h : Lib.index s old = -1) : replR old new s = s := by
  unfold replR
  rw [Lib.count_miss h]; rfl
theorem replR_hit {old new s : List UInt8} {i : Nat} (ho : old ≠ []) (h : Lib.index s old = i) : replR old new s = s.take i ++ new ++ replR old new (s.drop (i + old.length)) := by
  unfold replR
  rw [Lib.count_hit ho h, Nat.add_comm, Lib.replaceK_hit old new _ s i h]
theorem replR_nil {old new : List UInt8} (ho : old ≠ []) : replR old new [] = [] := replR_miss (by cases old <;> simp_all [Lib.index])
theorem index_cons (b : UInt8) (l old : List UInt8) : Lib.index (b :: l) old = if old.isPrefixOf (b :: l) = true then 0 else if Lib.index l old == -1 then -1 else Lib.index l old + 1 := by
  rw [Lib.index]
theorem replR_at {old new : List UInt8} {b : UInt8} {l : List UInt8} (ho : old ≠ []) (h : old.isPrefixOf (b :: l) = true) : replR old new (b :: l) = new ++ replR old new ((b :: l).drop old.length) := by
  rw [replR_hit (i := 0) ho (by rw [index_cons, if_pos h]; rfl)]
  simp
theorem replR_past {old new : List UInt8} {b : UInt8} {l : List UInt8} (ho : old ≠ []) (h : old.isPrefixOf (b :: l) = false) : replR old new (b :: l) = b :: replR old new l := by
  have hge := Lib.index_ge l old
  have hi := index_cons b l old
  rw [if_neg (by rw [h]; decide)] at hi
  by_cases hm : Lib.index l old = -1
  · rw [if_pos (by simpa using hm)] at hi
    rw [replR_miss hi, replR_miss hm]
  · obtain ⟨i, hl⟩ : ∃ i : Nat, Lib.index l old = i := ⟨(Lib.index l old).toNat, by omega⟩
    rw [if_neg (by simpa using hm), hl] at hi
    rw [replR_hit (i := i + 1) ho (by rw [hi]; push_cast; rfl), replR_hit (i := i) ho hl]
    simp [Nat.add_right_comm]

def toLF : List UInt8 → List UInt8
  | [] => []
  | [c] => [c]
  | c :: d :: l => if c = 13 ∧ d = 10 then 10 :: toLF l else c :: toLF (d :: l)
def toCRLF : List UInt8 → List UInt8
  | [] => []
  | c :: l => if c = 10 then 13 :: 10 :: toCRLF l else c :: toCRLF l

theorem repl_lf (l : List UInt8) : replR [13, 10] [10] l = toLF l := by
  induction l using toLF.induct with
  | case1 => exact replR_nil (by simp)
  | case2 c =>
    rw [replR_past (by simp) (by simp [List.isPrefixOf]), replR_nil (by simp)]; rfl
  | case3 c d l h ih =>
    rw [replR_at (by simp) (by simp [List.isPrefixOf, h.1, h.2]), toLF, if_pos h]
    simpa using ih
  | case4 c d l h ih =>
    rw [replR_past (by simp) ?_, ih, toLF, if_neg h]
    simp only [List.isPrefixOf, Bool.and_true, Bool.and_eq_false_iff, beq_eq_false_iff_ne]
    by_cases h1 : c = 13
    · right; intro e; exact h ⟨h1, e.symm⟩
    · left; intro e; exact h1 e.symm
theorem repl_crlf (l : List UInt8) : replR [10] [13, 10] l = toCRLF l := by
  induction l with
  | nil => exact replR_nil (by simp)
  | cons c l ih =>
    by_cases h : c = 10
    · rw [replR_at (by simp) (by simp [List.isPrefixOf, h]), toCRLF, if_pos h]
      simpa using ih
    · rw [replR_past (by simp) (by simpa [List.isPrefixOf] using fun e => h e.symm), ih, toCRLF, if_neg h]

theorem toCRLF_head (l : List UInt8) : (toCRLF l).head? ≠ some 10 := by
  cases l with
  | nil => simp [toCRLF]
  | cons c l =>
    unfold toCRLF
    split
    · simp
    · rename_i h; simpa using h
theorem toLF_past {c : UInt8} {l : List UInt8} (h : ¬ (c = 13 ∧ l.head? = some 10)) : toLF (c :: l) = c :: toLF l := by
  cases l with
  | nil => rfl
  | cons d l =>
    rw [toLF, if_neg]
    simpa using h
theorem back (l : List UInt8) : toLF (toCRLF l) = l := by
  induction l with
  | nil => rfl
  | cons c l ih =>
    unfold toCRLF
    split
    · rename_i h; rw [toLF, if_pos ⟨rfl, rfl⟩, ih, h]
    · rw [toLF_past (fun h => toCRLF_head l h.2), ih]

/-- A byte 10 that has no byte 13 ahead. -/
def lone (p : Bool) : List UInt8 → Bool
  | [] => false
  | c :: l => (c == 10 && !p) || lone (c == 13) l
theorem lone_head {l : List UInt8} (h : l.head? ≠ some 10) (p q : Bool) : lone p l = lone q l := by
  cases l with
  | nil => rfl
  | cons c l =>
    have : (c == 10) = false := by simpa using h
    simp [lone, this]
theorem forth (l : List UInt8) : toCRLF (toLF l) = l ↔ lone false l = false := by
  induction l using toLF.induct with
  | case1 => simp [toLF, toCRLF, lone]
  | case2 c =>
    by_cases h : c = 10
    · subst h; simp [toLF, toCRLF, lone]
    · simp [toLF, toCRLF, lone, h]
  | case3 c d l h ih =>
    obtain ⟨rfl, rfl⟩ := h
    rw [toLF, if_pos ⟨rfl, rfl⟩, toCRLF, if_pos rfl]
    have : lone false (13 :: 10 :: l) = lone false l := by simp [lone]
    rw [this, ← ih]
    simp
  | case4 c d l h ih =>
    rw [toLF, if_neg h]
    by_cases hc : c = 10
    · subst hc
      rw [toCRLF, if_pos rfl]
      simp [lone]
    · rw [toCRLF, if_neg hc]
      have e : lone false (c :: d :: l) = lone false (d :: l) := by
        have h10 : (c == 10) = false := by simpa using hc
        rw [lone, h10]
        simp only [Bool.false_and, Bool.false_or]
        by_cases h13 : c = 13
        · exact lone_head (by simpa using fun e => h ⟨h13, e⟩) _ _
        · rw [show (c == 13) = false by simpa using h13]
      rw [e, ← ih]
      simp

/-- A text without the bytes 13 ahead of a byte 10. -/
def strip13 : List UInt8 → List UInt8
  | l => (l.reverse.dropWhile (· == 13)).reverse
def restStep (out : List UInt8) (c : UInt8) : List UInt8 := if c = 10 then strip13 out ++ [10] else out ++ [c]
def restL (l : List UInt8) : List UInt8 := l.foldl restStep []
theorem strip13_push (out : List UInt8) : strip13 (out ++ [13]) = strip13 out := by simp [strip13]
theorem rest_pair (out : List UInt8) : restStep (restStep out 13) 10 = restStep out 10 := by
  have : restStep out 13 = out ++ [13] := if_neg (by decide)
  rw [this]
  unfold restStep
  rw [if_pos rfl, if_pos rfl, strip13_push]
theorem rest_crlf (l : List UInt8) : ∀ out, (toCRLF l).foldl restStep out = l.foldl restStep out := by
  induction l with
  | nil => intro out; rfl
  | cons c l ih =>
    intro out
    unfold toCRLF
    split
    · rename_i h
      subst h
      simp only [List.foldl_cons]
      rw [rest_pair, ih]
    · simp only [List.foldl_cons]; rw [ih]
theorem rest_lf (l : List UInt8) : ∀ out, (toLF l).foldl restStep out = l.foldl restStep out := by
  induction l using toLF.induct with
  | case1 => intro out; rfl
  | case2 c => intro out; rfl
  | case3 c d l h ih =>
    intro out
    obtain ⟨rfl, rfl⟩ := h
    rw [toLF, if_pos ⟨rfl, rfl⟩]
    simp only [List.foldl_cons]
    rw [rest_pair, ih]
  | case4 c d l h ih =>
    intro out
    rw [toLF, if_neg h, List.foldl_cons, ih]; rfl
theorem len_lf (l : List UInt8) : (toLF l).length ≤ l.length := by
  induction l using toLF.induct with
  | case1 => simp [toLF]
  | case2 c => simp [toLF]
  | case3 c d l h ih => rw [toLF, if_pos h]; simp; omega
  | case4 c d l h ih => rw [toLF, if_neg h]; simp at ih ⊢; omega
theorem len_crlf (l : List UInt8) : l.length ≤ (toCRLF l).length ∧ (toCRLF l).length ≤ 2 * l.length := by
  induction l with
  | nil => simp [toCRLF]
  | cons c l ih => unfold toCRLF; split <;> simp <;> omega

end Go.Proofs.YtfifalpacagacaaDoor
