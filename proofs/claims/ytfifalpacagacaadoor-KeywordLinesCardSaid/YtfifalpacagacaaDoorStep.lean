/- Plain: the steps of a link's target. -/
import Derived.Test.YtfifalpacagacaaDoorTarget2
namespace Go.Proofs.YtfifalpacagacaaDoor
open Go.RowKit
set_option linter.unusedVariables false

abbrev Comps := List (List UInt8)
/-- One step from a directory; none: it leads nowhere. -/
def step1 (at_ : Comps) (s : List UInt8) : Option Comps :=
  if s = [] ∨ s = [46] then some at_
  else if s = [46, 46] then (if at_.length = 1 then none else some at_.dropLast)
  else if compL s = true then some (at_ ++ [s]) else none
def stepsL : Comps → Comps → Option Comps
  | at_, [] => some at_
  | at_, s :: r => (step1 at_ s).bind fun a => stepsL a r

def followR : Option Comps → ByteArray × Int
  | none => (⟨#[]⟩, 92)
  | some a => if a.length < 2 then (⟨#[]⟩, 92) else (baL (joinP a), 0)
/-- What Follow returns: a text and an error's number. -/
def followL (p t : ByteArray) : ByteArray × Int :=
  match dirL p.data.toList 2 with
  | none => (⟨#[]⟩, 20)
  | some ps =>
    if targetB t = false then (⟨#[]⟩, 91)
    else if t.data.toList.head? = some 47 then (⟨#[]⟩, 92)
    else followR (stepsL ps.dropLast (splitL t.data.toList))

theorem dir_ok {l : List UInt8} {ps : Comps} {n : Nat} (h : dirL l n = some ps) : n ≤ ps.length ∧ ps.all compL = true ∧ ps.length ≤ l.length + 1 ∧ ∀ p ∈ ps, p.length ≤ l.length := by
  unfold dirL at h
  split at h
  · rename_i hc
    injection h with h
    subst h
    have h1 := splitL_length_le (l.drop 2)
    refine ⟨hc.2.1, hc.2.2, by rw [List.length_drop] at h1; omega, fun p hp => ?_⟩
    have := (splitL_mem hp).2
    rw [List.length_drop] at this
    omega
  · cases h

/-- What holds of a directory on the way. -/
structure Good (a : Comps) (n m : Nat) : Prop where
  comps : ∀ p ∈ a, compL p = true ∧ p.length ≤ m
  len : a.length ≤ n
  pos : 0 < a.length

theorem Good.drop {a : Comps} {n m : Nat} (h : Good a n m) (h1 : a.length ≠ 1) : Good a.dropLast (n + 1) m :=
  ⟨fun p hp => h.comps p (List.dropLast_subset a hp), by have := h.len; simp; omega, by have := h.pos; simp; omega⟩
theorem Good.keep {a : Comps} {n m : Nat} (h : Good a n m) : Good a (n + 1) m := ⟨h.comps, by have := h.len; omega, h.pos⟩
theorem Good.push {a : Comps} {n m : Nat} {s : List UInt8} (h : Good a n m) (hs : compL s = true) (hl : s.length ≤ m) : Good (a ++ [s]) (n + 1) m :=
  ⟨fun p hp => by
    rcases List.mem_append.1 hp with hp | hp
    · exact h.comps p hp
    · have : p = s := by simpa using hp
      subst this; exact ⟨hs, hl⟩, by have := h.len; simp; omega, by simp⟩
theorem Good.start {l : List UInt8} {ps : Comps} {m : Nat} (h : dirL l 2 = some ps) (hm : l.length ≤ m) : Good ps.dropLast (l.length + 1) m := by
  obtain ⟨h1, h2, h3, h4⟩ := dir_ok h
  exact ⟨fun p hp => ⟨List.all_eq_true.1 h2 p (List.dropLast_subset ps hp), by have := h4 p (List.dropLast_subset ps hp); omega⟩, by simp; omega, by simp; omega⟩
theorem Good.joinLen {a : Comps} {n m : Nat} (h : Good a n m) : (Lib.join a [47]).length ≤ n * (m + 1) := by
  have := join_length_le (List.replicate m 0) a (fun p hp => by have := (h.comps p hp).2; simpa using this) n h.len
  simpa using this

end Go.Proofs.YtfifalpacagacaaDoor
