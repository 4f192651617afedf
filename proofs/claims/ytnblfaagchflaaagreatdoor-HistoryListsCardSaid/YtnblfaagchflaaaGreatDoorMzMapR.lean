/- Ranging over a map that the round does not write: the entries that are left, in any order. -/
import Derived.Test.YtnblfaagchflaaaGreatDoorMgw1
import Derived.Maps.RangeRun
namespace Go.Proofs.YtnblfaagchflaaaGreatDoor
open Go.RowKit
open Go.ChangeMaps (setBlock)
set_option linter.unusedVariables false

section
variable {κ : Type} {kv : κ → Value} {w w' : World} {r B : Nat} {left : List (κ × Value)}
/-- Block r is an iterator over the map in block B; these entries are still to come. -/
def Ranging (kv : κ → Value) (w : World) (r B : Nat) (left : List (κ × Value)) : Prop :=
  r ≠ B ∧ ∃ (es : Array MapEntry) (clock since c0 : Nat) (seen : Array Nat), w.heap[B]? = some (.map es clock) ∧ w.heap[r]? = some (.mapIter (some B) since seen c0) ∧ (∀ e ∈ es.toList, e.born < since) ∧ since ≤ c0 ∧ since ≤ clock ∧ (es.toList.map (·.born)).Nodup ∧
    pairsOf (leftOf es seen).toList = left.map fun p => (kv p.1, p.2)

theorem Ranging.keep (h : Ranging kv w r B left) (h1 : w'.heap[B]? = w.heap[B]?) (h2 : w'.heap[r]? = w.heap[r]?) : Ranging kv w' r B left := by
  obtain ⟨hne, es, clock, since, c0, seen, a, b, rest⟩ := h
  exact ⟨hne, es, clock, since, c0, seen, h1.trans a, h2.trans b, rest⟩
theorem Ranging.lt (h : Ranging kv w r B left) : r < w.heap.size ∧ B < w.heap.size := by
  obtain ⟨hne, es, clock, since, c0, seen, a, b, rest⟩ := h
  exact ⟨(Array.getElem?_eq_some_iff.1 b).1, (Array.getElem?_eq_some_iff.1 a).1⟩
theorem Ranging.below (h : Ranging kv w r B left) (hb : Below w.heap.size w w') : Ranging kv w' r B left := h.keep (hb.block _ h.lt.2) (hb.block _ h.lt.1)
theorem Ranging.setCell (h : Ranging kv w r B left) {p : Addr} (h1 : p.block ≠ r) (h2 : p.block ≠ B) (u : Value) : Ranging kv (w.setCell p u) r B left :=
  h.keep (Below.heap_setCell w p u B (fun e => h2 e.symm)) (Below.heap_setCell w p u r (fun e => h1 e.symm))

theorem IsMap.range {P : Program} {m : List (κ × Value)} (h : IsMap kv w B m) {t k e : TypeId} (ht : P.underlying t = some (.map k e)) :
    ∃ w', (Instr.range t (.map (some B))).run P w = .ok (.pointer (some ⟨w.heap.size, 0, none⟩)) w' ∧ Ranging kv w' w.heap.size B m ∧ Below w.heap.size w w' ∧ w'.heap.size = w.heap.size + 1 := by
  have hlt := h.lt
  obtain ⟨es, clock, hB, hp, hst⟩ := h
  refine ⟨_, run_range_map w t k e B es clock ht hB, ⟨by omega, es, clock, clock, clock, #[], ?_, heap_alloc_new w _, hst.1, Nat.le_refl _, Nat.le_refl _, hst.2, ?_⟩, (Below.refl _ _).alloc (Nat.le_refl _) _, by simp⟩
  · rw [heap_alloc_old w _ hlt]; exact hB
  · have : leftOf es #[] = es := by unfold leftOf; simp
    rw [this]; exact hp

theorem filter_split {es : List MapEntry} {p : MapEntry → Bool} {e : MapEntry} (hn : (es.map (·.born)).Nodup) (he : e ∈ es.filter p) :
    ∃ a b, es.filter p = a ++ e :: b ∧ es.filter (fun x => p x && !(x.born == e.born)) = a ++ b := by
  induction es with
  | nil => simp at he
  | cons x es ih =>
    rw [List.map_cons, List.nodup_cons] at hn
    by_cases hxe : x.born = e.born
    · have hnot : e ∉ es := fun h => hn.1 (by rw [hxe]; exact List.mem_map.2 ⟨e, h, rfl⟩)
      have hex : x = e := by
        have := (List.mem_filter.1 he).1
        rcases List.mem_cons.1 this with h | h
        · exact h.symm
        · exact absurd h hnot
      subst hex
      have hpx : p x = true := (List.mem_filter.1 he).2
      refine ⟨[], es.filter p, by simp [hpx], ?_⟩
      rw [List.filter_cons]
      simp only [hpx, beq_self_eq_true, Bool.not_true, Bool.and_false, Bool.false_eq_true, if_false, List.nil_append]
      apply List.filter_congr
      intro y hy
      have : y.born ≠ x.born := fun h => hn.1 (by rw [← h]; exact List.mem_map.2 ⟨y, hy, rfl⟩)
      simp [this]
    · have hne : (x.born == e.born) = false := by simpa using hxe
      have he' : e ∈ es.filter p := by
        rw [List.filter_cons] at he
        split at he
        · rcases List.mem_cons.1 he with h | h
          · exact absurd (by rw [h]) hxe
          · exact h
        · exact he
      obtain ⟨a, b, h1, h2⟩ := ih hn.2 he'
      cases hpx : p x
      · exact ⟨a, b, by simp [hpx, h1], by simp [hpx, h2]⟩
      · exact ⟨x :: a, b, by simp [hpx, h1], by simp [hpx, hne, h2]⟩

theorem map_split {α β : Type} {f : α → β} {l : List α} {a b : List β} {x : β} (h : a ++ x :: b = l.map f) : ∃ l1 y l2, l = l1 ++ y :: l2 ∧ l1.map f = a ∧ f y = x ∧ l2.map f = b := by
  induction a generalizing l with
  | nil =>
    cases l with
    | nil => simp at h
    | cons y l => simp at h; exact ⟨[], y, l, rfl, rfl, h.1.symm, h.2.symm⟩
  | cons c a ih =>
    cases l with
    | nil => simp at h
    | cons y l =>
      simp at h
      obtain ⟨l1, z, l2, rfl, h1, h2, h3⟩ := ih h.2
      exact ⟨y :: l1, z, l2, rfl, by simp [h.1, h1], h2, h3⟩

/-- One step: nothing is left, or one entry comes. -/
theorem Ranging.next {P : Program} (h : Ranging kv w r B left) (ty : TypeId) :
    (left = [] ∧ (Instr.next (.pointer (some ⟨r, 0, none⟩)) false ty).run P w = .ok (.tuple #[.bool false]) w) ∨
    ∃ a p b w', left = a ++ p :: b ∧ (Instr.next (.pointer (some ⟨r, 0, none⟩)) false ty).run P w = .ok (.tuple #[.bool true, kv p.1, p.2]) w' ∧ Ranging kv w' r B (a ++ b) ∧
      (Instr.entry (.pointer (some ⟨r, 0, none⟩))).run P w' = .ok (.tuple #[kv p.1, p.2]) w' ∧ w.grownBy w' (some r) ∧ w'.heap.size = w.heap.size := by
  have hltr := h.lt.1
  obtain ⟨hne, es, clock, since, c0, seen, hB, hr, hold, hsc, hscl, hnd, hp⟩ := h
  rcases run_next_at (P := P) w ty r B since c0 seen es clock hr hB hold hsc with ⟨h0, hrun⟩ | ⟨e, he, w1, hw1, hrun⟩
  · left
    refine ⟨?_, hrun⟩
    have : (leftOf es seen).toList = [] := List.eq_nil_of_length_eq_zero (by simpa using h0)
    rw [this] at hp
    cases left with
    | nil => rfl
    | cons p l => simp [pairsOf] at hp
  · right
    have he' : e ∈ es.toList.filter (fun x => !seen.contains x.born) := by
      have := he; unfold leftOf at this; rwa [Array.toList_filter] at this
    obtain ⟨a, b, h1, h2⟩ := filter_split hnd he'
    have hl1 : (leftOf es seen).toList = a ++ e :: b := by unfold leftOf; rw [Array.toList_filter]; exact h1
    have hl2 : (leftOf es (seen.push e.born)).toList = a ++ b := by
      unfold leftOf; rw [Array.toList_filter, ← h2]
      apply List.filter_congr
      intro x _
      rw [Array.contains_push]
      simp [Bool.not_or]
    rw [hl1] at hp
    unfold pairsOf at hp
    rw [List.map_append, List.map_cons] at hp
    obtain ⟨l1, p, l2, rfl, q1, q2, q3⟩ := map_split hp
    injection q2 with q4 q5
    have hw1h : w1.heap = w.heap := by rcases hw1 with rfl | rfl <;> rfl
    have hset : ∀ o, (setBlock w1 r o).heap[r]? = some o := fun o => by simp [setBlock, hw1h, hltr]
    have hoth : ∀ o j, j ≠ r → (setBlock w1 r o).heap[j]? = w.heap[j]? := fun o j hj => by simp [setBlock, hw1h, Ne.symm hj]
    have hmem : e ∈ es.toList := (List.mem_filter.1 he').1
    rw [← q4, ← q5] at hrun
    refine ⟨l1, p, l2, _, rfl, hrun, ⟨hne, es, clock, since, clock, seen.push e.born, by rw [hoth _ _ (Ne.symm hne)]; exact hB, hset _, hold, hscl, hscl, hnd, ?_⟩, ?_, ?_, ?_⟩
    · rw [hl2]; unfold pairsOf; rw [List.map_append, List.map_append, q1, q3]
    · have := run_entry_at (P := P) (setBlock w1 r (.mapIter (some B) since (seen.push e.born) clock)) r B since seen es clock e (hset _) (by rw [hoth _ _ (Ne.symm hne)]; exact hB) hmem hnd
      rw [← q4, ← q5] at this
      exact this
    · rcases hw1 with rfl | rfl <;> exact ⟨rfl, rfl, rfl, by simp [setBlock], fun k hk hk2 => hoth _ k (fun e => hk2 (by rw [e]))⟩
    · simp [setBlock, hw1h]
end

end Go.Proofs.YtnblfaagchflaaaGreatDoor
