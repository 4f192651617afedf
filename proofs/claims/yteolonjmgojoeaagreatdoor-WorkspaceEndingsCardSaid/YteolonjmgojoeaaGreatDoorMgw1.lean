/- Small laws on memory. -/
import Derived.Test.YteolonjmgojoeaaGreatDoorCore
import Derived.Test.YteolonjmgojoeaaGreatDoorMap
import Derived.Lib.Split
import Derived.Lib.SplitLaws
import Derived.Lib.CountLaws
import Derived.Lib.IndexBytes
import Derived.Lib.IndexLaws
import Derived.Lib.Join
import Derived.Maps.RangeRun
namespace Go.Proofs.YteolonjmgojoeaaGreatDoor
open Go.RowKit

theorem own_below {w w' : World} {B : Nat} {e : TypeId} {k : Nat} {v : Value} {n : Nat} {xs : List Value} (h : w.ownsRow B e k v n xs) (hb : Below w.heap.size w w') : w'.ownsRow B e k v n xs := by
  refine ⟨h.1, ?_⟩
  rcases h.2 with ⟨e1, e2⟩ | ⟨g, cap, cur, e1, h1, hg, rest⟩
  · exact .inl ⟨e1, e2⟩
  · exact .inr ⟨g, cap, cur, e1, h1, (hb.block g (Array.getElem?_eq_some_iff.1 hg).1).trans hg, rest⟩
theorem own_slice {w : World} {B : Nat} {e : TypeId} {k : Nat} {v : Value} {n : Nat} {xs : List Value} (h : w.ownsRow B e k v n xs) : ∃ A c, v = .slice A n c := by
  rcases h.2 with ⟨e1, e2⟩ | ⟨g, cap, cur, e1, _⟩
  · exact ⟨none, 0, by rw [e1, e2]⟩
  · exact ⟨_, cap, e1⟩
theorem below_step {B : Nat} {a w w' : World} (h : Below B a w) (hB : B ≤ w.heap.size) (h2 : Below w.heap.size w w') : Below B a w' := h.trans (h2.mono hB)
theorem below_next {w w1 w2 : World} (h1 : Below w.heap.size w w1) (h2 : Below w1.heap.size w1 w2) : Below w.heap.size w w2 := h1.trans (h2.mono h1.size)

end Go.Proofs.YteolonjmgojoeaaGreatDoor
/- Plain: a text parted at its bytes 47 ('/'), and joined again. -/
namespace Go.Proofs.YteolonjmgojoeaaGreatDoor

def splitL : List UInt8 → List (List UInt8)
  | [] => [[]]
  | c :: l => if c = 47 then [] :: splitL l else
    match splitL l with
    | [] => [[c]]
    | p :: ps => (c :: p) :: ps

theorem splitL_ne (l : List UInt8) : splitL l ≠ [] := by
  cases l with
  | nil => simp [splitL]
  | cons c l => unfold splitL; split; simp; split <;> simp
theorem splitL_app {a : List UInt8} (h : (47 : UInt8) ∉ a) (r : List UInt8) : splitL (a ++ 47 :: r) = a :: splitL r := by
  induction a with
  | nil => simp [splitL]
  | cons c a ih =>
    have hc : c ≠ 47 := fun e => h (by simp [e])
    rw [List.cons_append, splitL, if_neg hc, ih (fun e => h (by simp [e]))]
theorem splitL_free {a : List UInt8} (h : (47 : UInt8) ∉ a) : splitL a = [a] := by
  induction a with
  | nil => rfl
  | cons c a ih =>
    have hc : c ≠ 47 := fun e => h (by simp [e])
    rw [splitL, if_neg hc, ih (fun e => h (by simp [e]))]
theorem splitL_length (l : List UInt8) : (splitL l).length = l.count 47 + 1 := by
  induction l with
  | nil => rfl
  | cons c l ih =>
    unfold splitL
    split
    · rename_i hc; subst hc; simp [ih]
    · rename_i hc
      rw [List.count_cons, if_neg (by simpa using hc)]
      split
      · rename_i hq; exact absurd hq (splitL_ne l)
      · rename_i q qs hq; rw [hq] at ih; simpa using ih
theorem splitL_length_le (l : List UInt8) : (splitL l).length ≤ l.length + 1 := by
  rw [splitL_length]; have := List.count_le_length (a := (47 : UInt8)) (l := l); omega

theorem part (l : List UInt8) : (47 : UInt8) ∉ l ∨ ∃ a r, l = a ++ 47 :: r ∧ (47 : UInt8) ∉ a := by
  induction l with
  | nil => left; simp
  | cons c l ih =>
    by_cases hc : c = 47
    · right; exact ⟨[], l, by simp [hc], by simp⟩
    · rcases ih with h | ⟨a, r, rfl, h⟩
      · left; simp only [List.mem_cons, not_or]; exact ⟨fun e => hc e.symm, h⟩
      · right; exact ⟨c :: a, r, by simp, by simp only [List.mem_cons, not_or]; exact ⟨fun e => hc e.symm, h⟩⟩

theorem ba_ext {a b : ByteArray} (h : a.data.toList = b.data.toList) : a = b := by
  cases a with | mk x => cases b with | mk y =>
  have : x = y := Array.ext' h
  rw [this]
end Go.Proofs.YteolonjmgojoeaaGreatDoor
/- Ranging over a map that the round does not write: the entries that are left, in any order. -/
namespace Go.Proofs.YteolonjmgojoeaaGreatDoor
open Go.RowKit
open Go.ChangeMaps (setBlock)
set_option linter.unusedVariables false

section
variable {κ : Type} {kv : κ → Value} {w w' : World} {r B : Nat} {left : List (κ × Value)}
/-- Block r is an iterator over the map in block B; these entries are still to come. -/
def Ranging (kv : κ → Value) (w : World) (r B : Nat) (left : List (κ × Value)) : Prop :=
  r ≠ B ∧ ∃ (es : Array MapEntry) (clock since c0 : Nat) (seen : Array Nat), w.heap[B]? = some (.map es clock) ∧ w.heap[r]? = some (.mapIter (some B) since seen c0) ∧ (∀ e ∈ es.toList, e.born < since) ∧ since ≤ c0 ∧ since ≤ clock ∧ (es.toList.map (·.born)).Nodup ∧
    pairsOf (leftOf es seen).toList = left.map fun p => (kv p.1, p.2)

theorem Ranging.keep (h : Ranging kv w r B left) (h1 : w'.heap[B]? = w.heap[B]?) (h2 : w'.heap[r]? = w.heap[r]?) : Ranging kv w' r B left := by
  obtain ⟨hne, es, clock, since, c0, seen, a, b, rest⟩ := h
  exact ⟨hne, es, clock, since, c0, seen, h1.trans a, h2.trans b, rest⟩
theorem Ranging.lt (h : Ranging kv w r B left) : r < w.heap.size ∧ B < w.heap.size := by
  obtain ⟨hne, es, clock, since, c0, seen, a, b, rest⟩ := h
  exact ⟨(Array.getElem?_eq_some_iff.1 b).1, (Array.getElem?_eq_some_iff.1 a).1⟩
theorem Ranging.below (h : Ranging kv w r B left) (hb : Below w.heap.size w w') : Ranging kv w' r B left := h.keep (hb.block _ h.lt.2) (hb.block _ h.lt.1)
theorem Ranging.setCell (h : Ranging kv w r B left) {p : Addr} (h1 : p.block ≠ r) (h2 : p.block ≠ B) (u : Value) : Ranging kv (w.setCell p u) r B left :=
  h.keep (Below.heap_setCell w p u B (fun e => h2 e.symm)) (Below.heap_setCell w p u r (fun e => h1 e.symm))

theorem IsMap.range {P : Program} {m : List (κ × Value)} (h : IsMap kv w B m) {t k e : TypeId} (ht : P.underlying t = some (.map k e)) :
    ∃ w', (Instr.range t (.map (some B))).run P w = .ok (.pointer (some ⟨w.heap.size, 0, none⟩)) w' ∧ Ranging kv w' w.heap.size B m ∧ Below w.heap.size w w' ∧ w'.heap.size = w.heap.size + 1 := by
  have hlt := h.lt
  obtain ⟨es, clock, hB, hp, hst⟩ := h
  refine ⟨_, run_range_map w t k e B es clock ht hB, ⟨by omega, es, clock, clock, clock, #[], ?_, heap_alloc_new w _, hst.1, Nat.le_refl _, Nat.le_refl _, hst.2, ?_⟩, (Below.refl _ _).alloc (Nat.le_refl _) _, by simp⟩
  · rw [heap_alloc_old w _ hlt]; exact hB
  · have : leftOf es #[] = es := by unfold leftOf; simp
    rw [this]; exact hp

theorem filter_split {es : List MapEntry} {p : MapEntry → Bool} {e : MapEntry} (hn : (es.map (·.born)).Nodup) (he : e ∈ es.filter p) :
    ∃ a b, es.filter p = a ++ e :: b ∧ es.filter (fun x => p x && !(x.born == e.born)) = a ++ b := by
  induction es with
  | nil => simp at he
  | cons x es ih =>
    rw [List.map_cons, List.nodup_cons] at hn
    by_cases hxe : x.born = e.born
    · have hnot : e ∉ es := fun h => hn.1 (by rw [hxe]; exact List.mem_map.2 ⟨e, h, rfl⟩)
      have hex : x = e := by
        have := (List.mem_filter.1 he).1
        rcases List.mem_cons.1 this with h | h
        · exact h.symm
        · exact absurd h hnot
      subst hex
      have hpx : p x = true := (List.mem_filter.1 he).2
      refine ⟨[], es.filter p, by simp [hpx], ?_⟩
      rw [List.filter_cons]
      simp only [hpx, beq_self_eq_true, Bool.not_true, Bool.and_false, Bool.false_eq_true, if_false, List.nil_append]
      apply List.filter_congr
      intro y hy
      have : y.born ≠ x.born := fun h => hn.1 (by rw [← h]; exact List.mem_map.2 ⟨y, hy, rfl⟩)
      simp [this]
    · have hne : (x.born == e.born) = false := by simpa using hxe
      have he' : e ∈ es.filter p := by
        rw [List.filter_cons] at he
        split at he
        · rcases List.mem_cons.1 he with h | h
          · exact absurd (by rw [h]) hxe
          · exact h
        · exact he
      obtain ⟨a, b, h1, h2⟩ := ih hn.2 he'
      cases hpx : p x
      · exact ⟨a, b, by simp [hpx, h1], by simp [hpx, h2]⟩
      · exact ⟨x :: a, b, by simp [hpx, h1], by simp [hpx, hne, h2]⟩

theorem map_split {α β : Type} {f : α → β} {l : List α} {a b : List β} {x : β} (h : a ++ x :: b = l.map f) : ∃ l1 y l2, l = l1 ++ y :: l2 ∧ l1.map f = a ∧ f y = x ∧ l2.map f = b := by
  induction a generalizing l with
  | nil =>
    cases l with
    | nil => simp at h
    | cons y l => simp at h; exact ⟨[], y, l, rfl, rfl, h.1.symm, h.2.symm⟩
  | cons c a ih =>
    cases l with
    | nil => simp at h
    | cons y l =>
      simp at h
      obtain ⟨l1, z, l2, rfl, h1, h2, h3⟩ := ih h.2
      exact ⟨y :: l1, z, l2, rfl, by simp [h.1, h1], h2, h3⟩

/-- One step: nothing is left, or one entry comes. -/
theorem Ranging.next {P : Program} (h : Ranging kv w r B left) (ty : TypeId) :
    (left = [] ∧ (Instr.next (.pointer (some ⟨r, 0, none⟩)) false ty).run P w = .ok (.tuple #[.bool false]) w) ∨
    ∃ a p b w', left = a ++ p :: b ∧ (Instr.next (.pointer (some ⟨r, 0, none⟩)) false ty).run P w = .ok (.tuple #[.bool true, kv p.1, p.2]) w' ∧ Ranging kv w' r B (a ++ b) ∧
      (Instr.entry (.pointer (some ⟨r, 0, none⟩))).run P w' = .ok (.tuple #[kv p.1, p.2]) w' ∧ w.grownBy w' (some r) ∧ w'.heap.size = w.heap.size := by
  have hltr := h.lt.1
  obtain ⟨hne, es, clock, since, c0, seen, hB, hr, hold, hsc, hscl, hnd, hp⟩ := h
  rcases run_next_at (P := P) w ty r B since c0 seen es clock hr hB hold hsc with ⟨h0, hrun⟩ | ⟨e, he, w1, hw1, hrun⟩
  · left
    refine ⟨?_, hrun⟩
    have : (leftOf es seen).toList = [] := List.eq_nil_of_length_eq_zero (by simpa using h0)
    rw [this] at hp
    cases left with
    | nil => rfl
    | cons p l => simp [pairsOf] at hp
  · right
    have he' : e ∈ es.toList.filter (fun x => !seen.contains x.born) := by
      have := he; unfold leftOf at this; rwa [Array.toList_filter] at this
    obtain ⟨a, b, h1, h2⟩ := filter_split hnd he'
    have hl1 : (leftOf es seen).toList = a ++ e :: b := by unfold leftOf; rw [Array.toList_filter]; exact h1
    have hl2 : (leftOf es (seen.push e.born)).toList = a ++ b := by
      unfold leftOf; rw [Array.toList_filter, ← h2]
      apply List.filter_congr
      intro x _
      rw [Array.contains_push]
      simp [Bool.not_or]
    rw [hl1] at hp
    unfold pairsOf at hp
    rw [List.map_append, List.map_cons] at hp
    obtain ⟨l1, p, l2, rfl, q1, q2, q3⟩ := map_split hp
    injection q2 with q4 q5
    have hw1h : w1.heap = w.heap := by rcases hw1 with rfl | rfl <;> rfl
    have hset : ∀ o, (setBlock w1 r o).heap[r]? = some o := fun o => by simp [setBlock, hw1h, hltr]
    have hoth : ∀ o j, j ≠ r → (setBlock w1 r o).heap[j]? = w.heap[j]? := fun o j hj => by simp [setBlock, hw1h, Ne.symm hj]
    have hmem : e ∈ es.toList := (List.mem_filter.1 he').1
    rw [← q4, ← q5] at hrun
    refine ⟨l1, p, l2, _, rfl, hrun, ⟨hne, es, clock, since, clock, seen.push e.born, by rw [hoth _ _ (Ne.symm hne)]; exact hB, hset _, hold, hscl, hscl, hnd, ?_⟩, ?_, ?_, ?_⟩
    · rw [hl2]; unfold pairsOf; rw [List.map_append, List.map_append, q1, q3]
    · have := run_entry_at (P := P) (setBlock w1 r (.mapIter (some B) since (seen.push e.born) clock)) r B since seen es clock e (hset _) (by rw [hoth _ _ (Ne.symm hne)]; exact hB) hmem hnd
      rw [← q4, ← q5] at this
      exact this
    · rcases hw1 with rfl | rfl <;> exact ⟨rfl, rfl, rfl, by simp [setBlock], fun k hk hk2 => hoth _ k (fun e => hk2 (by rw [e]))⟩
    · simp [setBlock, hw1h]
end

end Go.Proofs.YteolonjmgojoeaaGreatDoor
/- Maps that read as functions, each key once: what a range over them brings. -/
namespace Go.Proofs.YteolonjmgojoeaaGreatDoor
open Go.RowKit
set_option linter.unusedVariables false

section
variable {κ α : Type} [BEq κ] {P : Program} {k : TypeId} {kv : κ → Value} {enc : α → Value} {w w' : World} {B : Nat} {f : κ → Option α}
def NMap (kv : κ → Value) (enc : α → Value) (w : World) (B : Nat) (f : κ → Option α) : Prop := ∃ m : List (κ × Value), IsMap kv w B m ∧ (m.map (·.1)).Nodup ∧ ∀ x, aget m x = (f x).map enc
theorem NMap.fmap (h : NMap kv enc w B f) : FMap kv enc w B f := by obtain ⟨m, h, -, r⟩ := h; exact ⟨m, h, r⟩
theorem NMap.lt (h : NMap kv enc w B f) : B < w.heap.size := h.fmap.lt
theorem NMap.keep (h : NMap kv enc w B f) (hk : w'.heap[B]? = w.heap[B]?) : NMap kv enc w' B f := by obtain ⟨m, h, n, r⟩ := h; exact ⟨m, h.keep hk, n, r⟩
theorem NMap.below (h : NMap kv enc w B f) (hb : Below w.heap.size w w') : NMap kv enc w' B f := by obtain ⟨m, h, n, r⟩ := h; exact ⟨m, h.below hb, n, r⟩
theorem NMap.new (kv : κ → Value) (enc : α → Value) (w : World) : NMap kv enc (w.alloc (.map #[] 0)) w.heap.size (fun _ => none) := ⟨[], IsMap.new kv w, List.nodup_nil, fun _ => rfl⟩
theorem aset_keys [LawfulBEq κ] (k : κ) (v : Value) : ∀ (m : List (κ × Value)) (x : κ), x ∈ (aset m k v).map (·.1) → x = k ∨ x ∈ m.map (·.1)
  | [], x, h => by simp [aset] at h; exact .inl h
  | p :: m, x, h => by
    by_cases hk : (k == p.1) = true
    · have e : k = p.1 := eq_of_beq hk
      simp only [aset, hk, if_true, List.map_cons, List.mem_cons] at h ⊢
      rcases h with h | h
      · exact .inl h
      · exact .inr (.inr h)
    · simp only [aset, hk, if_false, List.map_cons, List.mem_cons, Bool.false_eq_true] at h ⊢
      rcases h with h | h
      · exact .inr (.inl h)
      · rcases aset_keys k v m x h with h | h
        · exact .inl h
        · exact .inr (.inr h)
theorem aset_nodup [LawfulBEq κ] (k : κ) (v : Value) : ∀ (m : List (κ × Value)), (m.map (·.1)).Nodup → ((aset m k v).map (·.1)).Nodup
  | [], _ => by simp [aset]
  | p :: m, h => by
    rw [List.map_cons, List.nodup_cons] at h
    by_cases hk : (k == p.1) = true
    · have e : k = p.1 := eq_of_beq hk
      simp only [aset, hk, if_true, List.map_cons]
      rw [e, List.nodup_cons]
      exact h
    · have hne : ¬ k = p.1 := fun e => hk (by rw [e]; exact beq_self_eq_true _)
      simp only [aset, hk, if_false, List.map_cons, Bool.false_eq_true]
      rw [List.nodup_cons]
      refine ⟨fun hx => ?_, aset_nodup k v m h.2⟩
      rcases aset_keys k v m p.1 hx with e | e
      · exact hne e.symm
      · exact h.1 e
theorem NMap.update [LawfulBEq κ] [DecidableEq κ] (h : NMap kv enc w B f) (K : KeyOk P k kv) {t e : TypeId} (ht : P.underlying t = some (.map k e)) (x : κ) (v : α) :
    ∃ w', (Instr.mapUpdate t (.map (some B)) (kv x) (enc v)).run P w = .ok () w' ∧ NMap kv enc w' B (upd f x v) ∧ w.grownBy w' (some B) ∧ w'.heap.size = w.heap.size := by
  obtain ⟨m, h, n, r⟩ := h
  obtain ⟨w', h1, h2, h3, h4⟩ := h.update K ht x (enc v)
  refine ⟨w', h1, ⟨_, h2, aset_nodup _ _ _ n, fun y => ?_⟩, h3, h4⟩
  rw [aget_aset]
  unfold upd
  by_cases e : y = x
  · rw [if_pos e, if_pos e]; rfl
  · rw [if_neg e, if_neg e]; exact r y
theorem aget_mem [LawfulBEq κ] : ∀ {m : List (κ × Value)}, (m.map (·.1)).Nodup → ∀ {p : κ × Value}, p ∈ m → aget m p.1 = some p.2
  | [], _, p, h => by cases h
  | q :: m, hn, p, h => by
    rw [List.map_cons, List.nodup_cons] at hn
    unfold aget
    rw [List.find?_cons]
    rcases List.mem_cons.1 h with e | h
    · subst e; simp
    · have hne : (p.1 == q.1) = false := by
        cases hb : (p.1 == q.1)
        · rfl
        · exact absurd (List.mem_map.2 ⟨p, h, eq_of_beq hb⟩) hn.1
      rw [hne]
      exact aget_mem hn.2 h
theorem aget_none [LawfulBEq κ] : ∀ {m : List (κ × Value)} {x : κ}, x ∉ m.map (·.1) → aget m x = none
  | [], x, _ => rfl
  | q :: m, x, h => by
    rw [List.map_cons, List.mem_cons] at h
    have hne : (x == q.1) = false := by
      cases hb : (x == q.1)
      · rfl
      · exact absurd (.inl (eq_of_beq hb)) h
    unfold aget
    rw [List.find?_cons, hne]
    exact aget_none fun e => h (.inr e)
/-- The keys, each once, each with its value. -/
theorem NMap.keys [LawfulBEq κ] (h : NMap kv enc w B f) (z : Value) : ∃ ks : List κ, ks.Nodup ∧ (∀ x, x ∈ ks ↔ (f x).isSome = true) ∧ IsMap kv w B (ks.map fun x => (x, ((f x).map enc).getD z)) := by
  obtain ⟨m, h, n, r⟩ := h
  refine ⟨m.map (·.1), n, fun x => ?_, ?_⟩
  · constructor
    · intro hx
      obtain ⟨p, hp, rfl⟩ := List.mem_map.1 hx
      have := aget_mem n hp
      rw [r] at this
      cases hf : f p.1 with
      | none => rw [hf] at this; cases this
      | some _ => rfl
    · intro hx
      by_cases hm : x ∈ m.map (·.1)
      · exact hm
      · have := aget_none hm
        rw [r] at this
        cases hf : f x with
        | none => rw [hf] at hx; cases hx
        | some _ => rw [hf] at this; cases this
  · have e : (m.map (·.1)).map (fun x => (x, ((f x).map enc).getD z)) = m := by
      rw [List.map_map]
      conv => rhs; rw [← List.map_id m]
      refine List.map_congr_left fun p hp => ?_
      have := aget_mem n hp
      rw [r] at this
      show (p.1, ((f p.1).map enc).getD z) = p
      rw [this]; rfl
    rw [e]; exact h
end
end Go.Proofs.YteolonjmgojoeaaGreatDoor
/- A row of the call's own: kept by what others write. -/
namespace Go.Proofs.YteolonjmgojoeaaGreatDoor
open Go.RowKit
set_option linter.unusedVariables false
set_option linter.unusedSimpArgs false

theorem own_mono {w : World} {base base' : Nat} {e : TypeId} {size n : Nat} {v : Value} {xs : List Value} (h : w.ownsRow base e size v n xs) (hb : base' ≤ base) : w.ownsRow base' e size v n xs := by
  obtain ⟨h1, h2 | ⟨g, cap, cur, e1, h3, h4⟩⟩ := h
  · exact ⟨h1, .inl h2⟩
  · exact ⟨h1, .inr ⟨g, cap, cur, e1, Nat.le_trans hb h3, h4⟩⟩
theorem own_grown {w w' : World} {base : Nat} {e : TypeId} {size n : Nat} {v : Value} {xs : List Value} {row : Option Nat} (h : w.ownsRow base e size v n xs) (hg : w.grownBy w' row) (hne : ∀ x, v.ownBlock = some x → row ≠ some x) : w'.ownsRow base e size v n xs := by
  obtain ⟨h1, h2 | ⟨g, cap, cur, e1, h3, h4, h5⟩⟩ := h
  · exact ⟨h1, .inl h2⟩
  · exact ⟨h1, .inr ⟨g, cap, cur, e1, h3, by rw [hg.block g (Array.getElem?_eq_some_iff.1 h4).1 (fun e => hne g (by rw [e1]; rfl) e.symm)]; exact h4, h5⟩⟩
theorem own_setCell {w : World} {base : Nat} {e : TypeId} {size n : Nat} {v : Value} {xs : List Value} (h : w.ownsRow base e size v n xs) {p : Addr} (hne : v.ownBlock ≠ some p.block) (u : Value) : (w.setCell p u).ownsRow base e size v n xs := by
  obtain ⟨h1, h2 | ⟨g, cap, cur, e1, h3, h4, h5⟩⟩ := h
  · exact ⟨h1, .inl h2⟩
  · exact ⟨h1, .inr ⟨g, cap, cur, e1, h3, by rw [Below.heap_setCell w p u g (fun e => hne (by rw [e1, ← e]; rfl))]; exact h4, h5⟩⟩
end Go.Proofs.YteolonjmgojoeaaGreatDoor
