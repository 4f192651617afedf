/- Plain: what history.List lists. -/
import Derived.Test.YtnblfaagchflaaaGreatDoorMgw19
import Derived.Test.YtnblfaagchflaaaGreatDoorMgw17
import Derived.Test.YtnblfaagchflaaaGreatDoorMap
import Derived.Maps.RangeRun
namespace Go.Proofs.YtnblfaagchflaaaGreatDoor
open Go.RowKit
set_option linter.unusedVariables false
set_option linter.unusedSimpArgs false

/-- The last revision of each path as of a change. -/
def lsM (m : Int) (f : ByteArray → Option Rev) (r : Rev) : ByteArray → Option Rev := if r.chg ≤ m ∧ ((f r.path).isSome = false ∨ (lastR f r.path).num < r.num) then upd f r.path r else f
def lsOf (D : List Rev) (m : Int) : ByteArray → Option Rev := D.foldl (lsM m) fun _ => none
def cntB (m : Int) (v : Rev) : Bool := decide (v.chg ≤ m)
theorem lsM_at (m : Int) (f : ByteArray → Option Rev) (r : Rev) (q : ByteArray) : lsM m f r q = gS q (cntB m) (f q) r := by
  unfold lsM gS cntB
  by_cases hp : r.path = q
  · subst hp
    by_cases hc : r.chg ≤ m
    · unfold lastR upd
      cases hf : f r.path with
      | none => simp [hc]
      | some b =>
        by_cases hn : b.num < r.num
        · simp [hc, hn]
        · simp [hc, hn, hf]
    · simp [hc]
  · have hq : ¬ q = r.path := fun e => hp e.symm
    simp only [hp, false_and, if_false]
    split
    · unfold upd; rw [if_neg hq]
    · rfl
theorem lsFold_at (m : Int) (q : ByteArray) : ∀ (D : List Rev) (f : ByteArray → Option Rev), (D.foldl (lsM m) f) q = D.foldl (gS q (cntB m)) (f q)
  | [], _ => rfl
  | r :: D, f => by rw [List.foldl_cons, List.foldl_cons, lsFold_at m q D, lsM_at]
theorem lsOf_eq (D : List Rev) (m : Int) (q : ByteArray) : lsOf D m q = greatest D q (cntB m) := by rw [greatest_gS]; exact lsFold_at m q D _
theorem gFold_mem (q : ByteArray) (p : Rev → Bool) : ∀ (D : List Rev) (o : Option Rev) (r : Rev), D.foldl (gS q p) o = some r → o = some r ∨ (r ∈ D ∧ r.path = q ∧ p r = true)
  | [], o, r, h => .inl h
  | v :: D, o, r, h => by
    rw [List.foldl_cons] at h
    rcases gFold_mem q p D _ r h with h | ⟨h1, h2⟩
    · by_cases hc : v.path = q ∧ p v = true
      · unfold gS at h
        rw [if_pos hc] at h
        cases o with
        | none => injection h with h; subst h; exact .inr ⟨List.mem_cons_self .., hc⟩
        | some b =>
          by_cases hn : b.num < v.num
          · have h : (if b.num < v.num then some v else some b) = some r := h
            rw [if_pos hn] at h
            injection h with h; subst h; exact .inr ⟨List.mem_cons_self .., hc⟩
          · have h : (if b.num < v.num then some v else some b) = some r := h
            rw [if_neg hn] at h
            exact .inl h
      · rw [gS_far hc] at h; exact .inl h
    · exact .inr ⟨List.mem_cons_of_mem _ h1, h2⟩
theorem lsOf_mem {D : List Rev} {m : Int} {q : ByteArray} {r : Rev} (h : lsOf D m q = some r) : r ∈ D ∧ r.path = q := by
  rw [lsOf_eq, greatest_gS] at h
  rcases gFold_mem q _ D none r h with h | h
  · cases h
  · exact ⟨h.1, h.2.1⟩
theorem lsOf_snoc (D : List Rev) (m : Int) (k : Nat) (h : k < D.length) : lsOf (D.take (k + 1)) m = lsM m (lsOf (D.take k) m) D[k] := by
  unfold lsOf
  rw [List.take_succ_eq_append_getElem h, List.foldl_append]; rfl
/-- What the list has. -/
def lsKeep (p : Pat) (f : ByteArray → Option Rev) (q : ByteArray) : Bool := (matchP p q).isSome && liveA (lastR f q).act
def lsIn (D : List Rev) (p : Pat) (m : Int) (r : Rev) : Prop := greatest D r.path (cntB m) = some r ∧ (matchP p r.path).isSome = true ∧ liveA r.act = true
structure LsOk (D : List Rev) (p : Pat) (m : Int) (l : List Rev) : Prop where
  mem : ∀ r, r ∈ l ↔ lsIn D p m r
  sort : l.Pairwise (fun a b => cmpP a.path b.path < 0)
theorem matchP_check {p : Pat} {s : ByteArray} (h : patE p ≠ 0) : matchP p s = none := by
  unfold matchP
  split
  · rfl
  · exact if_neg fun e => h e.1
theorem lsOk_none {D : List Rev} {p : Pat} {m : Int} (h : patE p ≠ 0) : LsOk D p m [] :=
  ⟨fun r => ⟨fun h => by (cases h), fun hr => by have := hr.2.1; rw [matchP_check h] at this; cases this⟩, List.Pairwise.nil⟩
theorem lastR_path {D : List Rev} {m : Int} {q : ByteArray} (h : (lsOf D m q).isSome = true) : (lastR (lsOf D m) q).path = q ∧ lsOf D m q = some (lastR (lsOf D m) q) ∧ lastR (lsOf D m) q ∈ D := by
  unfold lastR
  cases hf : lsOf D m q with
  | none => rw [hf] at h; cases h
  | some r => exact ⟨(lsOf_mem hf).2, rfl, (lsOf_mem hf).1⟩
/-- The entries that are kept, in any order. -/
def lsPick (D : List Rev) (p : Pat) (m : Int) (ks : List ByteArray) : List Rev := (ks.filter (lsKeep p (lsOf D m))).map (lastR (lsOf D m))
theorem lsPick_snoc (D : List Rev) (p : Pat) (m : Int) (ks : List ByteArray) (q : ByteArray) : lsPick D p m (ks ++ [q]) = lsPick D p m ks ++ (if lsKeep p (lsOf D m) q then [lastR (lsOf D m) q] else []) := by
  unfold lsPick
  rw [List.filter_append, List.map_append, List.filter_cons, List.filter_nil]
  split <;> rfl
theorem lsPick_mem {D : List Rev} {p : Pat} {m : Int} {ks : List ByteArray} (hk : ∀ x, x ∈ ks ↔ (lsOf D m x).isSome = true) (r : Rev) : r ∈ lsPick D p m ks ↔ lsIn D p m r := by
  unfold lsPick lsIn
  rw [List.mem_map, ← lsOf_eq]
  constructor
  · rintro ⟨q, hq, rfl⟩
    obtain ⟨h1, h2⟩ := List.mem_filter.1 hq
    obtain ⟨e1, e2, -⟩ := lastR_path ((hk q).1 h1)
    unfold lsKeep at h2
    rw [Bool.and_eq_true] at h2
    rw [e1]
    exact ⟨e2, h2⟩
  · rintro ⟨h1, h2, h3⟩
    have hl : lastR (lsOf D m) r.path = r := by unfold lastR; rw [h1]; rfl
    refine ⟨r.path, List.mem_filter.2 ⟨(hk _).2 (by rw [h1]; rfl), ?_⟩, hl⟩
    unfold lsKeep
    rw [hl, h2, h3]; rfl
theorem lsPick_nodup {D : List Rev} {p : Pat} {m : Int} {ks : List ByteArray} (hn : ks.Nodup) (hk : ∀ x, x ∈ ks → (lsOf D m x).isSome = true) : ((lsPick D p m ks).map (·.path)).Nodup := by
  unfold lsPick
  rw [List.map_map]
  have e : (ks.filter (lsKeep p (lsOf D m))).map ((fun r : Rev => r.path) ∘ lastR (lsOf D m)) = ks.filter (lsKeep p (lsOf D m)) := by
    conv => rhs; rw [← List.map_id (ks.filter (lsKeep p (lsOf D m)))]
    exact List.map_congr_left fun q hq => (lastR_path (hk q (List.mem_filter.1 hq).1)).1
  rw [e]
  exact hn.filter _
/-- A permutation that is sorted: what is listed. -/
theorem lsOk_sorted {D : List Rev} {p : Pat} {m : Int} {ks : List ByteArray} {l : List Rev} (hv : ∀ r ∈ D, validS r.path = true) (hn : ks.Nodup) (hk : ∀ x, x ∈ ks ↔ (lsOf D m x).isSome = true) (hp : l.Perm (lsPick D p m ks))
    (hs : l.Pairwise (fun a b => ¬ cmpP b.path a.path < 0)) : LsOk D p m l := by
  have hmem : ∀ r, r ∈ l ↔ lsIn D p m r := fun r => by rw [hp.mem_iff]; exact lsPick_mem hk r
  refine ⟨hmem, ?_⟩
  have hnd : (l.map (·.path)).Nodup := ((hp.map (·.path)).nodup_iff).2 (lsPick_nodup hn fun x hx => (hk x).1 hx)
  have hvl : ∀ r ∈ l, validS r.path = true := fun r hr => by
    have := ((hmem r).1 hr).1
    rw [← lsOf_eq] at this
    exact hv r (lsOf_mem this).1
  rw [List.pairwise_iff_getElem] at hs ⊢
  intro i j hi hj hij
  have h1 := hs i j hi hj hij
  have hne : cmpP l[i].path l[j].path ≠ 0 := fun e => by
    have e2 := cmpP_eq (hvl _ (List.getElem_mem hi)) (hvl _ (List.getElem_mem hj)) e
    have h3 := List.pairwise_iff_getElem.1 hnd i j (by simpa using hi) (by simpa using hj) hij
    rw [List.getElem_map, List.getElem_map] at h3
    exact h3 e2
  rw [cmpP_anti] at h1
  omega
theorem strict_unique {l m : List Rev} (hl : l.Pairwise (fun a b => cmpP a.path b.path < 0)) (hm : m.Pairwise (fun a b => cmpP a.path b.path < 0)) (h : ∀ r, r ∈ l ↔ r ∈ m) : l = m := by
  induction l generalizing m with
  | nil =>
    cases m with
    | nil => rfl
    | cons b m => exact absurd ((h b).2 (List.mem_cons_self ..)) (by simp)
  | cons a l ih =>
    cases m with
    | nil => exact absurd ((h a).1 (List.mem_cons_self ..)) (by simp)
    | cons b m =>
      rw [List.pairwise_cons] at hl hm
      have hab : a = b := by
        rcases List.mem_cons.1 ((h a).1 (List.mem_cons_self ..)) with e | e
        · exact e
        · rcases List.mem_cons.1 ((h b).2 (List.mem_cons_self ..)) with e2 | e2
          · exact e2.symm
          · have h1 := hl.1 b e2
            have h2 := hm.1 a e
            rw [cmpP_anti] at h2
            omega
      subst hab
      have hself : ¬ cmpP a.path a.path < 0 := by have := cmpP_anti a.path a.path; omega
      congr 1
      refine ih hl.2 hm.2 fun r => ?_
      constructor
      · intro hr
        rcases List.mem_cons.1 ((h r).1 (List.mem_cons_of_mem _ hr)) with e | e
        · subst e; exact absurd (hl.1 r hr) hself
        · exact e
      · intro hr
        rcases List.mem_cons.1 ((h r).2 (List.mem_cons_of_mem _ hr)) with e | e
        · subst e; exact absurd (hm.1 r hr) hself
        · exact e
theorem LsOk.unique {D : List Rev} {p : Pat} {m : Int} {l l' : List Rev} (h : LsOk D p m l) (h' : LsOk D p m l') : l = l' :=
  strict_unique h.sort h'.sort fun r => (h.mem r).trans (h'.mem r).symm
end Go.Proofs.YtnblfaagchflaaaGreatDoor
/- Ranging over a map that the round does not write: the entries that are left, in any order. -/
namespace Go.Proofs.YtnblfaagchflaaaGreatDoor
open Go.RowKit
open Go.ChangeMaps (setBlock)
set_option linter.unusedVariables false

section
variable {κ : Type} {kv : κ → Value} {w w' : World} {r B : Nat} {left : List (κ × Value)}
/-- Block r is an iterator over the map in block B; these entries are still to come. -/
def Ranging (kv : κ → Value) (w : World) (r B : Nat) (left : List (κ × Value)) : Prop :=
  r ≠ B ∧ ∃ (es : Array MapEntry) (clock since c0 : Nat) (seen : Array Nat), w.heap[B]? = some (.map es clock) ∧ w.heap[r]? = some (.mapIter (some B) since seen c0) ∧ (∀ e ∈ es.toList, e.born < since) ∧ since ≤ c0 ∧ since ≤ clock ∧ (es.toList.map (·.born)).Nodup ∧
    pairsOf (leftOf es seen).toList = left.map fun p => (kv p.1, p.2)

theorem Ranging.keep (h : Ranging kv w r B left) (h1 : w'.heap[B]? = w.heap[B]?) (h2 : w'.heap[r]? = w.heap[r]?) : Ranging kv w' r B left := by
  obtain ⟨hne, es, clock, since, c0, seen, a, b, rest⟩ := h
  exact ⟨hne, es, clock, since, c0, seen, h1.trans a, h2.trans b, rest⟩
theorem Ranging.lt (h : Ranging kv w r B left) : r < w.heap.size ∧ B < w.heap.size := by
  obtain ⟨hne, es, clock, since, c0, seen, a, b, rest⟩ := h
  exact ⟨(Array.getElem?_eq_some_iff.1 b).1, (Array.getElem?_eq_some_iff.1 a).1⟩
theorem Ranging.below (h : Ranging kv w r B left) (hb : Below w.heap.size w w') : Ranging kv w' r B left := h.keep (hb.block _ h.lt.2) (hb.block _ h.lt.1)
theorem Ranging.setCell (h : Ranging kv w r B left) {p : Addr} (h1 : p.block ≠ r) (h2 : p.block ≠ B) (u : Value) : Ranging kv (w.setCell p u) r B left :=
  h.keep (Below.heap_setCell w p u B (fun e => h2 e.symm)) (Below.heap_setCell w p u r (fun e => h1 e.symm))

theorem IsMap.range {P : Program} {m : List (κ × Value)} (h : IsMap kv w B m) {t k e : TypeId} (ht : P.underlying t = some (.map k e)) :
    ∃ w', (Instr.range t (.map (some B))).run P w = .ok (.pointer (some ⟨w.heap.size, 0, none⟩)) w' ∧ Ranging kv w' w.heap.size B m ∧ Below w.heap.size w w' ∧ w'.heap.size = w.heap.size + 1 := by
  have hlt := h.lt
  obtain ⟨es, clock, hB, hp, hst⟩ := h
  refine ⟨_, run_range_map w t k e B es clock ht hB, ⟨by omega, es, clock, clock, clock, #[], ?_, heap_alloc_new w _, hst.1, Nat.le_refl _, Nat.le_refl _, hst.2, ?_⟩, (Below.refl _ _).alloc (Nat.le_refl _) _, by simp⟩
  · rw [heap_alloc_old w _ hlt]; exact hB
  · have : leftOf es #[] = es := by unfold leftOf; simp
    rw [this]; exact hp

theorem filter_split {es : List MapEntry} {p : MapEntry → Bool} {e : MapEntry} (hn : (es.map (·.born)).Nodup) (he : e ∈ es.filter p) :
    ∃ a b, es.filter p = a ++ e :: b ∧ es.filter (fun x => p x && !(x.born == e.born)) = a ++ b := by
  induction es with
  | nil => simp at he
  | cons x es ih =>
    rw [List.map_cons, List.nodup_cons] at hn
    by_cases hxe : x.born = e.born
    · have hnot : e ∉ es := fun h => hn.1 (by rw [hxe]; exact List.mem_map.2 ⟨e, h, rfl⟩)
      have hex : x = e := by
        have := (List.mem_filter.1 he).1
        rcases List.mem_cons.1 this with h | h
        · exact h.symm
        · exact absurd h hnot
      subst hex
      have hpx : p x = true := (List.mem_filter.1 he).2
      refine ⟨[], es.filter p, by simp [hpx], ?_⟩
      rw [List.filter_cons]
      simp only [hpx, beq_self_eq_true, Bool.not_true, Bool.and_false, Bool.false_eq_true, if_false, List.nil_append]
      apply List.filter_congr
      intro y hy
      have : y.born ≠ x.born := fun h => hn.1 (by rw [← h]; exact List.mem_map.2 ⟨y, hy, rfl⟩)
      simp [this]
    · have hne : (x.born == e.born) = false := by simpa using hxe
      have he' : e ∈ es.filter p := by
        rw [List.filter_cons] at he
        split at he
        · rcases List.mem_cons.1 he with h | h
          · exact absurd (by rw [h]) hxe
          · exact h
        · exact he
      obtain ⟨a, b, h1, h2⟩ := ih hn.2 he'
      cases hpx : p x
      · exact ⟨a, b, by simp [hpx, h1], by simp [hpx, h2]⟩
      · exact ⟨x :: a, b, by simp [hpx, h1], by simp [hpx, hne, h2]⟩

theorem map_split {α β : Type} {f : α → β} {l : List α} {a b : List β} {x : β} (h : a ++ x :: b = l.map f) : ∃ l1 y l2, l = l1 ++ y :: l2 ∧ l1.map f = a ∧ f y = x ∧ l2.map f = b := by
  induction a generalizing l with
  | nil =>
    cases l with
    | nil => simp at h
    | cons y l => simp at h; exact ⟨[], y, l, rfl, rfl, h.1.symm, h.2.symm⟩
  | cons c a ih =>
    cases l with
    | nil => simp at h
    | cons y l =>
      simp at h
      obtain ⟨l1, z, l2, rfl, h1, h2, h3⟩ := ih h.2
      exact ⟨y :: l1, z, l2, rfl, by simp [h.1, h1], h2, h3⟩

/-- One step: nothing is left, or one entry comes. -/
theorem Ranging.next {P : Program} (h : Ranging kv w r B left) (ty : TypeId) :
    (left = [] ∧ (Instr.next (.pointer (some ⟨r, 0, none⟩)) false ty).run P w = .ok (.tuple #[.bool false]) w) ∨
    ∃ a p b w', left = a ++ p :: b ∧ (Instr.next (.pointer (some ⟨r, 0, none⟩)) false ty).run P w = .ok (.tuple #[.bool true, kv p.1, p.2]) w' ∧ Ranging kv w' r B (a ++ b) ∧
      (Instr.entry (.pointer (some ⟨r, 0, none⟩))).run P w' = .ok (.tuple #[kv p.1, p.2]) w' ∧ w.grownBy w' (some r) ∧ w'.heap.size = w.heap.size := by
  have hltr := h.lt.1
  obtain ⟨hne, es, clock, since, c0, seen, hB, hr, hold, hsc, hscl, hnd, hp⟩ := h
  rcases run_next_at (P := P) w ty r B since c0 seen es clock hr hB hold hsc with ⟨h0, hrun⟩ | ⟨e, he, w1, hw1, hrun⟩
  · left
    refine ⟨?_, hrun⟩
    have : (leftOf es seen).toList = [] := List.eq_nil_of_length_eq_zero (by simpa using h0)
    rw [this] at hp
    cases left with
    | nil => rfl
    | cons p l => simp [pairsOf] at hp
  · right
    have he' : e ∈ es.toList.filter (fun x => !seen.contains x.born) := by
      have := he; unfold leftOf at this; rwa [Array.toList_filter] at this
    obtain ⟨a, b, h1, h2⟩ := filter_split hnd he'
    have hl1 : (leftOf es seen).toList = a ++ e :: b := by unfold leftOf; rw [Array.toList_filter]; exact h1
    have hl2 : (leftOf es (seen.push e.born)).toList = a ++ b := by
      unfold leftOf; rw [Array.toList_filter, ← h2]
      apply List.filter_congr
      intro x _
      rw [Array.contains_push]
      simp [Bool.not_or]
    rw [hl1] at hp
    unfold pairsOf at hp
    rw [List.map_append, List.map_cons] at hp
    obtain ⟨l1, p, l2, rfl, q1, q2, q3⟩ := map_split hp
    injection q2 with q4 q5
    have hw1h : w1.heap = w.heap := by rcases hw1 with rfl | rfl <;> rfl
    have hset : ∀ o, (setBlock w1 r o).heap[r]? = some o := fun o => by simp [setBlock, hw1h, hltr]
    have hoth : ∀ o j, j ≠ r → (setBlock w1 r o).heap[j]? = w.heap[j]? := fun o j hj => by simp [setBlock, hw1h, Ne.symm hj]
    have hmem : e ∈ es.toList := (List.mem_filter.1 he').1
    rw [← q4, ← q5] at hrun
    refine ⟨l1, p, l2, _, rfl, hrun, ⟨hne, es, clock, since, clock, seen.push e.born, by rw [hoth _ _ (Ne.symm hne)]; exact hB, hset _, hold, hscl, hscl, hnd, ?_⟩, ?_, ?_, ?_⟩
    · rw [hl2]; unfold pairsOf; rw [List.map_append, List.map_append, q1, q3]
    · have := run_entry_at (P := P) (setBlock w1 r (.mapIter (some B) since (seen.push e.born) clock)) r B since seen es clock e (hset _) (by rw [hoth _ _ (Ne.symm hne)]; exact hB) hmem hnd
      rw [← q4, ← q5] at this
      exact this
    · rcases hw1 with rfl | rfl <;> exact ⟨rfl, rfl, rfl, by simp [setBlock], fun k hk hk2 => hoth _ k (fun e => hk2 (by rw [e]))⟩
    · simp [setBlock, hw1h]
end

end Go.Proofs.YtnblfaagchflaaaGreatDoor
/- Maps that read as functions, each key once: what a range over them brings. -/
namespace Go.Proofs.YtnblfaagchflaaaGreatDoor
open Go.RowKit
set_option linter.unusedVariables false

section
variable {κ α : Type} [BEq κ] {P : Program} {k : TypeId} {kv : κ → Value} {enc : α → Value} {w w' : World} {B : Nat} {f : κ → Option α}
def NMap (kv : κ → Value) (enc : α → Value) (w : World) (B : Nat) (f : κ → Option α) : Prop := ∃ m : List (κ × Value), IsMap kv w B m ∧ (m.map (·.1)).Nodup ∧ ∀ x, aget m x = (f x).map enc
theorem NMap.fmap (h : NMap kv enc w B f) : FMap kv enc w B f := by obtain ⟨m, h, -, r⟩ := h; exact ⟨m, h, r⟩
theorem NMap.lt (h : NMap kv enc w B f) : B < w.heap.size := h.fmap.lt
theorem NMap.keep (h : NMap kv enc w B f) (hk : w'.heap[B]? = w.heap[B]?) : NMap kv enc w' B f := by obtain ⟨m, h, n, r⟩ := h; exact ⟨m, h.keep hk, n, r⟩
theorem NMap.below (h : NMap kv enc w B f) (hb : Below w.heap.size w w') : NMap kv enc w' B f := by obtain ⟨m, h, n, r⟩ := h; exact ⟨m, h.below hb, n, r⟩
theorem NMap.new (kv : κ → Value) (enc : α → Value) (w : World) : NMap kv enc (w.alloc (.map #[] 0)) w.heap.size (fun _ => none) := ⟨[], IsMap.new kv w, List.nodup_nil, fun _ => rfl⟩
theorem aset_keys [LawfulBEq κ] (k : κ) (v : Value) : ∀ (m : List (κ × Value)) (x : κ), x ∈ (aset m k v).map (·.1) → x = k ∨ x ∈ m.map (·.1)
  | [], x, h => by simp [aset] at h; exact .inl h
  | p :: m, x, h => by
    by_cases hk : (k == p.1) = true
    · have e : k = p.1 := eq_of_beq hk
      simp only [aset, hk, if_true, List.map_cons, List.mem_cons] at h ⊢
      rcases h with h | h
      · exact .inl h
      · exact .inr (.inr h)
    · simp only [aset, hk, if_false, List.map_cons, List.mem_cons, Bool.false_eq_true] at h ⊢
      rcases h with h | h
      · exact .inr (.inl h)
      · rcases aset_keys k v m x h with h | h
        · exact .inl h
        · exact .inr (.inr h)
theorem aset_nodup [LawfulBEq κ] (k : κ) (v : Value) : ∀ (m : List (κ × Value)), (m.map (·.1)).Nodup → ((aset m k v).map (·.1)).Nodup
  | [], _ => by simp [aset]
  | p :: m, h => by
    rw [List.map_cons, List.nodup_cons] at h
    by_cases hk : (k == p.1) = true
    · have e : k = p.1 := eq_of_beq hk
      simp only [aset, hk, if_true, List.map_cons]
      rw [e, List.nodup_cons]
      exact h
    · have hne : ¬ k = p.1 := fun e => hk (by rw [e]; exact beq_self_eq_true _)
      simp only [aset, hk, if_false, List.map_cons, Bool.false_eq_true]
      rw [List.nodup_cons]
      refine ⟨fun hx => ?_, aset_nodup k v m h.2⟩
      rcases aset_keys k v m p.1 hx with e | e
      · exact hne e.symm
      · exact h.1 e
theorem NMap.update [LawfulBEq κ] [DecidableEq κ] (h : NMap kv enc w B f) (K : KeyOk P k kv) {t e : TypeId} (ht : P.underlying t = some (.map k e)) (x : κ) (v : α) :
    ∃ w', (Instr.mapUpdate t (.map (some B)) (kv x) (enc v)).run P w = .ok () w' ∧ NMap kv enc w' B (upd f x v) ∧ w.grownBy w' (some B) ∧ w'.heap.size = w.heap.size := by
  obtain ⟨m, h, n, r⟩ := h
  obtain ⟨w', h1, h2, h3, h4⟩ := h.update K ht x (enc v)
  refine ⟨w', h1, ⟨_, h2, aset_nodup _ _ _ n, fun y => ?_⟩, h3, h4⟩
  rw [aget_aset]
  unfold upd
  by_cases e : y = x
  · rw [if_pos e, if_pos e]; rfl
  · rw [if_neg e, if_neg e]; exact r y
theorem aget_mem [LawfulBEq κ] : ∀ {m : List (κ × Value)}, (m.map (·.1)).Nodup → ∀ {p : κ × Value}, p ∈ m → aget m p.1 = some p.2
  | [], _, p, h => by cases h
  | q :: m, hn, p, h => by
    rw [List.map_cons, List.nodup_cons] at hn
    unfold aget
    rw [List.find?_cons]
    rcases List.mem_cons.1 h with e | h
    · subst e; simp
    · have hne : (p.1 == q.1) = false := by
        cases hb : (p.1 == q.1)
        · rfl
        · exact absurd (List.mem_map.2 ⟨p, h, eq_of_beq hb⟩) hn.1
      rw [hne]
      exact aget_mem hn.2 h
theorem aget_none [LawfulBEq κ] : ∀ {m : List (κ × Value)} {x : κ}, x ∉ m.map (·.1) → aget m x = none
  | [], x, _ => rfl
  | q :: m, x, h => by
    rw [List.map_cons, List.mem_cons] at h
    have hne : (x == q.1) = false := by
      cases hb : (x == q.1)
      · rfl
      · exact absurd (.inl (eq_of_beq hb)) h
    unfold aget
    rw [List.find?_cons, hne]
    exact aget_none fun e => h (.inr e)
/-- The keys, each once, each with its value. -/
theorem NMap.keys [LawfulBEq κ] (h : NMap kv enc w B f) (z : Value) : ∃ ks : List κ, ks.Nodup ∧ (∀ x, x ∈ ks ↔ (f x).isSome = true) ∧ IsMap kv w B (ks.map fun x => (x, ((f x).map enc).getD z)) := by
  obtain ⟨m, h, n, r⟩ := h
  refine ⟨m.map (·.1), n, fun x => ?_, ?_⟩
  · constructor
    · intro hx
      obtain ⟨p, hp, rfl⟩ := List.mem_map.1 hx
      have := aget_mem n hp
      rw [r] at this
      cases hf : f p.1 with
      | none => rw [hf] at this; cases this
      | some _ => rfl
    · intro hx
      by_cases hm : x ∈ m.map (·.1)
      · exact hm
      · have := aget_none hm
        rw [r] at this
        cases hf : f x with
        | none => rw [hf] at hx; cases hx
        | some _ => rw [hf] at this; cases this
  · have e : (m.map (·.1)).map (fun x => (x, ((f x).map enc).getD z)) = m := by
      rw [List.map_map]
      conv => rhs; rw [← List.map_id m]
      refine List.map_congr_left fun p hp => ?_
      have := aget_mem n hp
      rw [r] at this
      show (p.1, ((f p.1).map enc).getD z) = p
      rw [this]; rfl
    rw [e]; exact h
end
end Go.Proofs.YtnblfaagchflaaaGreatDoor
