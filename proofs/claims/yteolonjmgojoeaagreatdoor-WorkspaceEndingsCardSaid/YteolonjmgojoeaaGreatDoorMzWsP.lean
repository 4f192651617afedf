/- delete from a map; contents' IDs as keys. -/
import Derived.Test.YteolonjmgojoeaaGreatDoorMzCmp
import Derived.Test.YteolonjmgojoeaaGreatDoorMgw1
import Derived.Deep.RegionHeld3
import Derived.Deep.MidRow
import Derived.StillTailTactics
import Derived.IntWalk
import Derived.Maps.OwnSet
namespace Go.Proofs.YteolonjmgojoeaaGreatDoor
open Go.RowKit
set_option linter.unusedVariables false
set_option linter.unusedSimpArgs false

section
variable {κ α : Type} [BEq κ] {kv : κ → Value} {enc : α → Value} {w : World} {B : Nat} {P : Program} {k : TypeId}
def adel : List (κ × Value) → κ → List (κ × Value)
  | [], _ => []
  | p :: m, x => if x == p.1 then m else p :: adel m x
theorem adel_none (x : κ) : ∀ (m : List (κ × Value)) (i : Nat), (m.zipIdx i).find? (fun q => x == q.1.1) = none → adel m x = m
  | [], _, _ => rfl
  | p :: m, i, h => by
    simp only [List.zipIdx_cons, List.find?_cons] at h
    cases hx : (x == p.1)
    · rw [hx] at h
      simp only [adel, hx, Bool.false_eq_true, if_false]
      rw [adel_none x m (i + 1) h]
    · rw [hx] at h; simp at h
theorem adel_some (x : κ) : ∀ (m : List (κ × Value)) (i : Nat) (q : (κ × Value) × Nat), (m.zipIdx i).find? (fun q => x == q.1.1) = some q → i ≤ q.2 ∧ adel m x = m.eraseIdx (q.2 - i)
  | [], _, _, h => by simp at h
  | p :: m, i, q, h => by
    simp only [List.zipIdx_cons, List.find?_cons] at h
    cases hx : (x == p.1)
    · rw [hx] at h
      obtain ⟨h1, h2⟩ := adel_some x m (i + 1) q h
      refine ⟨by omega, ?_⟩
      simp only [adel, hx, Bool.false_eq_true, if_false]
      rw [h2, show q.2 - i = (q.2 - (i + 1)) + 1 by omega, List.eraseIdx_cons_succ]
    · rw [hx] at h
      obtain rfl : (p, i) = q := by simpa using h
      exact ⟨Nat.le_refl _, by simp [adel, hx]⟩
theorem adel_sub (m : List (κ × Value)) (x : κ) : (adel m x).Sublist m := by
  induction m with
  | nil => exact List.Sublist.refl _
  | cons p m ih =>
    simp only [adel]
    split
    · exact List.sublist_cons_self ..
    · exact ih.cons_cons _
theorem Stamps.erase {es : List MapEntry} {clock : Nat} (h : Stamps es clock) (i : Nat) : Stamps (es.eraseIdx i) clock :=
  ⟨fun e he => h.1 e ((List.eraseIdx_sublist _ _).subset he), h.2.sublist ((List.eraseIdx_sublist _ _).map _)⟩
theorem map_eraseIdx' {β γ : Type} (f : β → γ) : ∀ (l : List β) (i : Nat), (l.eraseIdx i).map f = (l.map f).eraseIdx i
  | [], _ => by simp
  | a :: l, 0 => by simp
  | a :: l, i + 1 => by simp [map_eraseIdx' f l i]
theorem IsMap.delete {m : List (κ × Value)} (h : IsMap kv w B m) (K : KeyOk P k kv) {t e : TypeId} (ht : P.underlying t = some (.map k e)) (x : κ) (ty : TypeId) :
    ∃ w', (Builtin.delete_ #[t, k] ty #[.map (some B), kv x]).run P w = .ok (.tuple #[]) w' ∧ IsMap kv w' B (adel m x) ∧ w.grownBy w' (some B) ∧ w'.heap.size = w.heap.size := by
  have hlt := h.lt
  obtain ⟨es, clock, hB, hp, hst⟩ := h
  have hg : (getObj B).run P w = .ok (.map es clock) w := by simp [getObj, Sem.run, hB]
  have hset : ∀ o : Obj, ∃ w', (setObj B o).run P w = .ok () w' ∧ w'.heap[B]? = some o ∧ w.grownBy w' (some B) ∧ w'.heap.size = w.heap.size := by
    intro o
    refine ⟨{ w with heap := w.heap.setIfInBounds B o }, by simp [setObj, Sem.run, hB], by simp [hlt], ⟨rfl, rfl, rfl, by simp, fun k _ hk => ?_⟩, by simp⟩
    show (w.heap.setIfInBounds B o)[k]? = _
    rw [Array.getElem?_setIfInBounds_ne (fun e => hk (by rw [e]))]
  cases hq : (m.zipIdx 0).find? (fun q => x == q.1.1) with
  | none =>
    obtain ⟨w', hr, hb', hgr, hsz⟩ := hset (.map es clock)
    refine ⟨w', ?_, ⟨_, _, hb', by rw [adel_none x m 0 hq]; exact hp, hst⟩, hgr, hsz⟩
    simp [Builtin.delete_, run_underlying ht, hg, K.check, K.find x _ _ _ hp, hq, hr, Result.andThen]
  | some q =>
    obtain ⟨-, h2⟩ := adel_some x m 0 q hq
    rw [Nat.sub_zero] at h2
    obtain ⟨w', hr, hb', hgr, hsz⟩ := hset (.map (es.eraseIdxIfInBounds q.2) clock)
    have hsub : (es.eraseIdxIfInBounds q.2).toList = es.toList.eraseIdx q.2 := by
      unfold Array.eraseIdxIfInBounds
      split
      · simp
      · rename_i hn
        rw [List.eraseIdx_of_length_le (by simpa using hn)]
    refine ⟨w', ?_, ⟨_, _, hb', ?_, by rw [hsub]; exact hst.erase _⟩, hgr, hsz⟩
    · simp [Builtin.delete_, run_underlying ht, hg, K.check, K.find x _ _ _ hp, hq, hr, Result.andThen]
    · rw [hsub, h2]
      unfold pairsOf at hp ⊢
      rw [map_eraseIdx', hp, map_eraseIdx']
theorem adel_aget [LawfulBEq κ] [DecidableEq κ] (x : κ) : ∀ {m : List (κ × Value)}, (m.map (·.1)).Nodup → ∀ y, aget (adel m x) y = if y = x then none else aget m y
  | [], _, y => by simp [adel, aget]
  | p :: m, hn, y => by
    rw [List.map_cons, List.nodup_cons] at hn
    simp only [adel]
    by_cases hx : x = p.1
    · rw [if_pos (by rw [hx]; exact beq_self_eq_true _)]
      by_cases hy : y = x
      · rw [if_pos hy]
        exact aget_none (by rw [hy, hx]; exact hn.1)
      · rw [if_neg hy]
        unfold aget
        rw [List.find?_cons, show (y == p.1) = false by rw [beq_eq_false_iff_ne, ← hx]; exact hy]
    · rw [if_neg (by rw [beq_iff_eq]; exact hx)]
      have ih := adel_aget x hn.2 y
      unfold aget at ih ⊢
      rw [List.find?_cons, List.find?_cons]
      by_cases hyp : (y == p.1) = true
      · rw [hyp]
        have : y ≠ x := fun e => hx (by rw [← e]; exact eq_of_beq hyp)
        rw [if_neg this]
      · rw [Bool.not_eq_true] at hyp
        rw [hyp]
        exact ih
/-- A map without a key. -/
def fdel [DecidableEq κ] (f : κ → Option α) (x : κ) : κ → Option α := fun y => if y = x then none else f y
theorem NMap.delete [LawfulBEq κ] [DecidableEq κ] {f : κ → Option α} (h : NMap kv enc w B f) (K : KeyOk P k kv) {t e : TypeId} (ht : P.underlying t = some (.map k e)) (x : κ) (ty : TypeId) :
    ∃ w', (Builtin.delete_ #[t, k] ty #[.map (some B), kv x]).run P w = .ok (.tuple #[]) w' ∧ NMap kv enc w' B (fdel f x) ∧ w.grownBy w' (some B) ∧ w'.heap.size = w.heap.size := by
  obtain ⟨m, hm, hn, hx⟩ := h
  obtain ⟨w', h1, h2, h3, h4⟩ := hm.delete K ht x ty
  refine ⟨w', h1, ⟨adel m x, h2, hn.sublist ((adel_sub m x).map _), fun y => ?_⟩, h3, h4⟩
  rw [adel_aget x hn, hx]
  unfold fdel
  split <;> rfl
end
abbrev Cid := Int × Int
def cidV (c : Cid) : Value := .agg #[.int .u64 c.1, .int .i64 c.2]
theorem equal_cid (a b : Cid) (w : World) : (Op.equal 42 (cidV a) (cidV b)).run Tryz.prog w = .ok (a == b) w := by
  obtain ⟨a0, a1⟩ := a
  obtain ⟨b0, b1⟩ := b
  show (Op.equalIn 10000 42 _ _).run Tryz.prog w = _
  unfold cidV
  rw [run_equalIn_agg w 9999 42 _ _ (by kernel_rfl) (by kernel_rfl)]
  simp [go_sem, Op.eqFields]
  by_cases h1 : a0 = b0 <;> by_cases h2 : a1 = b1 <;> simp [h1, h2]
theorem check_cid (b : Bool) (a : Cid) (w : World) : (Instr.checkKey b 10000 42 (cidV a)).run Tryz.prog w = .ok () w := by
  unfold cidV
  rw [Instr.checkKey]
  simp [run_underlying Tryz.underlying42, go_sem]
  rw [check_int Tryz.underlying40 b _ w 9998, Result.andThen_ok]
  exact check_int Tryz.underlying3 b _ w 9998
theorem bits_cid (a : Cid) : Instr.sameBits 10000 (cidV a) (cidV a) = true := by
  unfold cidV
  rw [Instr.sameBits]
  simp [bits_int]
theorem keyOk_cid : KeyOk Tryz.prog 42 cidV :=
  ⟨find_of_ask Tryz.underlying42 (fun _ _ => rfl) equal_cid, check_cid, fun a b h => by
    have : b = a := (eq_of_beq h).symm
    subst this
    exact bits_cid b⟩
end Go.Proofs.YteolonjmgojoeaaGreatDoor
