/- Plain facts on the order of paths. -/
import Derived.Test.YtnblfaagchflaaaGreatDoorMzHp
import Derived.Test.YtnblfaagchflaaaGreatDoorMgw1
import Derived.Test.YtnblfaagchflaaaGreatDoorMzMapR
namespace Go.Proofs.YtnblfaagchflaaaGreatDoor
open Go.RowKit
set_option linter.unusedVariables false
set_option linter.unusedSimpArgs false

theorem cmpL_self (l : List UInt8) : cmpL l l = 0 := by
  induction l with
  | nil => rfl
  | cons a l ih => simp [cmpL, ih]
theorem cmpL_eq {l m : List UInt8} (h : cmpL l m = 0) : l = m := by
  induction l generalizing m with
  | nil => cases m <;> simp [cmpL] at h ⊢
  | cons a l ih =>
    cases m with
    | nil => simp [cmpL] at h
    | cons b m =>
      unfold cmpL at h
      by_cases e : a = b
      · rw [if_pos e] at h; rw [e, ih h]
      · rw [if_neg e] at h; split at h <;> (try split at h) <;> (try split at h) <;> simp at h
theorem cmpL_anti (l m : List UInt8) : cmpL m l = - cmpL l m := by
  induction l generalizing m with
  | nil => cases m <;> simp [cmpL]
  | cons a l ih =>
    cases m with
    | nil => simp [cmpL]
    | cons b m =>
      unfold cmpL
      by_cases e : a = b
      · subst e; rw [if_pos rfl, if_pos rfl]; exact ih m
      · rw [if_neg e, if_neg (fun h => e h.symm)]
        by_cases ha : a = 47
        · subst ha
          rw [if_neg (fun h => e h.symm), if_pos rfl, if_pos rfl]
          decide
        · by_cases hb : b = 47
          · subst hb; rw [if_pos rfl, if_neg ha, if_pos rfl]
          · rw [if_neg hb, if_neg ha, if_neg ha, if_neg hb]
            by_cases hl : a < b
            · have : ¬ b < a := by rw [UInt8.lt_iff_toNat_lt] at hl ⊢; omega
              rw [if_neg this, if_pos hl]; decide
            · have : b < a := by
                have : a.toNat ≠ b.toNat := fun h => e (UInt8.toNat_inj.1 h)
                rw [UInt8.lt_iff_toNat_lt] at hl ⊢; omega
              rw [if_neg hl, if_pos this]
def rk (c : UInt8) : Nat := if c = 47 then 0 else c.toNat + 1
theorem cmpL_cons (a b : UInt8) (l m : List UInt8) : cmpL (a :: l) (b :: m) < 0 ↔ rk a < rk b ∨ (a = b ∧ cmpL l m < 0) := by
  rw [cmpL]
  by_cases e : a = b
  · subst e; simp
  · rw [if_neg e]
    unfold rk
    by_cases ha : a = 47
    · subst ha; rw [if_pos rfl, if_pos rfl, if_neg (fun h => e h.symm)]; simp
    · by_cases hb : b = 47
      · subst hb; simp [ha]
      · simp only [ha, hb, if_false, e, false_and, or_false]
        by_cases hl : a < b
        · rw [if_pos hl]; rw [UInt8.lt_iff_toNat_lt] at hl; simp; omega
        · rw [if_neg hl]; rw [UInt8.lt_iff_toNat_lt] at hl; simp; omega
theorem cmpL_trans {l m n : List UInt8} (h1 : cmpL l m < 0) (h2 : cmpL m n < 0) : cmpL l n < 0 := by
  induction l generalizing m n with
  | nil =>
    cases m with
    | nil => simp [cmpL] at h1
    | cons b m => cases n with
      | nil => simp [cmpL] at h2
      | cons c n => simp [cmpL]
  | cons a l ih =>
    cases m with
    | nil => simp [cmpL] at h1
    | cons b m => cases n with
      | nil => simp [cmpL] at h2
      | cons c n =>
        rw [cmpL_cons] at h1 h2 ⊢
        rcases h1 with h1 | ⟨rfl, h1⟩ <;> rcases h2 with h2 | ⟨rfl, h2⟩
        · left; omega
        · left; exact h1
        · left; exact h2
        · right; exact ⟨rfl, ih h1 h2⟩

end Go.Proofs.YtnblfaagchflaaaGreatDoor
/- Small laws on memory. -/
namespace Go.Proofs.YtnblfaagchflaaaGreatDoor
open Go.RowKit

theorem own_below {w w' : World} {B : Nat} {e : TypeId} {k : Nat} {v : Value} {n : Nat} {xs : List Value} (h : w.ownsRow B e k v n xs) (hb : Below w.heap.size w w') : w'.ownsRow B e k v n xs := by
  refine ⟨h.1, ?_⟩
  rcases h.2 with ⟨e1, e2⟩ | ⟨g, cap, cur, e1, h1, hg, rest⟩
  · exact .inl ⟨e1, e2⟩
  · exact .inr ⟨g, cap, cur, e1, h1, (hb.block g (Array.getElem?_eq_some_iff.1 hg).1).trans hg, rest⟩
theorem own_slice {w : World} {B : Nat} {e : TypeId} {k : Nat} {v : Value} {n : Nat} {xs : List Value} (h : w.ownsRow B e k v n xs) : ∃ A c, v = .slice A n c := by
  rcases h.2 with ⟨e1, e2⟩ | ⟨g, cap, cur, e1, _⟩
  · exact ⟨none, 0, by rw [e1, e2]⟩
  · exact ⟨_, cap, e1⟩
theorem below_dN {B : Nat} {a w : World} (h : Below B a w) (n : Nat) : Below B a (w.drewN n) := ⟨h.os, h.tape, h.output, h.size, h.block⟩
theorem below_step {B : Nat} {a w w' : World} (h : Below B a w) (hB : B ≤ w.heap.size) (h2 : Below w.heap.size w w') : Below B a w' := h.trans (h2.mono hB)
theorem below_next {w w1 w2 : World} (h1 : Below w.heap.size w w1) (h2 : Below w1.heap.size w1 w2) : Below w.heap.size w w2 := h1.trans (h2.mono h1.size)

/-- A block of four cells: what the walk asks of it. -/
theorem box4 {w : World} {g : Nat} {e : TypeId} {a b c d : Value} (h : Blk w g e [a, b, c, d]) :
    w.cell? ⟨g, 0, none⟩ = some a ∧ w.cell? ⟨g, 1, none⟩ = some b ∧ w.cell? ⟨g, 2, none⟩ = some c ∧ w.cell? ⟨g, 3, none⟩ = some d ∧
    w.frozen? ⟨g, 0, none⟩ = false ∧ w.frozen? ⟨g, 1, none⟩ = false ∧ w.frozen? ⟨g, 2, none⟩ = false ∧ w.frozen? ⟨g, 3, none⟩ = false :=
  ⟨h.cell 0, h.cell 1, h.cell 2, h.cell 3, h.frozen 0, h.frozen 1, h.frozen 2, h.frozen 3⟩
end Go.Proofs.YtnblfaagchflaaaGreatDoor
/- Maps that read as functions, each key once: what a range over them brings. -/
namespace Go.Proofs.YtnblfaagchflaaaGreatDoor
open Go.RowKit
set_option linter.unusedVariables false

section
variable {κ α : Type} [BEq κ] {P : Program} {k : TypeId} {kv : κ → Value} {enc : α → Value} {w w' : World} {B : Nat} {f : κ → Option α}
def NMap (kv : κ → Value) (enc : α → Value) (w : World) (B : Nat) (f : κ → Option α) : Prop := ∃ m : List (κ × Value), IsMap kv w B m ∧ (m.map (·.1)).Nodup ∧ ∀ x, aget m x = (f x).map enc
theorem NMap.fmap (h : NMap kv enc w B f) : FMap kv enc w B f := by obtain ⟨m, h, -, r⟩ := h; exact ⟨m, h, r⟩
theorem NMap.lt (h : NMap kv enc w B f) : B < w.heap.size := h.fmap.lt
theorem NMap.keep (h : NMap kv enc w B f) (hk : w'.heap[B]? = w.heap[B]?) : NMap kv enc w' B f := by obtain ⟨m, h, n, r⟩ := h; exact ⟨m, h.keep hk, n, r⟩
theorem NMap.below (h : NMap kv enc w B f) (hb : Below w.heap.size w w') : NMap kv enc w' B f := by obtain ⟨m, h, n, r⟩ := h; exact ⟨m, h.below hb, n, r⟩
theorem NMap.new (kv : κ → Value) (enc : α → Value) (w : World) : NMap kv enc (w.alloc (.map #[] 0)) w.heap.size (fun _ => none) := ⟨[], IsMap.new kv w, List.nodup_nil, fun _ => rfl⟩
theorem aset_keys [LawfulBEq κ] (k : κ) (v : Value) : ∀ (m : List (κ × Value)) (x : κ), x ∈ (aset m k v).map (·.1) → x = k ∨ x ∈ m.map (·.1)
  | [], x, h => by simp [aset] at h; exact .inl h
  | p :: m, x, h => by
    by_cases hk : (k == p.1) = true
    · have e : k = p.1 := eq_of_beq hk
      simp only [aset, hk, if_true, List.map_cons, List.mem_cons] at h ⊢
      rcases h with h | h
      · exact .inl h
      · exact .inr (.inr h)
    · simp only [aset, hk, if_false, List.map_cons, List.mem_cons, Bool.false_eq_true] at h ⊢
      rcases h with h | h
      · exact .inr (.inl h)
      · rcases aset_keys k v m x h with h | h
        · exact .inl h
        · exact .inr (.inr h)
theorem aset_nodup [LawfulBEq κ] (k : κ) (v : Value) : ∀ (m : List (κ × Value)), (m.map (·.1)).Nodup → ((aset m k v).map (·.1)).Nodup
  | [], _ => by simp [aset]
  | p :: m, h => by
    rw [List.map_cons, List.nodup_cons] at h
    by_cases hk : (k == p.1) = true
    · have e : k = p.1 := eq_of_beq hk
      simp only [aset, hk, if_true, List.map_cons]
      rw [e, List.nodup_cons]
      exact h
    · have hne : ¬ k = p.1 := fun e => hk (by rw [e]; exact beq_self_eq_true _)
      simp only [aset, hk, if_false, List.map_cons, Bool.false_eq_true]
      rw [List.nodup_cons]
      refine ⟨fun hx => ?_, aset_nodup k v m h.2⟩
      rcases aset_keys k v m p.1 hx with e | e
      · exact hne e.symm
      · exact h.1 e
theorem NMap.update [LawfulBEq κ] [DecidableEq κ] (h : NMap kv enc w B f) (K : KeyOk P k kv) {t e : TypeId} (ht : P.underlying t = some (.map k e)) (x : κ) (v : α) :
    ∃ w', (Instr.mapUpdate t (.map (some B)) (kv x) (enc v)).run P w = .ok () w' ∧ NMap kv enc w' B (upd f x v) ∧ w.grownBy w' (some B) ∧ w'.heap.size = w.heap.size := by
  obtain ⟨m, h, n, r⟩ := h
  obtain ⟨w', h1, h2, h3, h4⟩ := h.update K ht x (enc v)
  refine ⟨w', h1, ⟨_, h2, aset_nodup _ _ _ n, fun y => ?_⟩, h3, h4⟩
  rw [aget_aset]
  unfold upd
  by_cases e : y = x
  · rw [if_pos e, if_pos e]; rfl
  · rw [if_neg e, if_neg e]; exact r y
theorem aget_mem [LawfulBEq κ] : ∀ {m : List (κ × Value)}, (m.map (·.1)).Nodup → ∀ {p : κ × Value}, p ∈ m → aget m p.1 = some p.2
  | [], _, p, h => by cases h
  | q :: m, hn, p, h => by
    rw [List.map_cons, List.nodup_cons] at hn
    unfold aget
    rw [List.find?_cons]
    rcases List.mem_cons.1 h with e | h
    · subst e; simp
    · have hne : (p.1 == q.1) = false := by
        cases hb : (p.1 == q.1)
        · rfl
        · exact absurd (List.mem_map.2 ⟨p, h, eq_of_beq hb⟩) hn.1
      rw [hne]
      exact aget_mem hn.2 h
theorem aget_none [LawfulBEq κ] : ∀ {m : List (κ × Value)} {x : κ}, x ∉ m.map (·.1) → aget m x = none
  | [], x, _ => rfl
  | q :: m, x, h => by
    rw [List.map_cons, List.mem_cons] at h
    have hne : (x == q.1) = false := by
      cases hb : (x == q.1)
      · rfl
      · exact absurd (.inl (eq_of_beq hb)) h
    unfold aget
    rw [List.find?_cons, hne]
    exact aget_none fun e => h (.inr e)
/-- The keys, each once, each with its value. -/
theorem NMap.keys [LawfulBEq κ] (h : NMap kv enc w B f) (z : Value) : ∃ ks : List κ, ks.Nodup ∧ (∀ x, x ∈ ks ↔ (f x).isSome = true) ∧ IsMap kv w B (ks.map fun x => (x, ((f x).map enc).getD z)) := by
  obtain ⟨m, h, n, r⟩ := h
  refine ⟨m.map (·.1), n, fun x => ?_, ?_⟩
  · constructor
    · intro hx
      obtain ⟨p, hp, rfl⟩ := List.mem_map.1 hx
      have := aget_mem n hp
      rw [r] at this
      cases hf : f p.1 with
      | none => rw [hf] at this; cases this
      | some _ => rfl
    · intro hx
      by_cases hm : x ∈ m.map (·.1)
      · exact hm
      · have := aget_none hm
        rw [r] at this
        cases hf : f x with
        | none => rw [hf] at hx; cases hx
        | some _ => rw [hf] at this; cases this
  · have e : (m.map (·.1)).map (fun x => (x, ((f x).map enc).getD z)) = m := by
      rw [List.map_map]
      conv => rhs; rw [← List.map_id m]
      refine List.map_congr_left fun p hp => ?_
      have := aget_mem n hp
      rw [r] at this
      show (p.1, ((f p.1).map enc).getD z) = p
      rw [this]; rfl
    rw [e]; exact h
end
end Go.Proofs.YtnblfaagchflaaaGreatDoor
