/- Maps whose keys are strings or integers: the entries as a list, oldest first. -/
import Derived.Test.YteolonjmgojoeaaGreatDoorCore
namespace Go.Proofs.YteolonjmgojoeaaGreatDoor
open Go.RowKit

section
variable {κ : Type} [BEq κ]
def aget (m : List (κ × Value)) (k : κ) : Option Value := (m.find? (k == ·.1)).map (·.2)
def aset : List (κ × Value) → κ → Value → List (κ × Value)
  | [], k, v => [(k, v)]
  | p :: m, k, v => if k == p.1 then (k, v) :: m else p :: aset m k v

def pairsOf (es : List MapEntry) : List (Value × Value) := es.map fun e => (e.key, e.val)
/-- The key type k of a map reads as κ. -/
structure KeyOk (P : Program) (k : TypeId) (kv : κ → Value) : Prop where
  find : ∀ (x : κ) (es : List MapEntry) (m : List (κ × Value)) (w : World), pairsOf es = m.map (fun p => (kv p.1, p.2)) →
    (Instr.findKey k (kv x) es).run P w = .ok (((m.zipIdx 0).find? (fun q => x == q.1.1)).map fun q => (q.2, q.1.2)) w
  check : ∀ (b : Bool) (a : κ) (w : World), (Instr.checkKey b 10000 k (kv a)).run P w = .ok () w
  bits : ∀ a b, (a == b) = true → Instr.sameBits 10000 (kv b) (kv a) = true

end

section
variable {κ : Type} {kv : κ → Value} {w w' : World} {B : Nat} {m : List (κ × Value)}
/-- The stamps of a map's entries: elder than the clock, no two alike. -/
def Stamps (es : List MapEntry) (clock : Nat) : Prop := (∀ e ∈ es, e.born < clock) ∧ (es.map (·.born)).Nodup
/-- Block B is a map; its entries, oldest first. -/
def IsMap (kv : κ → Value) (w : World) (B : Nat) (m : List (κ × Value)) : Prop :=
  ∃ es clock, w.heap[B]? = some (.map es clock) ∧ pairsOf es.toList = (m.map fun p => (kv p.1, p.2)) ∧ Stamps es.toList clock
theorem Stamps.push {es : List MapEntry} {clock : Nat} (h : Stamps es clock) (k v : Value) : Stamps (es ++ [{ key := k, val := v, born := clock }]) (clock + 1) := by
  refine ⟨fun e he => ?_, ?_⟩
  · rcases List.mem_append.1 he with he | he
    · have := h.1 e he; omega
    · have : e = { key := k, val := v, born := clock } := by simpa using he
      rw [this]; simp
  · rw [List.map_append, List.nodup_append]
    refine ⟨h.2, by simp, ?_⟩
    intro a ha b hb
    obtain ⟨e, he, rfl⟩ := List.mem_map.1 ha
    have hb' : b = clock := by simpa using hb
    have := h.1 e he
    omega
theorem born_modify (l : List MapEntry) (i : Nat) (k v : Value) : (l.modify i (fun e => { e with key := k, val := v })).map (·.born) = l.map (·.born) := by
  induction l generalizing i with
  | nil => simp
  | cons e l ih =>
    cases i with
    | zero => simp
    | succ i => simp [ih]
theorem Stamps.modify {es : List MapEntry} {clock : Nat} (h : Stamps es clock) (i : Nat) (k v : Value) : Stamps (es.modify i (fun e => { e with key := k, val := v })) clock := by
  have hb := born_modify es i k v
  refine ⟨fun e he => ?_, by rw [hb]; exact h.2⟩
  have hm : e.born ∈ (es.modify i (fun e => { e with key := k, val := v })).map (·.born) := List.mem_map.2 ⟨e, he, rfl⟩
  rw [hb] at hm
  obtain ⟨e', he', e2⟩ := List.mem_map.1 hm
  have := h.1 e' he'
  omega

theorem IsMap.lt (h : IsMap kv w B m) : B < w.heap.size := by obtain ⟨es, c, h, _⟩ := h; exact (Array.getElem?_eq_some_iff.1 h).1
theorem IsMap.keep (h : IsMap kv w B m) (hk : w'.heap[B]? = w.heap[B]?) : IsMap kv w' B m := by obtain ⟨es, c, h, r⟩ := h; exact ⟨es, c, hk.trans h, r⟩
theorem IsMap.below (h : IsMap kv w B m) (hb : Below w.heap.size w w') : IsMap kv w' B m := h.keep (hb.block B h.lt)
theorem IsMap.alloc (h : IsMap kv w B m) (o : Obj) : IsMap kv (w.alloc o) B m := h.keep (Below.heap_alloc w o B h.lt)
theorem IsMap.drewN (h : IsMap kv w B m) (n : Nat) : IsMap kv (w.drewN n) B m := h
theorem IsMap.setCell (h : IsMap kv w B m) {p : Addr} (hp : p.block ≠ B) (u : Value) : IsMap kv (w.setCell p u) B m := h.keep (Below.heap_setCell w p u B (fun e => hp e.symm))
theorem IsMap.new (kv : κ → Value) (w : World) : IsMap kv (w.alloc (.map #[] 0)) w.heap.size [] := ⟨#[], 0, heap_alloc_new w _, rfl, ⟨fun e he => by simp at he, by simp⟩⟩

end

section
variable {κ : Type} [BEq κ] {P : Program} {k : TypeId} {kv : κ → Value} {w : World} {B : Nat} {m : List (κ × Value)}
theorem findNow_eq (d : TypeDesc) (hd : ∀ a b, Instr.sameNow d (kv a) (kv b) = some (a == b)) (x : κ) :
    ∀ (es : List MapEntry) (m : List (κ × Value)) (i : Nat), pairsOf es = m.map (fun p => (kv p.1, p.2)) →
      Instr.findNow d (kv x) es i = some (((m.zipIdx i).find? (fun q => x == q.1.1)).map fun q => (q.2, q.1.2)) := by
  intro es
  induction es with
  | nil => intro m i h; cases m with
    | nil => simp [Instr.findNow]
    | cons p m => simp [pairsOf] at h
  | cons e es ih => intro m i h; cases m with
    | nil => simp [pairsOf] at h
    | cons p m =>
      simp only [pairsOf, List.map_cons, List.cons.injEq, Prod.mk.injEq] at h
      obtain ⟨⟨h1, h2⟩, h3⟩ := h
      simp only [Instr.findNow, h1, hd, List.zipIdx_cons, List.find?_cons]
      cases hx : (x == p.1)
      · exact ih m (i + 1) h3
      · simp [h2]

theorem find_zip (x : κ) : ∀ (m : List (κ × Value)) (i : Nat), (((m.zipIdx i).find? (fun q => x == q.1.1)).map fun q => q.1.2) = aget m x
  | [], i => rfl
  | p :: m, i => by
    simp only [List.zipIdx_cons, List.find?_cons, aget]
    cases hx : (x == p.1)
    · exact find_zip x m (i + 1)
    · rfl

theorem find_of_now {d : TypeDesc} (hk : P.underlying k = some d) (hs : ∀ a b, Instr.sameNow d (kv a) (kv b) = some (a == b)) (x : κ) (es : List MapEntry) (m : List (κ × Value)) (w : World) (h : pairsOf es = m.map (fun p => (kv p.1, p.2))) :
    (Instr.findKey k (kv x) es).run P w = .ok (((m.zipIdx 0).find? (fun q => x == q.1.1)).map fun q => (q.2, q.1.2)) w := by
  simp only [Instr.findKey, Sem.run_bind, run_underlying hk, Result.andThen_ok, findNow_eq d hs x es m 0 h, Sem.run_pure]
theorem findAsking_eq (hq : ∀ a b (w : World), (Op.equal k (kv a) (kv b)).run P w = .ok (a == b) w) (x : κ) (w : World) :
    ∀ (es : List MapEntry) (m : List (κ × Value)) (i : Nat), pairsOf es = m.map (fun p => (kv p.1, p.2)) →
      (Instr.findAsking k (kv x) es i).run P w = .ok (((m.zipIdx i).find? (fun q => x == q.1.1)).map fun q => (q.2, q.1.2)) w := by
  intro es
  induction es with
  | nil => intro m i h; cases m with
    | nil => simp [Instr.findAsking]
    | cons p m => simp [pairsOf] at h
  | cons e es ih => intro m i h; cases m with
    | nil => simp [pairsOf] at h
    | cons p m =>
      simp only [pairsOf, List.map_cons, List.cons.injEq, Prod.mk.injEq] at h
      obtain ⟨⟨h1, h2⟩, h3⟩ := h
      simp only [Instr.findAsking, Sem.run_bind, h1, hq, Result.andThen_ok, List.zipIdx_cons, List.find?_cons]
      cases hx : (x == p.1)
      · simpa using ih m (i + 1) h3
      · simp [h2]
/-- Keys that the model compares by asking. -/
theorem find_of_ask {d : TypeDesc} (hk : P.underlying k = some d) (hs : ∀ a b, Instr.sameNow d (kv a) (kv b) = none) (hq : ∀ a b (w : World), (Op.equal k (kv a) (kv b)).run P w = .ok (a == b) w)
    (x : κ) (es : List MapEntry) (m : List (κ × Value)) (w : World) (h : pairsOf es = m.map (fun p => (kv p.1, p.2))) :
    (Instr.findKey k (kv x) es).run P w = .ok (((m.zipIdx 0).find? (fun q => x == q.1.1)).map fun q => (q.2, q.1.2)) w := by
  simp only [Instr.findKey, Sem.run_bind, run_underlying hk, Result.andThen_ok]
  cases es with
  | nil => cases m with
    | nil => simp [Instr.findNow]
    | cons p m => simp [pairsOf] at h
  | cons e es => cases m with
    | nil => simp [pairsOf] at h
    | cons p m =>
      have h' := h
      simp only [pairsOf, List.map_cons, List.cons.injEq, Prod.mk.injEq] at h'
      have hn : Instr.findNow d (kv x) (e :: es) 0 = none := by simp only [Instr.findNow, h'.1.1, hs]
      rw [hn]
      exact findAsking_eq hq x w (e :: es) (p :: m) 0 h

theorem IsMap.lookup (h : IsMap kv w B m) (K : KeyOk P k kv) {t e : TypeId} (ht : P.underlying t = some (.map k e)) {z : Value} (hz : (zeroValue e).run P w = .ok z w) (x : κ) (c : Bool) :
    (Instr.lookup t (.map (some B)) (kv x) c).run P w = .ok (if c then .tuple #[(aget m x).getD z, .bool (aget m x).isSome] else (aget m x).getD z) w := by
  obtain ⟨es, clock, hB, hp, -⟩ := h
  have hf := find_zip x m 0
  have hg : (getObj B).run P w = .ok (.map es clock) w := by simp [getObj, Sem.run, hB]
  simp only [Instr.lookup, Sem.run_bind, run_underlying ht, Result.andThen_ok, hg, K.check, K.find x _ _ _ hp, Sem.run_pure]
  cases hq : (m.zipIdx 0).find? (fun q => x == q.1.1) with
  | none => rw [hq] at hf; simp only [Option.map_none] at hf; simp [← hf, hz]
  | some q => rw [hq] at hf; simp only [Option.map_some] at hf; simp [← hf]

theorem aset_modify (x : κ) (v : Value) : ∀ (es : List MapEntry) (m : List (κ × Value)) (i : Nat) (q : (κ × Value) × Nat), pairsOf es = m.map (fun p => (kv p.1, p.2)) →
    (m.zipIdx i).find? (fun q => x == q.1.1) = some q → i ≤ q.2 ∧ pairsOf (es.modify (q.2 - i) (fun e => { e with key := kv x, val := v })) = (aset m x v).map (fun p => (kv p.1, p.2)) ∧ (∃ e y, es[q.2 - i]? = some e ∧ e.key = kv y ∧ (x == y) = true) := by
  intro es
  induction es with
  | nil => intro m i q h hq; cases m with
    | nil => simp at hq
    | cons p m => simp [pairsOf] at h
  | cons e es ih => intro m i q h hq; cases m with
    | nil => simp [pairsOf] at h
    | cons p m =>
      simp only [pairsOf, List.map_cons, List.cons.injEq, Prod.mk.injEq] at h
      obtain ⟨⟨h1, h2⟩, h3⟩ := h
      simp only [List.zipIdx_cons, List.find?_cons] at hq
      cases hx : (x == p.1)
      · rw [hx] at hq
        obtain ⟨a1, a2, a3⟩ := ih m (i + 1) q h3 hq
        refine ⟨by omega, ?_, ?_⟩
        · rw [show q.2 - i = (q.2 - (i + 1)) + 1 by omega]
          simp only [List.modify_succ_cons, pairsOf, List.map_cons, aset, hx]
          simpa [h1, h2, pairsOf] using a2
        · rw [show q.2 - i = (q.2 - (i + 1)) + 1 by omega]
          simpa using a3
      · rw [hx] at hq
        obtain rfl : (p, i) = q := by simpa using hq
        refine ⟨Nat.le_refl _, by simp [pairsOf, aset, hx, ← h3], e, p.1, by simp, h1, hx⟩

theorem aset_push (x : κ) (v : Value) : ∀ (m : List (κ × Value)) (i : Nat), (m.zipIdx i).find? (fun q => x == q.1.1) = none → aset m x v = m ++ [(x, v)]
  | [], _, _ => rfl
  | p :: m, i, h => by
    simp only [List.zipIdx_cons, List.find?_cons] at h
    cases hx : (x == p.1)
    · rw [hx] at h
      simp [aset, hx, aset_push x v m (i + 1) h]
    · rw [hx] at h; simp at h

theorem IsMap.update (h : IsMap kv w B m) (K : KeyOk P k kv) {t e : TypeId} (ht : P.underlying t = some (.map k e)) (x : κ) (v : Value) :
    ∃ w', (Instr.mapUpdate t (.map (some B)) (kv x) v).run P w = .ok () w' ∧ IsMap kv w' B (aset m x v) ∧ w.grownBy w' (some B) ∧ w'.heap.size = w.heap.size := by
  have hlt := h.lt
  obtain ⟨es, clock, hB, hp, hst⟩ := h
  have hg : (getObj B).run P w = .ok (.map es clock) w := by simp [getObj, Sem.run, hB]
  have hset : ∀ o : Obj, ∃ w', (setObj B o).run P w = .ok () w' ∧ w'.heap[B]? = some o ∧ w.grownBy w' (some B) ∧ w'.heap.size = w.heap.size := by
    intro o
    refine ⟨{ w with heap := w.heap.setIfInBounds B o }, by simp [setObj, Sem.run, hB], by simp [hlt], ⟨rfl, rfl, rfl, by simp, fun k _ hk => ?_⟩, by simp⟩
    show (w.heap.setIfInBounds B o)[k]? = _
    rw [Array.getElem?_setIfInBounds_ne (fun e => hk (by rw [e]))]
  cases hq : (m.zipIdx 0).find? (fun q => x == q.1.1) with
  | none =>
    obtain ⟨w', hr, hb', hgr, hsz⟩ := hset (.map (es.push { key := kv x, val := v, born := clock }) (clock + 1))
    refine ⟨w', ?_, ⟨_, _, hb', ?_, by rw [Array.toList_push]; exact hst.push _ _⟩, hgr, hsz⟩
    · simp only [Instr.mapUpdate, Sem.run_bind, run_underlying ht, Result.andThen_ok, hg, K.check, K.find x _ _ _ hp, hq, Option.map_none, hr]
    · rw [aset_push x v m 0 hq]
      simp only [pairsOf] at hp
      simp [pairsOf, hp]
  | some q =>
    obtain ⟨-, a2, e0, y, a3, a4, a5⟩ := aset_modify (kv := kv) x v es.toList m 0 q hp hq
    simp only [Nat.sub_zero] at a2 a3
    obtain ⟨w', hr, hb', hgr, hsz⟩ := hset (.map (es.modify q.2 fun e => { e with key := kv x, val := v }) clock)
    refine ⟨w', ?_, ⟨_, _, hb', ?_, by rw [Array.toList_modify]; exact hst.modify _ _ _⟩, hgr, hsz⟩
    · have he : es[q.2]? = some e0 := by simpa using a3
      simp only [Instr.mapUpdate, Sem.run_bind, run_underlying ht, Result.andThen_ok, hg, K.check, K.find x _ _ _ hp, hq, Option.map_some, Instr.keyThatStays, he, Option.getD_some, a4, K.bits x y a5, if_true, Sem.run_pure, hr]
    · simpa using a2
end

theorem ba_eq {a b : ByteArray} (h : (a == b) = true) : a = b := by
  cases a with | mk x => cases b with | mk y =>
  have : (x == y) = true := h
  rw [eq_of_beq this]
theorem ba_refl (a : ByteArray) : (a == a) = true := by
  cases a with | mk x =>
  show (x == x) = true
  simp
theorem check_string {P : Program} {k : TypeId} (hk : P.underlying k = some .string) (b : Bool) (a : ByteArray) (w : World) (n : Nat) : (Instr.checkKey b (n + 1) k (.string a)).run P w = .ok () w := by
  simp [Instr.checkKey, run_underlying hk]
theorem check_int {P : Program} {k : TypeId} {q : IntKind} (hk : P.underlying k = some (.int q)) (b : Bool) (a : Int) (w : World) (n : Nat) : (Instr.checkKey b (n + 1) k (.int q a)).run P w = .ok () w := by
  simp [Instr.checkKey, run_underlying hk]
theorem bits_string (a : ByteArray) (n : Nat) : Instr.sameBits (n + 1) (.string a) (.string a) = true := by simp only [Instr.sameBits]; exact ba_refl a
theorem bits_int (q : IntKind) (a : Int) (n : Nat) : Instr.sameBits (n + 1) (.int q a) (.int q a) = true := by simp [Instr.sameBits]

theorem keyOk_string {P : Program} {k : TypeId} (hk : P.underlying k = some .string) : KeyOk P k Value.string :=
  ⟨find_of_now hk fun _ _ => rfl, fun b a w => check_string hk b a w 9999, fun a b h => by
    have : b = a := (ba_eq h).symm
    subst this
    exact bits_string b 9999⟩
theorem run_mkMap {P : Program} (t k e : TypeId) (kd : IntKind) (n : Int) (ht : P.underlying t = some (.map k e)) (w : World) :
    (Instr.makeMap t (some (.int kd n))).run P w = .ok (.map (some w.heap.size)) (w.alloc (.map #[] 0)) := by
  simp [Instr.makeMap, run_underlying ht]; rfl

instance lawfulBA : LawfulBEq ByteArray where
  eq_of_beq := ba_eq
  rfl := ba_refl _

/-! A map that reads as a function. -/
section
variable {κ α : Type} [BEq κ] {P : Program} {k : TypeId} {kv : κ → Value} {enc : α → Value} {w w' : World} {B : Nat} {f : κ → Option α}
def upd {κ α : Type} [DecidableEq κ] (f : κ → Option α) (k : κ) (v : α) : κ → Option α := fun x => if x = k then some v else f x
def FMap (kv : κ → Value) (enc : α → Value) (w : World) (B : Nat) (f : κ → Option α) : Prop := ∃ m, IsMap kv w B m ∧ ∀ x, aget m x = (f x).map enc
theorem aget_aset [LawfulBEq κ] [DecidableEq κ] (m : List (κ × Value)) (x k : κ) (v : Value) : aget (aset m k v) x = if x = k then some v else aget m x := by
  induction m with
  | nil =>
    by_cases h : x = k
    · simp [aget, aset, h]
    · simp [aget, aset, h]
  | cons p m ih =>
    by_cases hk : k = p.1
    · subst hk
      by_cases h : x = p.1 <;> simp [aget, aset, h]
    · have hk' : (k == p.1) = false := by simpa using hk
      simp only [aset, hk']
      unfold aget at ih ⊢
      by_cases h : x = p.1
      · subst h
        have : ¬ p.1 = k := fun e => hk e.symm
        simp [this]
      · have h' : (x == p.1) = false := by simpa using h
        simp only [Bool.false_eq_true, if_false, List.find?_cons, h']
        exact ih
theorem FMap.lt (h : FMap kv enc w B f) : B < w.heap.size := by obtain ⟨m, h, _⟩ := h; exact h.lt
theorem FMap.keep (h : FMap kv enc w B f) (hk : w'.heap[B]? = w.heap[B]?) : FMap kv enc w' B f := by obtain ⟨m, h, r⟩ := h; exact ⟨m, h.keep hk, r⟩
theorem FMap.below (h : FMap kv enc w B f) (hb : Below w.heap.size w w') : FMap kv enc w' B f := by obtain ⟨m, h, r⟩ := h; exact ⟨m, h.below hb, r⟩
theorem FMap.alloc (h : FMap kv enc w B f) (o : Obj) : FMap kv enc (w.alloc o) B f := by obtain ⟨m, h, r⟩ := h; exact ⟨m, h.alloc o, r⟩
theorem FMap.setCell (h : FMap kv enc w B f) {p : Addr} (hp : p.block ≠ B) (u : Value) : FMap kv enc (w.setCell p u) B f := by obtain ⟨m, h, r⟩ := h; exact ⟨m, h.setCell hp u, r⟩
theorem FMap.new (kv : κ → Value) (enc : α → Value) (w : World) : FMap kv enc (w.alloc (.map #[] 0)) w.heap.size (fun _ => none) := ⟨[], IsMap.new kv w, fun _ => rfl⟩
theorem FMap.grown {row : Option Nat} (h : FMap kv enc w B f) (hb : w.grownBy w' row) (hg : some B ≠ row) : FMap kv enc w' B f := h.keep (hb.block B h.lt hg)
/-- What a look-up gives. -/
def lookV (enc : α → Value) (z : Value) (c : Bool) (o : Option α) : Value := if c then .tuple #[(o.map enc).getD z, .bool o.isSome] else (o.map enc).getD z
theorem FMap.lookup (h : FMap kv enc w B f) (K : KeyOk P k kv) {t e : TypeId} (ht : P.underlying t = some (.map k e)) {z : Value} (hz : (zeroValue e).run P w = .ok z w) (x : κ) (c : Bool) :
    (Instr.lookup t (.map (some B)) (kv x) c).run P w = .ok (lookV enc z c (f x)) w := by
  obtain ⟨m, h, r⟩ := h
  rw [h.lookup K ht hz x c, r x]
  unfold lookV
  cases f x <;> rfl
theorem FMap.update [LawfulBEq κ] [DecidableEq κ] (h : FMap kv enc w B f) (K : KeyOk P k kv) {t e : TypeId} (ht : P.underlying t = some (.map k e)) (x : κ) (v : α) :
    ∃ w', (Instr.mapUpdate t (.map (some B)) (kv x) (enc v)).run P w = .ok () w' ∧ FMap kv enc w' B (upd f x v) ∧ w.grownBy w' (some B) ∧ w'.heap.size = w.heap.size := by
  obtain ⟨m, h, r⟩ := h
  obtain ⟨w', h1, h2, h3, h4⟩ := h.update K ht x (enc v)
  refine ⟨w', h1, ⟨_, h2, fun y => ?_⟩, h3, h4⟩
  rw [aget_aset]
  unfold upd
  by_cases e : y = x
  · rw [if_pos e, if_pos e]; rfl
  · rw [if_neg e, if_neg e]; exact r y
end

end Go.Proofs.YteolonjmgojoeaaGreatDoor
