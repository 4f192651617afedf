/- A range over a function whose iterator hands out just the elements of a known list, in its order, and whose body never leaves early: the contract of such an iterator, and the statement's law. -/
import Derived.Test.YtfifalpacagacaaDoorCore
import Derived.RangeFuncNested
import Derived.RangeFuncBound
import Derived.RangeFuncCalls
import Derived.RangeFuncLeaves
import Derived.TacticsInMore
import Derived.LoopNIn
import Derived.LoopIn
namespace Go.Proofs.YtfifalpacagacaaDoor.kw
set_option linter.unusedVariables false
set_option linter.unusedSimpArgs false
open Go.RowKit

/-- Below N every block is kept but those in X. -/
structure KeepN (N : Nat) (X : Nat → Prop) (W W' : World) : Prop where
  os : W'.os = W.os
  tape : W'.tape = W.tape
  output : W'.output = W.output
  size : W.heap.size ≤ W'.heap.size
  block : ∀ k, k < N → ¬ X k → W'.heap[k]? = W.heap[k]?
section
variable {N : Nat} {X : Nat → Prop} {U V W : World}
theorem KeepN.refl (N : Nat) (X : Nat → Prop) (W : World) : KeepN N X W W := ⟨rfl, rfl, rfl, Nat.le_refl _, fun _ _ _ => rfl⟩
theorem KeepN.trans (h : KeepN N X U V) (k : KeepN N X V W) : KeepN N X U W :=
  ⟨k.os.trans h.os, k.tape.trans h.tape, k.output.trans h.output, Nat.le_trans h.size k.size, fun i hi hx => (k.block i hi hx).trans (h.block i hi hx)⟩
theorem KeepN.grown {row : Option Nat} (h : KeepN N X U V) (hg : V.grownBy W row) (hN : N ≤ V.heap.size) (hr : ∀ k, row = some k → k < N → X k) : KeepN N X U W :=
  h.trans ⟨hg.os, hg.tape, hg.output, hg.size, fun k hk hx => hg.block k (by omega) (fun e => hx (hr k e.symm hk))⟩
theorem KeepN.drewN (h : KeepN N X U V) (n : Nat) : KeepN N X U (V.drewN n) := h.trans ⟨rfl, rfl, rfl, Nat.le_refl _, fun _ _ _ => rfl⟩
theorem KeepN.below {B : Nat} (h : KeepN N X U W) (hB : B ≤ N) (hx : ∀ k, k < B → ¬ X k) : Below B U W := ⟨h.os, h.tape, h.output, h.size, fun k hk => h.block k (by omega) (hx k hk)⟩
theorem KeepN.of_below {B : Nat} (h : Below B V W) (hB : N ≤ B) : KeepN N X V W := ⟨h.os, h.tape, h.output, h.size, fun k hk _ => h.block k (by omega)⟩
end

theorem grownBy_alloc_any (w : World) (o : Obj) (row : Option Nat) : w.grownBy (w.alloc o) row := World.grownBy_alloc w o row
theorem grownBy_trans {U V W : World} {row : Option Nat} (h : U.grownBy V row) (k : V.grownBy W row) : U.grownBy W row :=
  ⟨k.os.trans h.os, k.tape.trans h.tape, k.output.trans h.output, Nat.le_trans h.size k.size, fun i hi hne => (k.block i (Nat.lt_of_lt_of_le hi h.size) hne).trans (h.block i hi hne)⟩
theorem grownBy_of_none {U V : World} (h : U.grownBy V none) (row : Option Nat) : U.grownBy V row :=
  ⟨h.os, h.tape, h.output, h.size, fun i hi _ => h.block i hi (by simp)⟩
theorem grownBy_drewN (w : World) (n : Nat) (row : Option Nat) : w.grownBy (w.drewN n) row := ⟨rfl, rfl, rfl, Nat.le_refl _, fun _ _ _ => rfl⟩

/-- The contract of an iterator: it calls yield at the elements of xs, in their order, where each round goes on and keeps what the iterator reads. -/
def IterX {A : Type} (P : Program) (gf : Nat) (lb : Array Value) (encs : A → Array Value) (xs : List A) (N : Nat) (X : Nat → Prop) (w : World) : Prop :=
  ∀ (n l : Nat) (J : List A → World → Prop) (W : World), KeepN N X w W → (∀ pre V V', J pre V → V.grownBy V' none → J pre V') →
    (∀ pre x rest V, xs = pre ++ x :: rest → J pre V → YieldAt Fence.wide (n - 1) P l (encs x) V fun e V' => e = .returned (.bool true) ∧ J (pre ++ [x]) V' ∧ KeepN N X V V') →
    J [] W → CallsIn Fence.wide n P gf (#[.func (.yield l) #[] #[]] ++ lb) W fun e V' => (∃ v, e = .returned v) ∧ J xs V'

/-- What speaks of other blocks than the loop's record. -/
def Steady {β : Type} (N : Nat) (I : β → World → Prop) : Prop :=
  ∀ s V V', I s V → V.grownBy V' (some (N + 1)) → (∀ o, V.heap[N + 1]? = some o → ∃ r, o = .loop r) → I s V'

def postX {A : Type} (N : Nat) (X : Nat → Prop) (I : List A → World → Prop) (pre : List A) (V : World) : Exit → Act → World → Prop
  | .normal, _, V' => KeepN N X V V' ∧ V'.heap[N]? = V.heap[N]? ∧ V'.heap[N + 1]? = V.heap[N + 1]? ∧ I pre V'
  | _, _, _ => False

theorem wpIn_rangeX {A : Type} {n : Nat} {P : Program} {g : Operand} {ps : Array Tmp} {assign body : Code} {Q : Exit → Act → World → Prop} {a : Act} {w : World} {gf : Nat} {lb : Array Value}
    (hg : a.eval g = .func (.func gf) #[] lb) (eg : ∀ args w, (callFunc gf args).run P w = .ok (.enter gf args) w)
    {encs : A → Array Value} {xs : List A} {X : Nat → Prop} (hseq : IterX P gf lb encs xs w.heap.size X w) (hps : ∀ x, (encs x).size = ps.size)
    (I : List A → World → Prop) (hI : Steady w.heap.size I) (h0 : I [] w) (Ax : A → Act → World → Prop) (hAx : ∀ x a', Steady w.heap.size (fun (_ : Unit) V => Ax x a' V))
    (hassign : ∀ (l : Nat) (pre : List A) (x : A) (rest : List A) (V : World) (K : Act → World → Prop), xs = pre ++ x :: rest → I pre V → w.heap.size + 1 < V.heap.size →
      (∀ a' V', KeepN w.heap.size X V V' → V'.heap[w.heap.size]? = V.heap[w.heap.size]? → V'.heap[w.heap.size + 1]? = V.heap[w.heap.size + 1]? → I pre V' → Ax x a' V' → K a' V') →
      assign.wpIn (Fence.wide.inRound l) (n - 1 - 1) P (Exit.then K (fun _ _ _ => False)) { tmps := (ps.zip (encs x)).foldl (fun t (p, v) => t.setIfInBounds p v) a.tmps, defers := [] } V)
    (hbody : ∀ (l : Nat) (pre : List A) (x : A) (rest : List A) (a' : Act) (V : World), xs = pre ++ x :: rest → I pre V → Ax x a' V → V.heap[w.heap.size]? = some (.deferred (some [])) → (∃ r, V.heap[w.heap.size + 1]? = some (.loop r)) →
      body.wpIn (Fence.wide.inRound l) (n - 1 - 1) P (postX w.heap.size X I (pre ++ [x]) V) a' V)
    (hdone : ∀ V : World, I xs V → V.heap[w.heap.size]? = some (.deferred (some [])) → Q .normal { a with defers := { target := .collected w.heap.size, args := #[] } :: a.defers } V) :
    (Code.rangeFunc g ps assign body).wpIn Fence.wide n P Q a w := by
  refine wpIn_rangeFunc ?_
  intro fn hfn
  let rec0 : LoopState → Option Code → Loop := fun st pe => { state := st, pending := pe, fn, tmps := a.tmps, params := ps, assign, body, defers := w.heap.size }
  have hrec : ∀ st pe st' pe', ({ rec0 st pe with state := st', pending := pe' } : Loop) = rec0 st' pe' := fun _ _ _ _ => rfl
  obtain ⟨W1, hW1⟩ : ∃ W1, (w.alloc (.deferred (some []))).alloc (.loop (rec0 .ready none)) = W1 := ⟨_, rfl⟩
  have hsz : W1.heap.size = w.heap.size + 1 + 1 := by rw [← hW1]; simp
  have hL1 : W1.heap[w.heap.size + 1]? = some (.loop (rec0 .ready none)) := by
    rw [← hW1]
    have := World.alloc_heap_new (w.alloc (.deferred (some []))) (.loop (rec0 .ready none))
    rwa [World.size_alloc] at this
  have hD1 : W1.heap[w.heap.size]? = some (.deferred (some [])) := by
    rw [← hW1]
    exact (Below.heap_alloc _ _ _ (by simp)).trans (World.alloc_heap_new w _)
  have hg1 : w.grownBy W1 none := by rw [← hW1]; exact grownBy_trans (World.grownBy_alloc _ _ _) (World.grownBy_alloc _ _ _)
  have hI1 : I [] W1 := hI _ w W1 h0 (grownBy_of_none hg1 _) (fun o ho => by rw [Array.getElem?_eq_none (by omega)] at ho; cases ho)
  have hk1 : KeepN w.heap.size X w W1 := (KeepN.refl _ _ _).grown hg1 (Nat.le_refl _) (fun k e => by cases e)
  refine ⟨w.heap.size + 1, [{ target := .collected w.heap.size, args := #[] }], W1, { target := .fn (.func gf) lb, args := #[.func (.yield (w.heap.size + 1)) #[] #[]] }, W1, gf,
    #[.func (.yield (w.heap.size + 1)) #[] #[]] ++ lb, W1, ?_, ?_, fun _ _ => trivial, ?_, fun h => (by cases h), ?_⟩
  · rw [← hW1]; exact run_enterLoop_outer _ _ _ _ _
  · simp only [resolve, hg]
    simp [go_sem]
  · simp [invoke, go_sem, eg]
  -- a turn of the record
  have hturn : ∀ (V : World) (r r' : Loop), V.heap[w.heap.size + 1]? = some (.loop r) → V.grownBy (V.putObj (w.heap.size + 1) (.loop r')) (some (w.heap.size + 1)) ∧
      (V.putObj (w.heap.size + 1) (.loop r')).heap[w.heap.size + 1]? = some (.loop r') ∧ (V.putObj (w.heap.size + 1) (.loop r')).heap[w.heap.size]? = V.heap[w.heap.size]? ∧
      KeepN w.heap.size X V (V.putObj (w.heap.size + 1) (.loop r')) ∧ (∀ o, V.heap[w.heap.size + 1]? = some o → ∃ r, o = .loop r) := by
    intro V r r' hV
    refine ⟨grownBy_putObj' _ _ _, World.putObj_heap_same (Array.getElem?_eq_some_iff.1 hV).1, World.putObj_heap_other (by omega), ?_, fun o ho => ⟨r, by rw [hV] at ho; injection ho with ho; exact ho.symm⟩⟩
    exact (KeepN.refl _ _ _).grown (grownBy_putObj' _ _ _) (by have := (Array.getElem?_eq_some_iff.1 hV).1; omega) (fun k e hk => by cases e; omega)
  refine (hseq (n - 1) (w.heap.size + 1)
    (fun pre V => I pre V ∧ V.heap[w.heap.size + 1]? = some (.loop (rec0 .ready none)) ∧ V.heap[w.heap.size]? = some (.deferred (some []))) W1 hk1 ?_ ?_ ⟨hI1, hL1, hD1⟩).mono ?_
  · rintro pre V V' ⟨hi, hl, hd⟩ hgr
    have hlt := (Array.getElem?_eq_some_iff.1 hl).1
    refine ⟨hI _ V V' hi (grownBy_of_none hgr _) (fun o ho => ⟨_, by rw [hl] at ho; injection ho with ho; exact ho.symm⟩), (hgr.block _ hlt (by simp)).trans hl, (hgr.block _ (by omega) (by simp)).trans hd⟩
  · -- one round
    rintro pre x rest V hxs ⟨hi, hl, hd⟩
    have hlt := (Array.getElem?_eq_some_iff.1 hl).1
    have hy := run_yield (P := P) (args := encs x) hl (hps x)
    refine ⟨fn, _, assign, body, hy, roundIn_of_wpIn hfn (hassign _ pre x rest V _ hxs hi hlt ?_)⟩
    intro a' V1 hk1 hd1 hl1 hi1 hax
    rw [hl] at hl1
    rw [hd] at hd1
    refine ⟨_, run_beginRound hl1 rfl, ?_⟩
    obtain ⟨t1, t2, t3, t4, t5⟩ := hturn V1 _ ({ rec0 .ready none with state := .busy }) hl1
    refine wpIn_mono (hbody _ pre x rest a' _ hxs (hI _ _ _ hi1 t1 t5) (hAx x a' () _ _ hax t1 t5) (t3.trans hd1) ⟨_, t2⟩) ?_
    rintro e a3 V3 hp
    cases e with
    | normal =>
      obtain ⟨hk3, hd3, hl3, hi3⟩ := hp
      rw [t2] at hl3
      obtain ⟨s1, s2, s3, s4, s5⟩ := hturn V3 _ (rec0 .ready none) hl3
      refine ⟨_, _, run_endRound none hl3, rfl, ⟨hI _ _ _ hi3 s1 s5, s2, s3.trans (hd3.trans (t3.trans hd1))⟩, hk1.trans (t4.trans (hk3.trans s4))⟩
    | ret => exact hp.elim
    | exit id => exact hp.elim
    | goto t => exact hp.elim
    | panic ch => exact hp.elim
    | outgrown => exact hp.elim
  · rintro e V ⟨⟨v, rfl⟩, hi, hl, hd⟩
    obtain ⟨s1, s2, s3, s4, s5⟩ := hturn V _ ({ rec0 .ready none with state := .exhausted }) hl
    exact ⟨none, _, run_endLoop hl (by simp [rec0]), hdone _ (hI _ _ _ hi s1 s5) (s3.trans hd)⟩

theorem own_ne {V : World} {base : Nat} {e : TypeId} {size : Nat} {v : Value} {n : Nat} {xs : List Value} {k : Nat} {o : Obj} (h : V.ownsRow base e size v n xs) (ho : V.heap[k]? = some o) (hc : ∀ cs t f, o ≠ .cells cs t f) : v.ownBlock ≠ some k := by
  intro hk
  rcases h.2 with ⟨rfl, _⟩ | ⟨g, cap, cur, rfl, _, hg, _⟩
  · simp [Value.ownBlock] at hk
  · simp [Value.ownBlock] at hk
    subst hk
    rw [hg] at ho
    injection ho with ho
    exact hc _ _ _ ho.symm

theorem steady_row {V V' : World} {base : Nat} {e : TypeId} {size : Nat} {v : Value} {n : Nat} {xs : List Value} {N : Nat} (h : V.ownsRow base e size v n xs) (hg : V.grownBy V' (some (N + 1))) (hl : ∀ o, V.heap[N + 1]? = some o → ∃ r, o = .loop r) : V'.ownsRow base e size v n xs := by
  refine h.kept hg ?_
  cases hv : v.ownBlock with
  | none => exact .inl rfl
  | some g =>
    refine .inr fun e => ?_
    injection e with e
    subst e
    have hlt := (h.lt _ hv).2
    obtain ⟨r, hr⟩ := hl _ (Array.getElem?_eq_getElem hlt)
    exact own_ne h (Array.getElem?_eq_getElem hlt) (by rw [hr]; intro _ _ _ h; cases h) hv
theorem steady_boxed {V V' : World} {R N : Nat} {t : TypeId} {v : Value} (h : Boxed V R t v) (hR : R < N) (hg : V.grownBy V' (some (N + 1))) : Boxed V' R t v := h.kept hg (by intro e; injection e with e; omega)
theorem steady_keep {U V V' : World} {N : Nat} {X : Nat → Prop} (h : KeepN N X U V) (hN : N ≤ V.heap.size) (hg : V.grownBy V' (some (N + 1))) : KeepN N X U V' := h.grown hg hN (fun k e hk => by injection e with e; omega)
theorem steady_blk {V V' : World} {g N : Nat} {e : TypeId} {cs : List Value} (h : Blk V g e cs) (hg : V.grownBy V' (some (N + 1))) (hl : ∀ o, V.heap[N + 1]? = some o → ∃ r, o = .loop r) : Blk V' g e cs := by
  refine h.grown hg ?_
  intro e
  injection e with e
  subst e
  obtain ⟨r, hr⟩ := hl _ h
  cases hr

/-- A variable's box that holds a slice of the loop's own: behind an append and the store back. -/
theorem collect_step {V V1 w1 : World} {N R : Nat} {X : Nat → Prop} {t e : TypeId} {size n n' : Nat} {v v' : Value} {xs xs' : List Value} {r : Loop} {ds : Option (List Deferred)} (hbox : Boxed V R t v) (hR : R < N) (hX : X R) (hown : V.ownsRow N e size v n xs) (hg0 : V.grownBy V1 none)
    (hown1 : w1.ownsRow N e size v' n' xs') (hg1 : V1.grownBy w1 v.ownBlock) (hD : V.heap[N]? = some (.deferred ds)) (hL : V.heap[N + 1]? = some (.loop r)) :
    Boxed w1 R t v ∧ Boxed (w1.setCell ⟨R, 0, none⟩ v') R t v' ∧ (w1.setCell ⟨R, 0, none⟩ v').ownsRow N e size v' n' xs' ∧ KeepN N X V (w1.setCell ⟨R, 0, none⟩ v') ∧
      (w1.setCell ⟨R, 0, none⟩ v').heap[N]? = V.heap[N]? ∧ (w1.setCell ⟨R, 0, none⟩ v').heap[N + 1]? = V.heap[N + 1]? := by
  have hlt1 : N + 1 < V.heap.size := (Array.getElem?_eq_some_iff.1 hL).1
  have hob : ∀ k, v.ownBlock = some k → N ≤ k := fun k hk => (hown.lt k hk).1
  have hgw : ∀ k, k < V.heap.size → some k ≠ v.ownBlock → w1.heap[k]? = V.heap[k]? := fun k hk hne =>
    (hg1.block k (Nat.lt_of_lt_of_le hk hg0.size) hne).trans (hg0.block k hk (by simp))
  have hb1 : Boxed w1 R t v := (hgw R hbox.lt (fun e => by have := hob R e.symm; omega)).trans hbox
  have hset : ∀ k, k ≠ R → (w1.setCell ⟨R, 0, none⟩ v').heap[k]? = w1.heap[k]? := fun k hk => Below.heap_setCell _ _ _ _ hk
  refine ⟨hb1, hb1.set v', hown1.kept (grownBy_setCell' w1 R v') ?_, ⟨?_, ?_, ?_, ?_, ?_⟩, ?_, ?_⟩
  · cases hv : v'.ownBlock with
    | none => exact .inl rfl
    | some g => exact .inr (fun e => by injection e with e; have := (hown1.lt g hv).1; omega)
  · exact (hg1.os.trans hg0.os)
  · exact (hg1.tape.trans hg0.tape)
  · exact (hg1.output.trans hg0.output)
  · have := hg1.size; have := hg0.size; simp [World.setCell]; omega
  · intro k hk hx
    rw [hset k (fun e => hx (e ▸ hX))]
    exact hgw k (by omega) (fun e => by have := hob k e.symm; omega)
  · rw [hset N (by omega)]
    exact hgw N (by omega) (fun e => own_ne hown hD (by intro _ _ _ h; cases h) e.symm)
  · rw [hset (N + 1) (by omega)]
    exact hgw (N + 1) hlt1 (fun e => own_ne hown hL (by intro _ _ _ h; cases h) e.symm)

/-- All blocks of V but R and 'row' are kept. -/
structure Upd (R : Nat) (row : Option Nat) (V U : World) : Prop where
  os : U.os = V.os
  tape : U.tape = V.tape
  output : U.output = V.output
  size : V.heap.size ≤ U.heap.size
  block : ∀ k, k < V.heap.size → k ≠ R → some k ≠ row → U.heap[k]? = V.heap[k]?
theorem Upd.keepN {R N : Nat} {row : Option Nat} {V U : World} (h : Upd R row V U) (hN : N ≤ V.heap.size) (hr : ∀ k, row = some k → N ≤ k) {X : Nat → Prop} (hX : X R) : KeepN N X V U :=
  ⟨h.os, h.tape, h.output, h.size, fun k hk hx => h.block k (by omega) (fun e => hx (e ▸ hX)) (fun e => by have := hr k e.symm; omega)⟩
theorem own_ne_blk {V : World} {base : Nat} {e e' : TypeId} {size : Nat} {v : Value} {n : Nat} {xs : List Value} {k : Nat} {cs : Array Value} {f : Nat × Nat} (h : V.ownsRow base e size v n xs) (ho : V.heap[k]? = some (.cells cs e' f)) (hne : e ≠ e') : some k ≠ v.ownBlock := by
  intro hk
  rcases h.2 with ⟨rfl, _⟩ | ⟨g, cap, cur, rfl, _, hg, _⟩
  · simp [Value.ownBlock] at hk
  · simp [Value.ownBlock] at hk
    subst hk
    rw [hg] at ho
    injection ho with ho
    injection ho with _ ho _
    exact hne ho
theorem Upd.keep_other {R : Nat} {V U : World} {base : Nat} {e : TypeId} {size : Nat} {v : Value} {n : Nat} {xs : List Value} (h : Upd R v.ownBlock V U) (hown : V.ownsRow base e size v n xs) {k : Nat} {o : Obj} (ho : V.heap[k]? = some o) (hk : k ≠ R) (hc : ∀ cs f, o ≠ .cells cs e f) : U.heap[k]? = some o := by
  refine (h.block k (Array.getElem?_eq_some_iff.1 ho).1 hk ?_).trans ho
  intro hk'
  rcases hown.2 with ⟨rfl, _⟩ | ⟨g, cap, cur, rfl, _, hg, _⟩
  · simp [Value.ownBlock] at hk'
  · simp [Value.ownBlock] at hk'
    subst hk'
    rw [hg] at ho
    injection ho with ho
    exact hc _ _ ho.symm
/-- A variable's box that holds a slice of the call's own: behind an append and the store back. -/
theorem collect_upd {V V1 w1 : World} {N R : Nat} {t e : TypeId} {size n n' : Nat} {v v' : Value} {xs xs' : List Value} (hbox : Boxed V R t v) (hR : R < N) (hown : V.ownsRow N e size v n xs) (hg0 : V.grownBy V1 none)
    (hown1 : w1.ownsRow N e size v' n' xs') (hg1 : V1.grownBy w1 v.ownBlock) :
    Boxed w1 R t v ∧ Boxed (w1.setCell ⟨R, 0, none⟩ v') R t v' ∧ (w1.setCell ⟨R, 0, none⟩ v').ownsRow N e size v' n' xs' ∧ Upd R v.ownBlock V (w1.setCell ⟨R, 0, none⟩ v') := by
  have hob : ∀ k, v.ownBlock = some k → N ≤ k := fun k hk => (hown.lt k hk).1
  have hgw : ∀ k, k < V.heap.size → some k ≠ v.ownBlock → w1.heap[k]? = V.heap[k]? := fun k hk hne =>
    (hg1.block k (Nat.lt_of_lt_of_le hk hg0.size) hne).trans (hg0.block k hk (by simp))
  have hb1 : Boxed w1 R t v := (hgw R hbox.lt (fun e => by have := hob R e.symm; omega)).trans hbox
  refine ⟨hb1, hb1.set v', hown1.kept (grownBy_setCell' w1 R v') ?_, ⟨hg1.os.trans hg0.os, hg1.tape.trans hg0.tape, hg1.output.trans hg0.output, ?_, ?_⟩⟩
  · cases hv : v'.ownBlock with
    | none => exact .inl rfl
    | some g => exact .inr (fun e => by injection e with e; have := (hown1.lt g hv).1; omega)
  · have := hg1.size; have := hg0.size; simp [World.setCell]; omega
  · intro k hk hkR hne
    rw [Below.heap_setCell _ _ _ _ hkR]
    exact hgw k hk hne

end Go.Proofs.YtfifalpacagacaaDoor.kw
