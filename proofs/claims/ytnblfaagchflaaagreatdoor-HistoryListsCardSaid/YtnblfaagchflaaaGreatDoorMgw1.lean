/- Words for memory that all texts of this seat use: a slice that reads as a row of cells; how it is kept. -/
import Derived.Test.YtnblfaagchflaaaGreatDoorRows
import Derived.WalkKit
import Derived.WalkSpells
import Derived.WalkLawsBesides
import Derived.Lib.Hide
import Derived.Deep.QuietTactic
import Derived.BigQuiet
import Derived.Maps.AppendAt
import Derived.OwnWalkIn
import Derived.Lib.AppendStr
namespace Go.Proofs.YtnblfaagchflaaaGreatDoor
open Go.RowKit

theorem add_block (a : Addr) (n : Nat) : (a.add n).block = a.block := by unfold Addr.add; split <;> rfl
theorem add_add' (a : Addr) (i j : Nat) : (a.add i).add j = a.add (i + j) := by
  unfold Addr.add
  by_cases hi : i = 0 <;> by_cases hj : j = 0 <;> simp [hi, hj, Nat.add_assoc]

theorem add_lit_ (a : Addr) (j : Nat) : (⟨a.block, a.off + (j + 1), none⟩ : Addr) = a.add (j + 1) := by unfold Addr.add; rw [if_neg (by omega)]

/-- The slice value v has n elements of 'size' cells each, and these cells are xs. -/
def Row (w : World) (size : Nat) (v : Value) (n : Nat) (xs : List Value) : Prop :=
  ∃ A c, v = .slice A n c ∧ n ≤ c ∧ c ≤ maxLen ∧ xs.length = n * size ∧ (A = none → c = 0) ∧
    (0 < n → ∃ ad, A = some ad ∧ ad.block < w.heap.size ∧ ∀ j u, xs[j]? = some u → w.cell? (ad.add j) = some u)

theorem cell_lt {w : World} {a : Addr} {u : Value} (h : w.cell? a = some u) : a.block < w.heap.size := World.block_lt_of_cell? w a h
theorem cell_alloc {w : World} {a : Addr} {u : Value} (h : w.cell? a = some u) (o : Obj) : (w.alloc o).cell? a = some u :=
  (World.cell?_alloc_lt w o a (cell_lt h)).trans h
theorem cell_below {w w' : World} {B : Nat} {a : Addr} {u : Value} (h : w.cell? a = some u) (hb : Below B w w') (ha : a.block < B) : w'.cell? a = some u := (hb.cell ha).trans h

section
variable {w w' : World} {size n : Nat} {v : Value} {xs : List Value}
theorem Row.keep (h : Row w size v n xs) (hs : w.heap.size ≤ w'.heap.size) (hk : ∀ p : Addr, p.block < w.heap.size → w'.cell? p = w.cell? p) : Row w' size v n xs := by
  obtain ⟨A, c, rfl, hc, hm, hl, h0, hx⟩ := h
  refine ⟨A, c, rfl, hc, hm, hl, h0, fun hn => ?_⟩
  obtain ⟨ad, e, hb, hcell⟩ := hx hn
  exact ⟨ad, e, by omega, fun j u hu => (hk _ (by rw [add_block]; exact hb)).trans (hcell j u hu)⟩
theorem Row.below (h : Row w size v n xs) (hb : Below w.heap.size w w') : Row w' size v n xs := h.keep hb.size fun _ hp => hb.cell hp
theorem Row.alloc (h : Row w size v n xs) (o : Obj) : Row (w.alloc o) size v n xs := h.keep (by simp) fun p hp => World.cell?_alloc_lt w o p hp
theorem Row.drew (h : Row w size v n xs) : Row w.drew size v n xs := h
theorem Row.drewN (h : Row w size v n xs) (k : Nat) : Row (w.drewN k) size v n xs := h
theorem Row.nil_ (w : World) (size : Nat) : Row w size (.slice none 0 0) 0 [] := ⟨none, 0, rfl, Nat.le_refl _, by simp [maxLen], by simp, fun _ => rfl, fun h => absurd h (by omega)⟩
theorem Row.len (h : Row w size v n xs) : xs.length = n * size := by obtain ⟨A, c, rfl, hc, hm, hl, h0, hx⟩ := h; exact hl
theorem Row.cells (h : Row w size v n xs) (hn : 0 < n) : ∃ ad c, v = .slice (some ad) n c ∧ n ≤ c ∧ c ≤ maxLen ∧ ad.block < w.heap.size ∧ ∀ j u, xs[j]? = some u → w.cell? (ad.add j) = some u := by
  obtain ⟨A, c, rfl, hc, hm, hl, h0, hx⟩ := h
  obtain ⟨ad, rfl, hb, hcell⟩ := hx hn
  exact ⟨ad, c, rfl, hc, hm, hb, hcell⟩
theorem Row.slice {A : Option Addr} {c lo hi : Nat} (h : Row w size (.slice A n c) n xs) (h1 : lo ≤ hi) (h2 : hi ≤ n) :
    Row w size (.slice (if c = lo then A else A.map (·.add (lo * size))) (hi - lo) (c - lo)) (hi - lo) ((xs.drop (lo * size)).take ((hi - lo) * size)) := by
  obtain ⟨A', c', e, hc, hm, hl, h0, hx⟩ := h
  injection e with e1 e2 e3
  subst e1 e3
  refine ⟨_, _, rfl, by omega, by omega, ?_, ?_, fun hn => ?_⟩
  · rw [List.length_take, List.length_drop, hl, ← Nat.sub_mul]
    exact Nat.min_eq_left (Nat.mul_le_mul_right _ (by omega))
  · intro hA
    split at hA
    · omega
    · have := h0 (by simpa using hA); omega
  · obtain ⟨ad, rfl, hb, hcell⟩ := hx (by omega)
    rw [if_neg (by omega)]
    refine ⟨ad.add (lo * size), rfl, by rw [add_block]; exact hb, fun j u hu => ?_⟩
    rw [add_add']
    refine hcell _ u ?_
    rw [List.getElem?_take] at hu
    split at hu
    · rwa [List.getElem?_drop] at hu
    · cases hu
theorem Row.of_own {base : Nat} {e : TypeId} (h : w.ownsRow base e size v n xs) : Row w size v n xs := by
  have hl := h.1
  rcases h.2 with ⟨rfl, rfl⟩ | ⟨g, cap, cur, rfl, _, hg, hnc, hcm, _, _⟩
  · exact ⟨none, 0, rfl, Nat.le_refl _, by simp [maxLen], hl, fun _ => rfl, fun h => absurd h (by omega)⟩
  · exact ⟨_, cap, rfl, hnc, hcm, hl, fun h => (by cases h), fun _ => ⟨_, rfl, (Array.getElem?_eq_some_iff.1 hg).1, h.cells (g := g) rfl⟩⟩
end

/-- A slice of bytes. -/
def Bytes (w : World) (v : Value) (l : List UInt8) : Prop := Row w 1 v l.length (l.map fun b => .int .u8 b.toNat)
/-- A slice of strings. -/
def Strs (w : World) (v : Value) (l : List ByteArray) : Prop := Row w 1 v l.length (l.map .string)
/-- A slice of pairs of strings (api.Keyword). -/
def pairCells (l : List (ByteArray × ByteArray)) : List Value := l.flatMap fun p => [.string p.1, .string p.2]
def Pairs (w : World) (v : Value) (l : List (ByteArray × ByteArray)) : Prop := Row w 2 v l.length (pairCells l)
/-- A slice of pairs of ints (api.Range). -/
def rangeCells (l : List (Nat × Nat)) : List Value := l.flatMap fun p => [.int .i64 p.1, .int .i64 p.2]
def Ranges (w : World) (v : Value) (l : List (Nat × Nat)) : Prop := Row w 2 v l.length (rangeCells l)
/-- A slice of ints. -/
def Ints (w : World) (v : Value) (l : List Nat) : Prop := Row w 1 v l.length (l.map fun (n : Nat) => .int .i64 n)

theorem flat2_get {α : Type} (f g : α → Value) (l : List α) (i : Nat) (x : α) (h : l[i]? = some x) :
    (l.flatMap fun p => [f p, g p])[i * 2]? = some (f x) ∧ (l.flatMap fun p => [f p, g p])[i * 2 + 1]? = some (g x) := by
  induction l generalizing i with
  | nil => simp at h
  | cons y l ih =>
    cases i with
    | zero => simp at h; subst h; simp
    | succ i =>
      have h' := ih i (by simpa using h)
      simp only [List.flatMap_cons]
      have e1 : (i + 1) * 2 = (i * 2) + 2 := by omega
      have e2 : (i + 1) * 2 + 1 = (i * 2 + 1) + 2 := by omega
      rw [e2, e1]
      simpa using h'

section
variable {w w' : World} {v : Value}
theorem Bytes.below {l : List UInt8} (h : Bytes w v l) (hb : Below w.heap.size w w') : Bytes w' v l := Row.below h hb
theorem Bytes.alloc {l : List UInt8} (h : Bytes w v l) (o : Obj) : Bytes (w.alloc o) v l := Row.alloc h o
theorem Bytes.drewN {l : List UInt8} (h : Bytes w v l) (k : Nat) : Bytes (w.drewN k) v l := h
theorem Strs.below {l : List ByteArray} (h : Strs w v l) (hb : Below w.heap.size w w') : Strs w' v l := Row.below h hb
theorem Strs.alloc {l : List ByteArray} (h : Strs w v l) (o : Obj) : Strs (w.alloc o) v l := Row.alloc h o
theorem Strs.drewN {l : List ByteArray} (h : Strs w v l) (k : Nat) : Strs (w.drewN k) v l := h
theorem Pairs.below {l : List (ByteArray × ByteArray)} (h : Pairs w v l) (hb : Below w.heap.size w w') : Pairs w' v l := Row.below h hb
theorem Pairs.alloc {l : List (ByteArray × ByteArray)} (h : Pairs w v l) (o : Obj) : Pairs (w.alloc o) v l := Row.alloc h o
theorem Pairs.drewN {l : List (ByteArray × ByteArray)} (h : Pairs w v l) (k : Nat) : Pairs (w.drewN k) v l := h
theorem Ranges.below {l : List (Nat × Nat)} (h : Ranges w v l) (hb : Below w.heap.size w w') : Ranges w' v l := Row.below h hb
theorem Ranges.alloc {l : List (Nat × Nat)} (h : Ranges w v l) (o : Obj) : Ranges (w.alloc o) v l := Row.alloc h o
theorem Ranges.drewN {l : List (Nat × Nat)} (h : Ranges w v l) (k : Nat) : Ranges (w.drewN k) v l := h
theorem Ints.below {l : List Nat} (h : Ints w v l) (hb : Below w.heap.size w w') : Ints w' v l := Row.below h hb
theorem Ints.alloc {l : List Nat} (h : Ints w v l) (o : Obj) : Ints (w.alloc o) v l := Row.alloc h o
theorem Ints.drewN {l : List Nat} (h : Ints w v l) (k : Nat) : Ints (w.drewN k) v l := h
theorem Row.at_ {size n k c : Nat} {A : Option Addr} {xs : List Value} (h : Row w size (.slice A n c) n xs) (hk : k < n) : ∃ ad, A = some ad ∧ ad.block < w.heap.size ∧ ∀ j u, xs[k * size + j]? = some u → w.cell? (ad.add (k * size + j)) = some u := by
  obtain ⟨ad, c', e, h1, h2, h3, h4⟩ := Row.cells h (by omega)
  injection e with e1 e2 e3
  exact ⟨ad, e1, h3, fun j u hu => h4 _ u hu⟩
theorem Bytes.at_ {l : List UInt8} {k c : Nat} {A : Option Addr} (h : Bytes w (.slice A l.length c) l) (hk : k < l.length) : ∃ ad, A = some ad ∧ ad.block < w.heap.size ∧ w.cell? (ad.add k) = some (.int .u8 (l[k].toNat)) := by
  obtain ⟨ad, e, hb, h4⟩ := Row.at_ h hk
  exact ⟨ad, e, hb, by have := h4 0 _ (by simp [hk]; rfl); simpa using this⟩
theorem Bytes.slice {l : List UInt8} {A : Option Addr} {c lo hi : Nat} (h : Bytes w (.slice A l.length c) l) (h1 : lo ≤ hi) (h2 : hi ≤ l.length) :
    Bytes w (.slice (if c = lo then A else A.map (·.add lo)) (hi - lo) (c - lo)) ((l.drop lo).take (hi - lo)) := by
  have h' := Row.slice h h1 h2
  unfold Bytes
  rw [List.length_take, List.length_drop, Nat.min_eq_left (by omega), List.map_take, List.map_drop]
  simpa using h'
theorem Strs.at_ {l : List ByteArray} {k c : Nat} {A : Option Addr} (h : Strs w (.slice A l.length c) l) (hk : k < l.length) : ∃ ad, A = some ad ∧ ad.block < w.heap.size ∧ w.cell? (ad.add k) = some (.string l[k]) := by
  obtain ⟨ad, e, hb, h4⟩ := Row.at_ h hk
  exact ⟨ad, e, hb, by have := h4 0 _ (by simp [hk]; rfl); simpa using this⟩
theorem Ints.at_ {l : List Nat} {k c : Nat} {A : Option Addr} (h : Ints w (.slice A l.length c) l) (hk : k < l.length) : ∃ ad, A = some ad ∧ ad.block < w.heap.size ∧ w.cell? (ad.add k) = some (.int .i64 l[k]) := by
  obtain ⟨ad, e, hb, h4⟩ := Row.at_ h hk
  exact ⟨ad, e, hb, by have := h4 0 _ (by simp [hk]; rfl); simpa using this⟩
theorem Pairs.at_ {l : List (ByteArray × ByteArray)} {k c : Nat} {A : Option Addr} (h : Pairs w (.slice A l.length c) l) (hk : k < l.length) :
    ∃ ad, A = some ad ∧ ad.block < w.heap.size ∧ w.cell? (ad.add (k * 2)) = some (.string l[k].1) ∧ w.cell? ⟨(ad.add (k * 2)).block, (ad.add (k * 2)).off + 1, none⟩ = some (.string l[k].2) := by
  obtain ⟨ad, e, hb, h4⟩ := Row.at_ h hk
  have hg := flat2_get (fun p : ByteArray × ByteArray => Value.string p.1) (fun p => Value.string p.2) l k l[k] (by simp [hk])
  exact ⟨ad, e, hb, h4 0 _ hg.1, by rw [add_lit_, add_add']; exact h4 1 _ hg.2⟩
theorem Ranges.at_ {l : List (Nat × Nat)} {k c : Nat} {A : Option Addr} (h : Ranges w (.slice A l.length c) l) (hk : k < l.length) :
    ∃ ad, A = some ad ∧ ad.block < w.heap.size ∧ w.cell? (ad.add (k * 2)) = some (.int .i64 l[k].1) ∧ w.cell? ⟨(ad.add (k * 2)).block, (ad.add (k * 2)).off + 1, none⟩ = some (.int .i64 l[k].2) := by
  obtain ⟨ad, e, hb, h4⟩ := Row.at_ h hk
  have hg := flat2_get (fun p : Nat × Nat => Value.int .i64 p.1) (fun p => Value.int .i64 p.2) l k l[k] (by simp [hk])
  exact ⟨ad, e, hb, h4 0 _ hg.1, by rw [add_lit_, add_add']; exact h4 1 _ hg.2⟩
end

/-! Slicing: one equation for the run, the address under a name. -/
theorem run_sub_from {P : Program} {w : World} {t e : TypeId} {size n c lo : Nat} {x : Int} {kx : IntKind} {A : Option Addr} {xs : List Value} (ht : P.underlying t = some (.slice e)) (hs : ∀ w, (sizeOf e).run P w = .ok size w)
    (h : Row w size (.slice A n c) n xs) (h1 : lo ≤ n) (hx : x = lo) :
    ∃ A' c', (Instr.sliceAt t (.slice A n c) (some (.int kx x)) none none).run P w = .ok (.slice A' (n - lo) c') w ∧ Row w size (.slice A' (n - lo) c') (n - lo) (xs.drop (lo * size)) := by
  subst hx
  have he : P.elem t = e := by simp [Program.elem, ht]
  have hr := Row.slice h h1 (Nat.le_refl _)
  rw [List.take_of_length_le (by rw [List.length_drop, h.len, ← Nat.sub_mul]; exact Nat.le_refl _)] at hr
  refine ⟨_, _, ?_, hr⟩
  have ht' : P.underlying t = some (.slice (P.elem t)) := by rw [he]; exact ht
  rw [run_sliceAt_slice w t _ _ _ _ ht', run_slice_l w t A n c ht' _ _ (by omega) (by omega), he, hs]
  simp [Result.andThen, sliced]
/-! Conversions between strings and slices of bytes. -/
/-! append onto a row of the call's own. -/
/-- t is a slice type whose elements have type e, 'size' cells, 'bytes' bytes. -/
def ElemOk (P : Program) (t e : TypeId) (size bytes : Nat) : Prop :=
  ∃ i z, P.underlying t = some (.slice e) ∧ P.info? e = some i ∧ i.zero = some z ∧ i.size = size ∧ i.bytes = bytes ∧ z.cells.size = size ∧ 0 < size
theorem elemOk_of {P : Program} {t e : TypeId} {z : Value} {size bytes : Nat} (ht : P.underlying t = some (.slice e)) (h : (P.info? e).map (fun i => (i.zero, i.size, i.bytes)) = some (some z, size, bytes))
    (hz : z.cells.size = size) (hs : 0 < size) : ElemOk P t e size bytes := by
  obtain ⟨i0, hi, hz0, hz1, hz2⟩ := info_parts h
  exact ⟨i0, z, ht, hi, hz0, hz1, hz2, hz, hs⟩

theorem grown_below {base : Nat} {w0 W w' : World} {e : TypeId} {size n : Nat} {v : Value} {xs : List Value} (hbl : Below base w0 W) (hown : W.ownsRow base e size v n xs) (hb : base ≤ W.heap.size) (hg : W.grownBy w' v.ownBlock) : Below base w0 w' :=
  hbl.grown hg hb (fun k e => (hown.lt k e).1)

theorem run_app {P : Program} {W : World} {t ty e : TypeId} {size bytes base : Nat} (he : ElemOk P t e size bytes) {v : Value} {n : Nat} {xs : List Value} (hown : W.ownsRow base e size v n xs)
    {u : Value} {m : Nat} {news : List Value} (hr : Row W size u m news) (h1 : ∀ u ∈ news, u.oneCell' = true) (hbytes : (n + m) * bytes ≤ 140737488355328) (h63 : n + m ≤ maxLen) (hbase : base ≤ W.heap.size) :
    ∃ A' c' w', (Builtin.append_ #[t, t] ty #[v, u]).run P W = .ok (.slice A' (n + m) c') w' ∧ w'.ownsRow base e size (.slice A' (n + m) c') (n + m) (xs ++ news) ∧ W.grownBy w' v.ownBlock ∧
      ((Value.slice A' (n + m) c').ownBlock = v.ownBlock ∨ (Value.slice A' (n + m) c').ownBlock = some W.heap.size) := by
  obtain ⟨i, z, ht, hi, hz, hsize, hby, hzs, hsz⟩ := he
  have fin : ∀ v' w', (Builtin.append_ #[t, t] ty #[v, u]).run P W = .ok v' w' → w'.ownsRow base e size v' (n + m) (xs ++ news) → W.grownBy w' v.ownBlock → (v'.ownBlock = v.ownBlock ∨ v'.ownBlock = some W.heap.size) →
      ∃ A' c' w', (Builtin.append_ #[t, t] ty #[v, u]).run P W = .ok (.slice A' (n + m) c') w' ∧ w'.ownsRow base e size (.slice A' (n + m) c') (n + m) (xs ++ news) ∧ W.grownBy w' v.ownBlock ∧
      ((Value.slice A' (n + m) c').ownBlock = v.ownBlock ∨ (Value.slice A' (n + m) c').ownBlock = some W.heap.size) := by
    intro v' w' hrun h2 h3 h4
    have : ∃ A' c', v' = .slice A' (n + m) c' := by
      rcases h2.2 with ⟨e1, e2⟩ | ⟨g, cap, cur, e1, _⟩
      · exact ⟨none, 0, by rw [e1, e2]⟩
      · exact ⟨_, cap, e1⟩
    obtain ⟨A', c', rfl⟩ := this
    exact ⟨A', c', w', hrun, h2, h3, h4⟩
  obtain ⟨A, c, rfl, hc, hm, hl, h00, hx⟩ := hr
  rcases A with _ | ad
  · have h0 : m = 0 := by
      rcases Nat.eq_zero_or_pos m with h0 | h0
      · exact h0
      · obtain ⟨ad, h, _⟩ := hx h0; cases h
    subst h0
    have hn : news = [] := List.eq_nil_of_length_eq_zero (by simpa using hl)
    subst hn
    refine fin v W ?_ (by simpa using hown) ⟨rfl, rfl, rfl, Nat.le_refl _, fun _ _ _ => rfl⟩ (.inl rfl)
    rcases hown.2 with ⟨rfl, rfl⟩ | ⟨g, cap, cur, rfl, _, _, hnc, _⟩
    · simp [Builtin.append_, run_underlying ht, sizeOf, typeInfo, hi, Builtin.lenOf, Builtin.firstCells]
    · simp [Builtin.append_, run_underlying ht, sizeOf, typeInfo, hi, Builtin.lenOf, Builtin.firstCells, hnc, storeCells]
  · have hcells : ∀ j u, news[j]? = some u → W.cell? (ad.add j) = some u := by
      intro j u hu
      rcases Nat.eq_zero_or_pos m with h0 | h0
      · have hn : news = [] := List.eq_nil_of_length_eq_zero (by rw [hl, h0]; simp)
        subst hn
        simp at hu
      · obtain ⟨ad', h, _, hc⟩ := hx h0
        injection h with h
        subst h
        exact hc j u hu
    obtain ⟨v', w', hrun, h2, h3, _, h5⟩ := run_append_own_at (P := P) W base t ty e i z size bytes ht hi hz hsize hby hzs hsz v n xs hown ad m c news hl hcells h1 h63 hbytes hbase
    exact fin v' w' hrun h2 h3 h5

theorem row_new (W : World) (cs : List Value) (t : TypeId) (size m : Nat) (hl : cs.length = m * size) (hm : m ≤ maxLen) (g : Nat) (hg : g = W.heap.size) : Row (W.alloc (.cells cs.toArray t)) size (.slice (some ⟨g, 0, none⟩) m m) m cs := by
  subst hg
  refine ⟨_, _, rfl, Nat.le_refl _, hm, hl, fun h => (by cases h), fun _ => ⟨_, rfl, by simp, fun j u hu => ?_⟩⟩
  have hadd : (⟨W.heap.size, 0, none⟩ : Addr).add j = ⟨W.heap.size, j, none⟩ := by unfold Addr.add; split <;> simp_all
  rw [hadd, World.cell?_alloc_mark]
  simpa using hu

/-- 'append(s, x...)', x a row; in a plain region. -/
theorem wpList_app {P : Program} {W : World} {ops : Array Oper} {rest : List Oper} {o : Oper} {a : Act} {Q : Exit → Act → World → Prop} (hgd : o.guard = none) {s x : Operand} {t : TypeId}
    (ho : o.op = .call { callee := .builtin .append, args := #[s, x], argTypes := #[t, t] })
    {e : TypeId} {size bytes base : Nat} (he : ElemOk P t e size bytes) {v : Value} {n : Nat} {xs : List Value} (hown : W.ownsRow base e size v n xs) (hs : a.eval s = v)
    {u : Value} {m : Nat} {news : List Value} (hr : Row W size u m news) (hx : a.eval x = u) (h1 : ∀ u ∈ news, u.oneCell' = true) (hbytes : (n + m) * bytes ≤ 140737488355328) (h63 : n + m ≤ maxLen) (hbase : base ≤ W.heap.size)
    (h : ∀ A' c' w', w'.ownsRow base e size (.slice A' (n + m) c') (n + m) (xs ++ news) → W.grownBy w' v.ownBlock →
      ((Value.slice A' (n + m) c').ownBlock = v.ownBlock ∨ (Value.slice A' (n + m) c').ownBlock = some W.heap.size) → wpList P ops Q rest (a.put o.dst (.slice A' (n + m) c')) w') : wpList P ops Q (o :: rest) a W := by
  obtain ⟨A', c', w', hrun, h2, h3, h4⟩ := run_app (ty := o.type) he hown hr h1 hbytes h63 hbase
  refine wpList_plain hgd fun K hK => ?_
  unfold Oper.wp execOp
  simp only [ho, resolve, invoke, builtin, Sem.run_bind, Sem.run_pure, Result.andThen_ok, List.map_toArray, List.map_cons, List.map_nil, hs, hx, hrun]
  exact hK _ _ (h A' c' w' h2 h3 h4)

/-- 'append(s, x...)' onto the one row of the call's own; what lay below 'base' is kept. -/
theorem wpList_push {P : Program} {W w0 : World} {ops : Array Oper} {rest : List Oper} {o : Oper} {a : Act} {Q : Exit → Act → World → Prop} (hgd : o.guard = none) {s x : Operand} {t : TypeId}
    (ho : o.op = .call { callee := .builtin .append, args := #[s, x], argTypes := #[t, t] })
    {e : TypeId} {size bytes base : Nat} (he : ElemOk P t e size bytes) {v : Value} {n : Nat} {xs : List Value} (hown : W.ownsRow base e size v n xs) (hs : a.eval s = v)
    {u : Value} {m : Nat} {news : List Value} (hr : Row W size u m news) (hx : a.eval x = u) (hbl : Below base w0 W) (hbase : base ≤ W.heap.size) (h1 : ∀ u ∈ news, u.oneCell' = true) (hbytes : (n + m) * bytes ≤ 140737488355328) (h63 : n + m ≤ maxLen)
    (h : ∀ A' c' w', w'.ownsRow base e size (.slice A' (n + m) c') (n + m) (xs ++ news) → Below base w0 w' → wpList P ops Q rest (a.put o.dst (.slice A' (n + m) c')) w') : wpList P ops Q (o :: rest) a W :=
  wpList_app hgd ho he hown hs hr hx h1 hbytes h63 hbase fun A' c' w' h2 h3 _ => h A' c' w' h2 (grown_below hbl hown hbase h3)

/-! A block that is known whole; make. -/
/-- Block g is just the cells cs, of element type e. -/
def Blk (w : World) (g : Nat) (e : TypeId) (cs : List Value) : Prop := w.heap[g]? = some (.cells cs.toArray e (0, 0))
section
variable {w w' : World} {g : Nat} {e : TypeId} {cs : List Value}
theorem blk_new (w : World) (cs : List Value) (e : TypeId) : Blk (w.alloc (.cells cs.toArray e)) w.heap.size e cs := heap_alloc_new w _
theorem Blk.lt (h : Blk w g e cs) : g < w.heap.size := (Array.getElem?_eq_some_iff.1 h).1
theorem Blk.cell (h : Blk w g e cs) (i : Nat) : w.cell? ⟨g, i, none⟩ = cs[i]? := by
  rw [cell_of_row w g i cs.toArray e (0, 0) h]; simp
theorem Blk.frozen (h : Blk w g e cs) (i : Nat) : w.frozen? ⟨g, i, none⟩ = false := by
  unfold Blk at h
  simp [World.frozen?, h]
theorem Blk.set_ (h : Blk w g e cs) (i : Nat) (u : Value) : Blk (w.setCell ⟨g, i, none⟩ u) g e (cs.set i u) := by
  unfold Blk at h ⊢
  simp [World.setCell, Array.getElem?_modify, h]
theorem Blk.far (h : Blk w g e cs) {p : Addr} (hp : p.block ≠ g) (u : Value) : Blk (w.setCell p u) g e cs := (Below.heap_setCell w p u g (fun e => hp e.symm)).trans h
theorem Blk.alloc (h : Blk w g e cs) (o : Obj) : Blk (w.alloc o) g e cs := (Below.heap_alloc w o g h.lt).trans h
theorem Blk.below {B : Nat} (h : Blk w g e cs) (hb : Below B w w') (hg : g < B) : Blk w' g e cs := (hb.block g hg).trans h
theorem Blk.grown {row : Option Nat} (h : Blk w g e cs) (hb : w.grownBy w' row) (hg : some g ≠ row) : Blk w' g e cs := (hb.block g h.lt hg).trans h
theorem Blk.drewN (h : Blk w g e cs) (n : Nat) : Blk (w.drewN n) g e cs := h
theorem Blk.row (h : Blk w g e cs) {size n : Nat} (hl : cs.length = n * size) (hm : n ≤ maxLen) : Row w size (.slice (some ⟨g, 0, none⟩) n n) n cs := by
  refine ⟨_, _, rfl, Nat.le_refl _, hm, hl, fun h => (by cases h), fun _ => ⟨_, rfl, h.lt, fun j u hu => ?_⟩⟩
  have hadd : (⟨g, 0, none⟩ : Addr).add j = ⟨g, j, none⟩ := by unfold Addr.add; split <;> simp_all
  rw [hadd, h.cell]; exact hu
end
end Go.Proofs.YtnblfaagchflaaaGreatDoor
/- Maps whose keys are strings or integers: the entries as a list, oldest first. -/
namespace Go.Proofs.YtnblfaagchflaaaGreatDoor
open Go.RowKit

section
variable {κ : Type} [BEq κ]
def aget (m : List (κ × Value)) (k : κ) : Option Value := (m.find? (k == ·.1)).map (·.2)
def aset : List (κ × Value) → κ → Value → List (κ × Value)
  | [], k, v => [(k, v)]
  | p :: m, k, v => if k == p.1 then (k, v) :: m else p :: aset m k v

def pairsOf (es : List MapEntry) : List (Value × Value) := es.map fun e => (e.key, e.val)
/-- The key type k of a map reads as κ. -/
structure KeyOk (P : Program) (k : TypeId) (kv : κ → Value) : Prop where
  find : ∀ (x : κ) (es : List MapEntry) (m : List (κ × Value)) (w : World), pairsOf es = m.map (fun p => (kv p.1, p.2)) →
    (Instr.findKey k (kv x) es).run P w = .ok (((m.zipIdx 0).find? (fun q => x == q.1.1)).map fun q => (q.2, q.1.2)) w
  check : ∀ (b : Bool) (a : κ) (w : World), (Instr.checkKey b 10000 k (kv a)).run P w = .ok () w
  bits : ∀ a b, (a == b) = true → Instr.sameBits 10000 (kv b) (kv a) = true

end

section
variable {κ : Type} {kv : κ → Value} {w w' : World} {B : Nat} {m : List (κ × Value)}
/-- The stamps of a map's entries: elder than the clock, no two alike. -/
def Stamps (es : List MapEntry) (clock : Nat) : Prop := (∀ e ∈ es, e.born < clock) ∧ (es.map (·.born)).Nodup
/-- Block B is a map; its entries, oldest first. -/
def IsMap (kv : κ → Value) (w : World) (B : Nat) (m : List (κ × Value)) : Prop :=
  ∃ es clock, w.heap[B]? = some (.map es clock) ∧ pairsOf es.toList = (m.map fun p => (kv p.1, p.2)) ∧ Stamps es.toList clock
theorem Stamps.push {es : List MapEntry} {clock : Nat} (h : Stamps es clock) (k v : Value) : Stamps (es ++ [{ key := k, val := v, born := clock }]) (clock + 1) := by
  refine ⟨fun e he => ?_, ?_⟩
  · rcases List.mem_append.1 he with he | he
    · have := h.1 e he; omega
    · have : e = { key := k, val := v, born := clock } := by simpa using he
      rw [this]; simp
  · rw [List.map_append, List.nodup_append]
    refine ⟨h.2, by simp, ?_⟩
    intro a ha b hb
    obtain ⟨e, he, rfl⟩ := List.mem_map.1 ha
    have hb' : b = clock := by simpa using hb
    have := h.1 e he
    omega
theorem born_modify (l : List MapEntry) (i : Nat) (k v : Value) : (l.modify i (fun e => { e with key := k, val := v })).map (·.born) = l.map (·.born) := by
  induction l generalizing i with
  | nil => simp
  | cons e l ih =>
    cases i with
    | zero => simp
    | succ i => simp [ih]
theorem Stamps.modify {es : List MapEntry} {clock : Nat} (h : Stamps es clock) (i : Nat) (k v : Value) : Stamps (es.modify i (fun e => { e with key := k, val := v })) clock := by
  have hb := born_modify es i k v
  refine ⟨fun e he => ?_, by rw [hb]; exact h.2⟩
  have hm : e.born ∈ (es.modify i (fun e => { e with key := k, val := v })).map (·.born) := List.mem_map.2 ⟨e, he, rfl⟩
  rw [hb] at hm
  obtain ⟨e', he', e2⟩ := List.mem_map.1 hm
  have := h.1 e' he'
  omega

theorem IsMap.lt (h : IsMap kv w B m) : B < w.heap.size := by obtain ⟨es, c, h, _⟩ := h; exact (Array.getElem?_eq_some_iff.1 h).1
theorem IsMap.keep (h : IsMap kv w B m) (hk : w'.heap[B]? = w.heap[B]?) : IsMap kv w' B m := by obtain ⟨es, c, h, r⟩ := h; exact ⟨es, c, hk.trans h, r⟩
theorem IsMap.below (h : IsMap kv w B m) (hb : Below w.heap.size w w') : IsMap kv w' B m := h.keep (hb.block B h.lt)
theorem IsMap.alloc (h : IsMap kv w B m) (o : Obj) : IsMap kv (w.alloc o) B m := h.keep (Below.heap_alloc w o B h.lt)
theorem IsMap.drewN (h : IsMap kv w B m) (n : Nat) : IsMap kv (w.drewN n) B m := h
theorem IsMap.setCell (h : IsMap kv w B m) {p : Addr} (hp : p.block ≠ B) (u : Value) : IsMap kv (w.setCell p u) B m := h.keep (Below.heap_setCell w p u B (fun e => hp e.symm))
theorem IsMap.new (kv : κ → Value) (w : World) : IsMap kv (w.alloc (.map #[] 0)) w.heap.size [] := ⟨#[], 0, heap_alloc_new w _, rfl, ⟨fun e he => by simp at he, by simp⟩⟩

end

section
variable {κ : Type} [BEq κ] {P : Program} {k : TypeId} {kv : κ → Value} {w : World} {B : Nat} {m : List (κ × Value)}
theorem findNow_eq (d : TypeDesc) (hd : ∀ a b, Instr.sameNow d (kv a) (kv b) = some (a == b)) (x : κ) :
    ∀ (es : List MapEntry) (m : List (κ × Value)) (i : Nat), pairsOf es = m.map (fun p => (kv p.1, p.2)) →
      Instr.findNow d (kv x) es i = some (((m.zipIdx i).find? (fun q => x == q.1.1)).map fun q => (q.2, q.1.2)) := by
  intro es
  induction es with
  | nil => intro m i h; cases m with
    | nil => simp [Instr.findNow]
    | cons p m => simp [pairsOf] at h
  | cons e es ih => intro m i h; cases m with
    | nil => simp [pairsOf] at h
    | cons p m =>
      simp only [pairsOf, List.map_cons, List.cons.injEq, Prod.mk.injEq] at h
      obtain ⟨⟨h1, h2⟩, h3⟩ := h
      simp only [Instr.findNow, h1, hd, List.zipIdx_cons, List.find?_cons]
      cases hx : (x == p.1)
      · exact ih m (i + 1) h3
      · simp [h2]

theorem find_zip (x : κ) : ∀ (m : List (κ × Value)) (i : Nat), (((m.zipIdx i).find? (fun q => x == q.1.1)).map fun q => q.1.2) = aget m x
  | [], i => rfl
  | p :: m, i => by
    simp only [List.zipIdx_cons, List.find?_cons, aget]
    cases hx : (x == p.1)
    · exact find_zip x m (i + 1)
    · rfl

theorem find_of_now {d : TypeDesc} (hk : P.underlying k = some d) (hs : ∀ a b, Instr.sameNow d (kv a) (kv b) = some (a == b)) (x : κ) (es : List MapEntry) (m : List (κ × Value)) (w : World) (h : pairsOf es = m.map (fun p => (kv p.1, p.2))) :
    (Instr.findKey k (kv x) es).run P w = .ok (((m.zipIdx 0).find? (fun q => x == q.1.1)).map fun q => (q.2, q.1.2)) w := by
  simp only [Instr.findKey, Sem.run_bind, run_underlying hk, Result.andThen_ok, findNow_eq d hs x es m 0 h, Sem.run_pure]
theorem findAsking_eq (hq : ∀ a b (w : World), (Op.equal k (kv a) (kv b)).run P w = .ok (a == b) w) (x : κ) (w : World) :
    ∀ (es : List MapEntry) (m : List (κ × Value)) (i : Nat), pairsOf es = m.map (fun p => (kv p.1, p.2)) →
      (Instr.findAsking k (kv x) es i).run P w = .ok (((m.zipIdx i).find? (fun q => x == q.1.1)).map fun q => (q.2, q.1.2)) w := by
  intro es
  induction es with
  | nil => intro m i h; cases m with
    | nil => simp [Instr.findAsking]
    | cons p m => simp [pairsOf] at h
  | cons e es ih => intro m i h; cases m with
    | nil => simp [pairsOf] at h
    | cons p m =>
      simp only [pairsOf, List.map_cons, List.cons.injEq, Prod.mk.injEq] at h
      obtain ⟨⟨h1, h2⟩, h3⟩ := h
      simp only [Instr.findAsking, Sem.run_bind, h1, hq, Result.andThen_ok, List.zipIdx_cons, List.find?_cons]
      cases hx : (x == p.1)
      · simpa using ih m (i + 1) h3
      · simp [h2]
/-- Keys that the model compares by asking. -/
theorem find_of_ask {d : TypeDesc} (hk : P.underlying k = some d) (hs : ∀ a b, Instr.sameNow d (kv a) (kv b) = none) (hq : ∀ a b (w : World), (Op.equal k (kv a) (kv b)).run P w = .ok (a == b) w)
    (x : κ) (es : List MapEntry) (m : List (κ × Value)) (w : World) (h : pairsOf es = m.map (fun p => (kv p.1, p.2))) :
    (Instr.findKey k (kv x) es).run P w = .ok (((m.zipIdx 0).find? (fun q => x == q.1.1)).map fun q => (q.2, q.1.2)) w := by
  simp only [Instr.findKey, Sem.run_bind, run_underlying hk, Result.andThen_ok]
  cases es with
  | nil => cases m with
    | nil => simp [Instr.findNow]
    | cons p m => simp [pairsOf] at h
  | cons e es => cases m with
    | nil => simp [pairsOf] at h
    | cons p m =>
      have h' := h
      simp only [pairsOf, List.map_cons, List.cons.injEq, Prod.mk.injEq] at h'
      have hn : Instr.findNow d (kv x) (e :: es) 0 = none := by simp only [Instr.findNow, h'.1.1, hs]
      rw [hn]
      exact findAsking_eq hq x w (e :: es) (p :: m) 0 h

theorem IsMap.lookup (h : IsMap kv w B m) (K : KeyOk P k kv) {t e : TypeId} (ht : P.underlying t = some (.map k e)) {z : Value} (hz : (zeroValue e).run P w = .ok z w) (x : κ) (c : Bool) :
    (Instr.lookup t (.map (some B)) (kv x) c).run P w = .ok (if c then .tuple #[(aget m x).getD z, .bool (aget m x).isSome] else (aget m x).getD z) w := by
  obtain ⟨es, clock, hB, hp, -⟩ := h
  have hf := find_zip x m 0
  have hg : (getObj B).run P w = .ok (.map es clock) w := by simp [getObj, Sem.run, hB]
  simp only [Instr.lookup, Sem.run_bind, run_underlying ht, Result.andThen_ok, hg, K.check, K.find x _ _ _ hp, Sem.run_pure]
  cases hq : (m.zipIdx 0).find? (fun q => x == q.1.1) with
  | none => rw [hq] at hf; simp only [Option.map_none] at hf; simp [← hf, hz]
  | some q => rw [hq] at hf; simp only [Option.map_some] at hf; simp [← hf]

theorem aset_modify (x : κ) (v : Value) : ∀ (es : List MapEntry) (m : List (κ × Value)) (i : Nat) (q : (κ × Value) × Nat), pairsOf es = m.map (fun p => (kv p.1, p.2)) →
    (m.zipIdx i).find? (fun q => x == q.1.1) = some q → i ≤ q.2 ∧ pairsOf (es.modify (q.2 - i) (fun e => { e with key := kv x, val := v })) = (aset m x v).map (fun p => (kv p.1, p.2)) ∧ (∃ e y, es[q.2 - i]? = some e ∧ e.key = kv y ∧ (x == y) = true) := by
  intro es
  induction es with
  | nil => intro m i q h hq; cases m with
    | nil => simp at hq
    | cons p m => simp [pairsOf] at h
  | cons e es ih => intro m i q h hq; cases m with
    | nil => simp [pairsOf] at h
    | cons p m =>
      simp only [pairsOf, List.map_cons, List.cons.injEq, Prod.mk.injEq] at h
      obtain ⟨⟨h1, h2⟩, h3⟩ := h
      simp only [List.zipIdx_cons, List.find?_cons] at hq
      cases hx : (x == p.1)
      · rw [hx] at hq
        obtain ⟨a1, a2, a3⟩ := ih m (i + 1) q h3 hq
        refine ⟨by omega, ?_, ?_⟩
        · rw [show q.2 - i = (q.2 - (i + 1)) + 1 by omega]
          simp only [List.modify_succ_cons, pairsOf, List.map_cons, aset, hx]
          simpa [h1, h2, pairsOf] using a2
        · rw [show q.2 - i = (q.2 - (i + 1)) + 1 by omega]
          simpa using a3
      · rw [hx] at hq
        obtain rfl : (p, i) = q := by simpa using hq
        refine ⟨Nat.le_refl _, by simp [pairsOf, aset, hx, ← h3], e, p.1, by simp, h1, hx⟩

theorem aset_push (x : κ) (v : Value) : ∀ (m : List (κ × Value)) (i : Nat), (m.zipIdx i).find? (fun q => x == q.1.1) = none → aset m x v = m ++ [(x, v)]
  | [], _, _ => rfl
  | p :: m, i, h => by
    simp only [List.zipIdx_cons, List.find?_cons] at h
    cases hx : (x == p.1)
    · rw [hx] at h
      simp [aset, hx, aset_push x v m (i + 1) h]
    · rw [hx] at h; simp at h

theorem IsMap.update (h : IsMap kv w B m) (K : KeyOk P k kv) {t e : TypeId} (ht : P.underlying t = some (.map k e)) (x : κ) (v : Value) :
    ∃ w', (Instr.mapUpdate t (.map (some B)) (kv x) v).run P w = .ok () w' ∧ IsMap kv w' B (aset m x v) ∧ w.grownBy w' (some B) ∧ w'.heap.size = w.heap.size := by
  have hlt := h.lt
  obtain ⟨es, clock, hB, hp, hst⟩ := h
  have hg : (getObj B).run P w = .ok (.map es clock) w := by simp [getObj, Sem.run, hB]
  have hset : ∀ o : Obj, ∃ w', (setObj B o).run P w = .ok () w' ∧ w'.heap[B]? = some o ∧ w.grownBy w' (some B) ∧ w'.heap.size = w.heap.size := by
    intro o
    refine ⟨{ w with heap := w.heap.setIfInBounds B o }, by simp [setObj, Sem.run, hB], by simp [hlt], ⟨rfl, rfl, rfl, by simp, fun k _ hk => ?_⟩, by simp⟩
    show (w.heap.setIfInBounds B o)[k]? = _
    rw [Array.getElem?_setIfInBounds_ne (fun e => hk (by rw [e]))]
  cases hq : (m.zipIdx 0).find? (fun q => x == q.1.1) with
  | none =>
    obtain ⟨w', hr, hb', hgr, hsz⟩ := hset (.map (es.push { key := kv x, val := v, born := clock }) (clock + 1))
    refine ⟨w', ?_, ⟨_, _, hb', ?_, by rw [Array.toList_push]; exact hst.push _ _⟩, hgr, hsz⟩
    · simp only [Instr.mapUpdate, Sem.run_bind, run_underlying ht, Result.andThen_ok, hg, K.check, K.find x _ _ _ hp, hq, Option.map_none, hr]
    · rw [aset_push x v m 0 hq]
      simp only [pairsOf] at hp
      simp [pairsOf, hp]
  | some q =>
    obtain ⟨-, a2, e0, y, a3, a4, a5⟩ := aset_modify (kv := kv) x v es.toList m 0 q hp hq
    simp only [Nat.sub_zero] at a2 a3
    obtain ⟨w', hr, hb', hgr, hsz⟩ := hset (.map (es.modify q.2 fun e => { e with key := kv x, val := v }) clock)
    refine ⟨w', ?_, ⟨_, _, hb', ?_, by rw [Array.toList_modify]; exact hst.modify _ _ _⟩, hgr, hsz⟩
    · have he : es[q.2]? = some e0 := by simpa using a3
      simp only [Instr.mapUpdate, Sem.run_bind, run_underlying ht, Result.andThen_ok, hg, K.check, K.find x _ _ _ hp, hq, Option.map_some, Instr.keyThatStays, he, Option.getD_some, a4, K.bits x y a5, if_true, Sem.run_pure, hr]
    · simpa using a2
end

theorem ba_eq {a b : ByteArray} (h : (a == b) = true) : a = b := by
  cases a with | mk x => cases b with | mk y =>
  have : (x == y) = true := h
  rw [eq_of_beq this]
theorem ba_refl (a : ByteArray) : (a == a) = true := by
  cases a with | mk x =>
  show (x == x) = true
  simp
theorem check_string {P : Program} {k : TypeId} (hk : P.underlying k = some .string) (b : Bool) (a : ByteArray) (w : World) (n : Nat) : (Instr.checkKey b (n + 1) k (.string a)).run P w = .ok () w := by
  simp [Instr.checkKey, run_underlying hk]
theorem check_int {P : Program} {k : TypeId} {q : IntKind} (hk : P.underlying k = some (.int q)) (b : Bool) (a : Int) (w : World) (n : Nat) : (Instr.checkKey b (n + 1) k (.int q a)).run P w = .ok () w := by
  simp [Instr.checkKey, run_underlying hk]
theorem bits_string (a : ByteArray) (n : Nat) : Instr.sameBits (n + 1) (.string a) (.string a) = true := by simp only [Instr.sameBits]; exact ba_refl a
theorem bits_int (q : IntKind) (a : Int) (n : Nat) : Instr.sameBits (n + 1) (.int q a) (.int q a) = true := by simp [Instr.sameBits]

theorem keyOk_string {P : Program} {k : TypeId} (hk : P.underlying k = some .string) : KeyOk P k Value.string :=
  ⟨find_of_now hk fun _ _ => rfl, fun b a w => check_string hk b a w 9999, fun a b h => by
    have : b = a := (ba_eq h).symm
    subst this
    exact bits_string b 9999⟩
theorem keyOk_int {P : Program} {k : TypeId} {q : IntKind} (hk : P.underlying k = some (.int q)) : KeyOk P k (fun n : Int => Value.int q n) :=
  ⟨find_of_now hk fun a b => by simp [Instr.sameNow], fun b a w => check_int hk b a w 9999, fun a b h => by
    have : b = a := (eq_of_beq h).symm
    subst this
    exact bits_int q b 9999⟩

instance lawfulBA : LawfulBEq ByteArray where
  eq_of_beq := ba_eq
  rfl := ba_refl _

/-! A map that reads as a function. -/
section
variable {κ α : Type} [BEq κ] {P : Program} {k : TypeId} {kv : κ → Value} {enc : α → Value} {w w' : World} {B : Nat} {f : κ → Option α}
def upd {κ α : Type} [DecidableEq κ] (f : κ → Option α) (k : κ) (v : α) : κ → Option α := fun x => if x = k then some v else f x
def FMap (kv : κ → Value) (enc : α → Value) (w : World) (B : Nat) (f : κ → Option α) : Prop := ∃ m, IsMap kv w B m ∧ ∀ x, aget m x = (f x).map enc
theorem aget_aset [LawfulBEq κ] [DecidableEq κ] (m : List (κ × Value)) (x k : κ) (v : Value) : aget (aset m k v) x = if x = k then some v else aget m x := by
  induction m with
  | nil =>
    by_cases h : x = k
    · simp [aget, aset, h]
    · simp [aget, aset, h]
  | cons p m ih =>
    by_cases hk : k = p.1
    · subst hk
      by_cases h : x = p.1 <;> simp [aget, aset, h]
    · have hk' : (k == p.1) = false := by simpa using hk
      simp only [aset, hk']
      unfold aget at ih ⊢
      by_cases h : x = p.1
      · subst h
        have : ¬ p.1 = k := fun e => hk e.symm
        simp [this]
      · have h' : (x == p.1) = false := by simpa using h
        simp only [Bool.false_eq_true, if_false, List.find?_cons, h']
        exact ih
theorem FMap.lt (h : FMap kv enc w B f) : B < w.heap.size := by obtain ⟨m, h, _⟩ := h; exact h.lt
theorem FMap.keep (h : FMap kv enc w B f) (hk : w'.heap[B]? = w.heap[B]?) : FMap kv enc w' B f := by obtain ⟨m, h, r⟩ := h; exact ⟨m, h.keep hk, r⟩
theorem FMap.below (h : FMap kv enc w B f) (hb : Below w.heap.size w w') : FMap kv enc w' B f := by obtain ⟨m, h, r⟩ := h; exact ⟨m, h.below hb, r⟩
theorem FMap.alloc (h : FMap kv enc w B f) (o : Obj) : FMap kv enc (w.alloc o) B f := by obtain ⟨m, h, r⟩ := h; exact ⟨m, h.alloc o, r⟩
theorem FMap.setCell (h : FMap kv enc w B f) {p : Addr} (hp : p.block ≠ B) (u : Value) : FMap kv enc (w.setCell p u) B f := by obtain ⟨m, h, r⟩ := h; exact ⟨m, h.setCell hp u, r⟩
theorem FMap.new (kv : κ → Value) (enc : α → Value) (w : World) : FMap kv enc (w.alloc (.map #[] 0)) w.heap.size (fun _ => none) := ⟨[], IsMap.new kv w, fun _ => rfl⟩
theorem FMap.grown {row : Option Nat} (h : FMap kv enc w B f) (hb : w.grownBy w' row) (hg : some B ≠ row) : FMap kv enc w' B f := h.keep (hb.block B h.lt hg)
/-- What a look-up gives. -/
def lookV (enc : α → Value) (z : Value) (c : Bool) (o : Option α) : Value := if c then .tuple #[(o.map enc).getD z, .bool o.isSome] else (o.map enc).getD z
theorem FMap.lookup (h : FMap kv enc w B f) (K : KeyOk P k kv) {t e : TypeId} (ht : P.underlying t = some (.map k e)) {z : Value} (hz : (zeroValue e).run P w = .ok z w) (x : κ) (c : Bool) :
    (Instr.lookup t (.map (some B)) (kv x) c).run P w = .ok (lookV enc z c (f x)) w := by
  obtain ⟨m, h, r⟩ := h
  rw [h.lookup K ht hz x c, r x]
  unfold lookV
  cases f x <;> rfl
theorem FMap.update [LawfulBEq κ] [DecidableEq κ] (h : FMap kv enc w B f) (K : KeyOk P k kv) {t e : TypeId} (ht : P.underlying t = some (.map k e)) (x : κ) (v : α) :
    ∃ w', (Instr.mapUpdate t (.map (some B)) (kv x) (enc v)).run P w = .ok () w' ∧ FMap kv enc w' B (upd f x v) ∧ w.grownBy w' (some B) ∧ w'.heap.size = w.heap.size := by
  obtain ⟨m, h, r⟩ := h
  obtain ⟨w', h1, h2, h3, h4⟩ := h.update K ht x (enc v)
  refine ⟨w', h1, ⟨_, h2, fun y => ?_⟩, h3, h4⟩
  rw [aget_aset]
  unfold upd
  by_cases e : y = x
  · rw [if_pos e, if_pos e]; rfl
  · rw [if_neg e, if_neg e]; exact r y
end

end Go.Proofs.YtnblfaagchflaaaGreatDoor
