/- Words for memory that all texts of this seat use: a slice that reads as a row of cells; how it is kept. -/
import Derived.Test.YteolonjmgojoeaaGreatDoorRows
import Derived.WalkKit
import Derived.WalkSpells
import Derived.WalkLawsBesides
import Derived.Lib.Hide
import Derived.Deep.QuietTactic
import Derived.BigQuiet
import Derived.Maps.AppendAt
import Derived.OwnWalkIn
import Derived.Lib.AppendStr
namespace Go.Proofs.YteolonjmgojoeaaGreatDoor
open Go.RowKit

theorem add_block (a : Addr) (n : Nat) : (a.add n).block = a.block := by unfold Addr.add; split <;> rfl
theorem add_add' (a : Addr) (i j : Nat) : (a.add i).add j = a.add (i + j) := by
  unfold Addr.add
  by_cases hi : i = 0 <;> by_cases hj : j = 0 <;> simp [hi, hj, Nat.add_assoc]

theorem add_lit_ (a : Addr) (j : Nat) : (⟨a.block, a.off + (j + 1), none⟩ : Addr) = a.add (j + 1) := by unfold Addr.add; rw [if_neg (by omega)]

/-- The slice value v has n elements of 'size' cells each, and these cells are xs. -/
def Row (w : World) (size : Nat) (v : Value) (n : Nat) (xs : List Value) : Prop :=
  ∃ A c, v = .slice A n c ∧ n ≤ c ∧ c ≤ maxLen ∧ xs.length = n * size ∧ (A = none → c = 0) ∧
    (0 < n → ∃ ad, A = some ad ∧ ad.block < w.heap.size ∧ ∀ j u, xs[j]? = some u → w.cell? (ad.add j) = some u)

theorem cell_lt {w : World} {a : Addr} {u : Value} (h : w.cell? a = some u) : a.block < w.heap.size := World.block_lt_of_cell? w a h
theorem cell_alloc {w : World} {a : Addr} {u : Value} (h : w.cell? a = some u) (o : Obj) : (w.alloc o).cell? a = some u :=
  (World.cell?_alloc_lt w o a (cell_lt h)).trans h
theorem cell_below {w w' : World} {B : Nat} {a : Addr} {u : Value} (h : w.cell? a = some u) (hb : Below B w w') (ha : a.block < B) : w'.cell? a = some u := (hb.cell ha).trans h

section
variable {w w' : World} {size n : Nat} {v : Value} {xs : List Value}
theorem Row.keep (h : Row w size v n xs) (hs : w.heap.size ≤ w'.heap.size) (hk : ∀ p : Addr, p.block < w.heap.size → w'.cell? p = w.cell? p) : Row w' size v n xs := by
  obtain ⟨A, c, rfl, hc, hm, hl, h0, hx⟩ := h
  refine ⟨A, c, rfl, hc, hm, hl, h0, fun hn => ?_⟩
  obtain ⟨ad, e, hb, hcell⟩ := hx hn
  exact ⟨ad, e, by omega, fun j u hu => (hk _ (by rw [add_block]; exact hb)).trans (hcell j u hu)⟩
theorem Row.below (h : Row w size v n xs) (hb : Below w.heap.size w w') : Row w' size v n xs := h.keep hb.size fun _ hp => hb.cell hp
theorem Row.alloc (h : Row w size v n xs) (o : Obj) : Row (w.alloc o) size v n xs := h.keep (by simp) fun p hp => World.cell?_alloc_lt w o p hp
theorem Row.drew (h : Row w size v n xs) : Row w.drew size v n xs := h
theorem Row.drewN (h : Row w size v n xs) (k : Nat) : Row (w.drewN k) size v n xs := h
theorem Row.nil_ (w : World) (size : Nat) : Row w size (.slice none 0 0) 0 [] := ⟨none, 0, rfl, Nat.le_refl _, by simp [maxLen], by simp, fun _ => rfl, fun h => absurd h (by omega)⟩
theorem Row.len (h : Row w size v n xs) : xs.length = n * size := by obtain ⟨A, c, rfl, hc, hm, hl, h0, hx⟩ := h; exact hl
theorem Row.cells (h : Row w size v n xs) (hn : 0 < n) : ∃ ad c, v = .slice (some ad) n c ∧ n ≤ c ∧ c ≤ maxLen ∧ ad.block < w.heap.size ∧ ∀ j u, xs[j]? = some u → w.cell? (ad.add j) = some u := by
  obtain ⟨A, c, rfl, hc, hm, hl, h0, hx⟩ := h
  obtain ⟨ad, rfl, hb, hcell⟩ := hx hn
  exact ⟨ad, c, rfl, hc, hm, hb, hcell⟩
theorem Row.slice {A : Option Addr} {c lo hi : Nat} (h : Row w size (.slice A n c) n xs) (h1 : lo ≤ hi) (h2 : hi ≤ n) :
    Row w size (.slice (if c = lo then A else A.map (·.add (lo * size))) (hi - lo) (c - lo)) (hi - lo) ((xs.drop (lo * size)).take ((hi - lo) * size)) := by
  obtain ⟨A', c', e, hc, hm, hl, h0, hx⟩ := h
  injection e with e1 e2 e3
  subst e1 e3
  refine ⟨_, _, rfl, by omega, by omega, ?_, ?_, fun hn => ?_⟩
  · rw [List.length_take, List.length_drop, hl, ← Nat.sub_mul]
    exact Nat.min_eq_left (Nat.mul_le_mul_right _ (by omega))
  · intro hA
    split at hA
    · omega
    · have := h0 (by simpa using hA); omega
  · obtain ⟨ad, rfl, hb, hcell⟩ := hx (by omega)
    rw [if_neg (by omega)]
    refine ⟨ad.add (lo * size), rfl, by rw [add_block]; exact hb, fun j u hu => ?_⟩
    rw [add_add']
    refine hcell _ u ?_
    rw [List.getElem?_take] at hu
    split at hu
    · rwa [List.getElem?_drop] at hu
    · cases hu
theorem Row.of_own {base : Nat} {e : TypeId} (h : w.ownsRow base e size v n xs) : Row w size v n xs := by
  have hl := h.1
  rcases h.2 with ⟨rfl, rfl⟩ | ⟨g, cap, cur, rfl, _, hg, hnc, hcm, _, _⟩
  · exact ⟨none, 0, rfl, Nat.le_refl _, by simp [maxLen], hl, fun _ => rfl, fun h => absurd h (by omega)⟩
  · exact ⟨_, cap, rfl, hnc, hcm, hl, fun h => (by cases h), fun _ => ⟨_, rfl, (Array.getElem?_eq_some_iff.1 hg).1, h.cells (g := g) rfl⟩⟩
end

/-- A slice of bytes. -/
def Bytes (w : World) (v : Value) (l : List UInt8) : Prop := Row w 1 v l.length (l.map fun b => .int .u8 b.toNat)
/-- A slice of strings. -/
def Strs (w : World) (v : Value) (l : List ByteArray) : Prop := Row w 1 v l.length (l.map .string)
/-- A slice of pairs of strings (api.Keyword). -/
def pairCells (l : List (ByteArray × ByteArray)) : List Value := l.flatMap fun p => [.string p.1, .string p.2]
def Pairs (w : World) (v : Value) (l : List (ByteArray × ByteArray)) : Prop := Row w 2 v l.length (pairCells l)
/-- A slice of pairs of ints (api.Range). -/
def rangeCells (l : List (Nat × Nat)) : List Value := l.flatMap fun p => [.int .i64 p.1, .int .i64 p.2]
def Ranges (w : World) (v : Value) (l : List (Nat × Nat)) : Prop := Row w 2 v l.length (rangeCells l)
/-- A slice of ints. -/
def Ints (w : World) (v : Value) (l : List Nat) : Prop := Row w 1 v l.length (l.map fun (n : Nat) => .int .i64 n)

theorem flat2_get {α : Type} (f g : α → Value) (l : List α) (i : Nat) (x : α) (h : l[i]? = some x) :
    (l.flatMap fun p => [f p, g p])[i * 2]? = some (f x) ∧ (l.flatMap fun p => [f p, g p])[i * 2 + 1]? = some (g x) := by
  induction l generalizing i with
  | nil => simp at h
  | cons y l ih =>
    cases i with
    | zero => simp at h; subst h; simp
    | succ i =>
      have h' := ih i (by simpa using h)
      simp only [List.flatMap_cons]
      have e1 : (i + 1) * 2 = (i * 2) + 2 := by omega
      have e2 : (i + 1) * 2 + 1 = (i * 2 + 1) + 2 := by omega
      rw [e2, e1]
      simpa using h'

section
variable {w w' : World} {v : Value}
theorem Bytes.below {l : List UInt8} (h : Bytes w v l) (hb : Below w.heap.size w w') : Bytes w' v l := Row.below h hb
theorem Bytes.alloc {l : List UInt8} (h : Bytes w v l) (o : Obj) : Bytes (w.alloc o) v l := Row.alloc h o
theorem Bytes.drewN {l : List UInt8} (h : Bytes w v l) (k : Nat) : Bytes (w.drewN k) v l := h
theorem Strs.below {l : List ByteArray} (h : Strs w v l) (hb : Below w.heap.size w w') : Strs w' v l := Row.below h hb
theorem Strs.alloc {l : List ByteArray} (h : Strs w v l) (o : Obj) : Strs (w.alloc o) v l := Row.alloc h o
theorem Strs.drewN {l : List ByteArray} (h : Strs w v l) (k : Nat) : Strs (w.drewN k) v l := h
theorem Pairs.below {l : List (ByteArray × ByteArray)} (h : Pairs w v l) (hb : Below w.heap.size w w') : Pairs w' v l := Row.below h hb
theorem Pairs.alloc {l : List (ByteArray × ByteArray)} (h : Pairs w v l) (o : Obj) : Pairs (w.alloc o) v l := Row.alloc h o
theorem Pairs.drewN {l : List (ByteArray × ByteArray)} (h : Pairs w v l) (k : Nat) : Pairs (w.drewN k) v l := h
theorem Ranges.below {l : List (Nat × Nat)} (h : Ranges w v l) (hb : Below w.heap.size w w') : Ranges w' v l := Row.below h hb
theorem Ranges.alloc {l : List (Nat × Nat)} (h : Ranges w v l) (o : Obj) : Ranges (w.alloc o) v l := Row.alloc h o
theorem Ranges.drewN {l : List (Nat × Nat)} (h : Ranges w v l) (k : Nat) : Ranges (w.drewN k) v l := h
theorem Ints.below {l : List Nat} (h : Ints w v l) (hb : Below w.heap.size w w') : Ints w' v l := Row.below h hb
theorem Ints.alloc {l : List Nat} (h : Ints w v l) (o : Obj) : Ints (w.alloc o) v l := Row.alloc h o
theorem Ints.drewN {l : List Nat} (h : Ints w v l) (k : Nat) : Ints (w.drewN k) v l := h
theorem Row.at_ {size n k c : Nat} {A : Option Addr} {xs : List Value} (h : Row w size (.slice A n c) n xs) (hk : k < n) : ∃ ad, A = some ad ∧ ad.block < w.heap.size ∧ ∀ j u, xs[k * size + j]? = some u → w.cell? (ad.add (k * size + j)) = some u := by
  obtain ⟨ad, c', e, h1, h2, h3, h4⟩ := Row.cells h (by omega)
  injection e with e1 e2 e3
  exact ⟨ad, e1, h3, fun j u hu => h4 _ u hu⟩
theorem Bytes.at_ {l : List UInt8} {k c : Nat} {A : Option Addr} (h : Bytes w (.slice A l.length c) l) (hk : k < l.length) : ∃ ad, A = some ad ∧ ad.block < w.heap.size ∧ w.cell? (ad.add k) = some (.int .u8 (l[k].toNat)) := by
  obtain ⟨ad, e, hb, h4⟩ := Row.at_ h hk
  exact ⟨ad, e, hb, by have := h4 0 _ (by simp [hk]; rfl); simpa using this⟩
theorem Bytes.slice {l : List UInt8} {A : Option Addr} {c lo hi : Nat} (h : Bytes w (.slice A l.length c) l) (h1 : lo ≤ hi) (h2 : hi ≤ l.length) :
    Bytes w (.slice (if c = lo then A else A.map (·.add lo)) (hi - lo) (c - lo)) ((l.drop lo).take (hi - lo)) := by
  have h' := Row.slice h h1 h2
  unfold Bytes
  rw [List.length_take, List.length_drop, Nat.min_eq_left (by omega), List.map_take, List.map_drop]
  simpa using h'
theorem Bytes.sub {l : List UInt8} {ad : Addr} {c lo hi : Nat} (h : Bytes w (.slice (some ad) l.length c) l) (h1 : lo ≤ hi) (h2 : hi ≤ l.length) (h3 : lo < c) :
    Bytes w (.slice (some (ad.add lo)) (hi - lo) (c - lo)) ((l.drop lo).take (hi - lo)) := by
  have h' := h.slice h1 h2
  rwa [if_neg (by omega)] at h'
theorem Strs.at_ {l : List ByteArray} {k c : Nat} {A : Option Addr} (h : Strs w (.slice A l.length c) l) (hk : k < l.length) : ∃ ad, A = some ad ∧ ad.block < w.heap.size ∧ w.cell? (ad.add k) = some (.string l[k]) := by
  obtain ⟨ad, e, hb, h4⟩ := Row.at_ h hk
  exact ⟨ad, e, hb, by have := h4 0 _ (by simp [hk]; rfl); simpa using this⟩
theorem Ints.at_ {l : List Nat} {k c : Nat} {A : Option Addr} (h : Ints w (.slice A l.length c) l) (hk : k < l.length) : ∃ ad, A = some ad ∧ ad.block < w.heap.size ∧ w.cell? (ad.add k) = some (.int .i64 l[k]) := by
  obtain ⟨ad, e, hb, h4⟩ := Row.at_ h hk
  exact ⟨ad, e, hb, by have := h4 0 _ (by simp [hk]; rfl); simpa using this⟩
theorem Pairs.at_ {l : List (ByteArray × ByteArray)} {k c : Nat} {A : Option Addr} (h : Pairs w (.slice A l.length c) l) (hk : k < l.length) :
    ∃ ad, A = some ad ∧ ad.block < w.heap.size ∧ w.cell? (ad.add (k * 2)) = some (.string l[k].1) ∧ w.cell? ⟨(ad.add (k * 2)).block, (ad.add (k * 2)).off + 1, none⟩ = some (.string l[k].2) := by
  obtain ⟨ad, e, hb, h4⟩ := Row.at_ h hk
  have hg := flat2_get (fun p : ByteArray × ByteArray => Value.string p.1) (fun p => Value.string p.2) l k l[k] (by simp [hk])
  exact ⟨ad, e, hb, h4 0 _ hg.1, by rw [add_lit_, add_add']; exact h4 1 _ hg.2⟩
theorem Ranges.at_ {l : List (Nat × Nat)} {k c : Nat} {A : Option Addr} (h : Ranges w (.slice A l.length c) l) (hk : k < l.length) :
    ∃ ad, A = some ad ∧ ad.block < w.heap.size ∧ w.cell? (ad.add (k * 2)) = some (.int .i64 l[k].1) ∧ w.cell? ⟨(ad.add (k * 2)).block, (ad.add (k * 2)).off + 1, none⟩ = some (.int .i64 l[k].2) := by
  obtain ⟨ad, e, hb, h4⟩ := Row.at_ h hk
  have hg := flat2_get (fun p : Nat × Nat => Value.int .i64 p.1) (fun p => Value.int .i64 p.2) l k l[k] (by simp [hk])
  exact ⟨ad, e, hb, h4 0 _ hg.1, by rw [add_lit_, add_add']; exact h4 1 _ hg.2⟩
end

/-! Slicing: one equation for the run, the address under a name. -/
theorem run_sub {P : Program} {w : World} {t e : TypeId} {size n c lo hi : Nat} {x y : Int} {kx ky : IntKind} {A : Option Addr} {xs : List Value} (ht : P.underlying t = some (.slice e)) (hs : ∀ w, (sizeOf e).run P w = .ok size w)
    (h : Row w size (.slice A n c) n xs) (h1 : lo ≤ hi) (h2 : hi ≤ n) (hx : x = lo) (hy : y = hi) :
    ∃ A' c', (Instr.sliceAt t (.slice A n c) (some (.int kx x)) (some (.int ky y)) none).run P w = .ok (.slice A' (hi - lo) c') w ∧ Row w size (.slice A' (hi - lo) c') (hi - lo) ((xs.drop (lo * size)).take ((hi - lo) * size)) := by
  subst hx hy
  have hc : n ≤ c := by obtain ⟨A', c', e, hc, _⟩ := id h; injection e with e1 e2 e3; omega
  have he : P.elem t = e := by simp [Program.elem, ht]
  refine ⟨_, _, ?_, Row.slice h h1 h2⟩
  have ht' : P.underlying t = some (.slice (P.elem t)) := by rw [he]; exact ht
  rw [run_sliceAt_slice w t _ _ _ _ ht', run_slice_lh w t A n c ht' _ _ _ _ (by omega) (by omega) (by omega), he, hs]
  simp [Result.andThen, sliced]
theorem run_sub_from {P : Program} {w : World} {t e : TypeId} {size n c lo : Nat} {x : Int} {kx : IntKind} {A : Option Addr} {xs : List Value} (ht : P.underlying t = some (.slice e)) (hs : ∀ w, (sizeOf e).run P w = .ok size w)
    (h : Row w size (.slice A n c) n xs) (h1 : lo ≤ n) (hx : x = lo) :
    ∃ A' c', (Instr.sliceAt t (.slice A n c) (some (.int kx x)) none none).run P w = .ok (.slice A' (n - lo) c') w ∧ Row w size (.slice A' (n - lo) c') (n - lo) (xs.drop (lo * size)) := by
  subst hx
  have he : P.elem t = e := by simp [Program.elem, ht]
  have hr := Row.slice h h1 (Nat.le_refl _)
  rw [List.take_of_length_le (by rw [List.length_drop, h.len, ← Nat.sub_mul]; exact Nat.le_refl _)] at hr
  refine ⟨_, _, ?_, hr⟩
  have ht' : P.underlying t = some (.slice (P.elem t)) := by rw [he]; exact ht
  rw [run_sliceAt_slice w t _ _ _ _ ht', run_slice_l w t A n c ht' _ _ (by omega) (by omega), he, hs]
  simp [Result.andThen, sliced]
theorem Bytes.of_row {w : World} {A : Option Addr} {l : List UInt8} {n c lo : Nat} (h : Row w 1 (.slice A n c) n (((l.map fun b => Value.int .u8 b.toNat).drop (lo * 1)).take (n * 1))) (hn : lo + n ≤ l.length) : Bytes w (.slice A n c) ((l.drop lo).take n) := by
  unfold Bytes
  rw [List.length_take, List.length_drop, Nat.min_eq_left (by omega), List.map_take, List.map_drop]
  simpa using h
/-! Conversions between strings and slices of bytes. -/
theorem run_str {P : Program} {w : World} {v : Value} {l : List UInt8} (h : Bytes w v l) (src dst e : TypeId) (hs : P.underlying src = some (.slice e)) (he : P.underlying e = some (.int .u8)) (hd : P.underlying dst = some .string) :
    (convert src dst v).run P w = .ok (.string ⟨l.toArray⟩) w := by
  obtain ⟨A, c, rfl, hc, hm, hl, h0, hx⟩ := h
  rcases A with _ | ad
  · have hnil : l = [] := by
      cases l with
      | nil => rfl
      | cons x l => obtain ⟨ad, e, _⟩ := hx (by simp); cases e
    subst hnil
    exact run_convert_bytes_nil w src e hs he _ c dst hd
  · refine run_convert_bytes_back w src dst e ad c l hs he hd (fun j hj => ?_)
    obtain ⟨ad', e', _, hcell⟩ := hx (by omega)
    cases e'
    exact hcell j _ (by simp [hj])

/-! append onto a row of the call's own. -/
/-- t is a slice type whose elements have type e, 'size' cells, 'bytes' bytes. -/
def ElemOk (P : Program) (t e : TypeId) (size bytes : Nat) : Prop :=
  ∃ i z, P.underlying t = some (.slice e) ∧ P.info? e = some i ∧ i.zero = some z ∧ i.size = size ∧ i.bytes = bytes ∧ z.cells.size = size ∧ 0 < size
theorem elemOk_of {P : Program} {t e : TypeId} {z : Value} {size bytes : Nat} (ht : P.underlying t = some (.slice e)) (h : (P.info? e).map (fun i => (i.zero, i.size, i.bytes)) = some (some z, size, bytes))
    (hz : z.cells.size = size) (hs : 0 < size) : ElemOk P t e size bytes := by
  obtain ⟨i0, hi, hz0, hz1, hz2⟩ := info_parts h
  exact ⟨i0, z, ht, hi, hz0, hz1, hz2, hz, hs⟩

theorem grown_below {base : Nat} {w0 W w' : World} {e : TypeId} {size n : Nat} {v : Value} {xs : List Value} (hbl : Below base w0 W) (hown : W.ownsRow base e size v n xs) (hb : base ≤ W.heap.size) (hg : W.grownBy w' v.ownBlock) : Below base w0 w' :=
  hbl.grown hg hb (fun k e => (hown.lt k e).1)

theorem run_app {P : Program} {W : World} {t ty e : TypeId} {size bytes base : Nat} (he : ElemOk P t e size bytes) {v : Value} {n : Nat} {xs : List Value} (hown : W.ownsRow base e size v n xs)
    {u : Value} {m : Nat} {news : List Value} (hr : Row W size u m news) (h1 : ∀ u ∈ news, u.oneCell' = true) (hbytes : (n + m) * bytes ≤ 140737488355328) (h63 : n + m ≤ maxLen) (hbase : base ≤ W.heap.size) :
    ∃ A' c' w', (Builtin.append_ #[t, t] ty #[v, u]).run P W = .ok (.slice A' (n + m) c') w' ∧ w'.ownsRow base e size (.slice A' (n + m) c') (n + m) (xs ++ news) ∧ W.grownBy w' v.ownBlock ∧
      ((Value.slice A' (n + m) c').ownBlock = v.ownBlock ∨ (Value.slice A' (n + m) c').ownBlock = some W.heap.size) := by
  obtain ⟨i, z, ht, hi, hz, hsize, hby, hzs, hsz⟩ := he
  have fin : ∀ v' w', (Builtin.append_ #[t, t] ty #[v, u]).run P W = .ok v' w' → w'.ownsRow base e size v' (n + m) (xs ++ news) → W.grownBy w' v.ownBlock → (v'.ownBlock = v.ownBlock ∨ v'.ownBlock = some W.heap.size) →
      ∃ A' c' w', (Builtin.append_ #[t, t] ty #[v, u]).run P W = .ok (.slice A' (n + m) c') w' ∧ w'.ownsRow base e size (.slice A' (n + m) c') (n + m) (xs ++ news) ∧ W.grownBy w' v.ownBlock ∧
      ((Value.slice A' (n + m) c').ownBlock = v.ownBlock ∨ (Value.slice A' (n + m) c').ownBlock = some W.heap.size) := by
    intro v' w' hrun h2 h3 h4
    have : ∃ A' c', v' = .slice A' (n + m) c' := by
      rcases h2.2 with ⟨e1, e2⟩ | ⟨g, cap, cur, e1, _⟩
      · exact ⟨none, 0, by rw [e1, e2]⟩
      · exact ⟨_, cap, e1⟩
    obtain ⟨A', c', rfl⟩ := this
    exact ⟨A', c', w', hrun, h2, h3, h4⟩
  obtain ⟨A, c, rfl, hc, hm, hl, h00, hx⟩ := hr
  rcases A with _ | ad
  · have h0 : m = 0 := by
      rcases Nat.eq_zero_or_pos m with h0 | h0
      · exact h0
      · obtain ⟨ad, h, _⟩ := hx h0; cases h
    subst h0
    have hn : news = [] := List.eq_nil_of_length_eq_zero (by simpa using hl)
    subst hn
    refine fin v W ?_ (by simpa using hown) ⟨rfl, rfl, rfl, Nat.le_refl _, fun _ _ _ => rfl⟩ (.inl rfl)
    rcases hown.2 with ⟨rfl, rfl⟩ | ⟨g, cap, cur, rfl, _, _, hnc, _⟩
    · simp [Builtin.append_, run_underlying ht, sizeOf, typeInfo, hi, Builtin.lenOf, Builtin.firstCells]
    · simp [Builtin.append_, run_underlying ht, sizeOf, typeInfo, hi, Builtin.lenOf, Builtin.firstCells, hnc, storeCells]
  · have hcells : ∀ j u, news[j]? = some u → W.cell? (ad.add j) = some u := by
      intro j u hu
      rcases Nat.eq_zero_or_pos m with h0 | h0
      · have hn : news = [] := List.eq_nil_of_length_eq_zero (by rw [hl, h0]; simp)
        subst hn
        simp at hu
      · obtain ⟨ad', h, _, hc⟩ := hx h0
        injection h with h
        subst h
        exact hc j u hu
    obtain ⟨v', w', hrun, h2, h3, _, h5⟩ := run_append_own_at (P := P) W base t ty e i z size bytes ht hi hz hsize hby hzs hsz v n xs hown ad m c news hl hcells h1 h63 hbytes hbase
    exact fin v' w' hrun h2 h3 h5

theorem row_new (W : World) (cs : List Value) (t : TypeId) (size m : Nat) (hl : cs.length = m * size) (hm : m ≤ maxLen) (g : Nat) (hg : g = W.heap.size) : Row (W.alloc (.cells cs.toArray t)) size (.slice (some ⟨g, 0, none⟩) m m) m cs := by
  subst hg
  refine ⟨_, _, rfl, Nat.le_refl _, hm, hl, fun h => (by cases h), fun _ => ⟨_, rfl, by simp, fun j u hu => ?_⟩⟩
  have hadd : (⟨W.heap.size, 0, none⟩ : Addr).add j = ⟨W.heap.size, j, none⟩ := by unfold Addr.add; split <;> simp_all
  rw [hadd, World.cell?_alloc_mark]
  simpa using hu

/-- 'append(s, x...)', x a row; in a plain region. -/
theorem wpList_app {P : Program} {W : World} {ops : Array Oper} {rest : List Oper} {o : Oper} {a : Act} {Q : Exit → Act → World → Prop} (hgd : o.guard = none) {s x : Operand} {t : TypeId}
    (ho : o.op = .call { callee := .builtin .append, args := #[s, x], argTypes := #[t, t] })
    {e : TypeId} {size bytes base : Nat} (he : ElemOk P t e size bytes) {v : Value} {n : Nat} {xs : List Value} (hown : W.ownsRow base e size v n xs) (hs : a.eval s = v)
    {u : Value} {m : Nat} {news : List Value} (hr : Row W size u m news) (hx : a.eval x = u) (h1 : ∀ u ∈ news, u.oneCell' = true) (hbytes : (n + m) * bytes ≤ 140737488355328) (h63 : n + m ≤ maxLen) (hbase : base ≤ W.heap.size)
    (h : ∀ A' c' w', w'.ownsRow base e size (.slice A' (n + m) c') (n + m) (xs ++ news) → W.grownBy w' v.ownBlock →
      ((Value.slice A' (n + m) c').ownBlock = v.ownBlock ∨ (Value.slice A' (n + m) c').ownBlock = some W.heap.size) → wpList P ops Q rest (a.put o.dst (.slice A' (n + m) c')) w') : wpList P ops Q (o :: rest) a W := by
  obtain ⟨A', c', w', hrun, h2, h3, h4⟩ := run_app (ty := o.type) he hown hr h1 hbytes h63 hbase
  refine wpList_plain hgd fun K hK => ?_
  unfold Oper.wp execOp
  simp only [ho, resolve, invoke, builtin, Sem.run_bind, Sem.run_pure, Result.andThen_ok, List.map_toArray, List.map_cons, List.map_nil, hs, hx, hrun]
  exact hK _ _ (h A' c' w' h2 h3 h4)

/-- 'append(s, x...)' onto the one row of the call's own; what lay below 'base' is kept. -/
theorem wpList_push {P : Program} {W w0 : World} {ops : Array Oper} {rest : List Oper} {o : Oper} {a : Act} {Q : Exit → Act → World → Prop} (hgd : o.guard = none) {s x : Operand} {t : TypeId}
    (ho : o.op = .call { callee := .builtin .append, args := #[s, x], argTypes := #[t, t] })
    {e : TypeId} {size bytes base : Nat} (he : ElemOk P t e size bytes) {v : Value} {n : Nat} {xs : List Value} (hown : W.ownsRow base e size v n xs) (hs : a.eval s = v)
    {u : Value} {m : Nat} {news : List Value} (hr : Row W size u m news) (hx : a.eval x = u) (hbl : Below base w0 W) (hbase : base ≤ W.heap.size) (h1 : ∀ u ∈ news, u.oneCell' = true) (hbytes : (n + m) * bytes ≤ 140737488355328) (h63 : n + m ≤ maxLen)
    (h : ∀ A' c' w', w'.ownsRow base e size (.slice A' (n + m) c') (n + m) (xs ++ news) → Below base w0 w' → wpList P ops Q rest (a.put o.dst (.slice A' (n + m) c')) w') : wpList P ops Q (o :: rest) a W :=
  wpList_app hgd ho he hown hs hr hx h1 hbytes h63 hbase fun A' c' w' h2 h3 _ => h A' c' w' h2 (grown_below hbl hown hbase h3)

/-! A block that is known whole; make. -/
/-- Block g is just the cells cs, of element type e. -/
def Blk (w : World) (g : Nat) (e : TypeId) (cs : List Value) : Prop := w.heap[g]? = some (.cells cs.toArray e (0, 0))
section
variable {w w' : World} {g : Nat} {e : TypeId} {cs : List Value}
theorem blk_new (w : World) (cs : List Value) (e : TypeId) : Blk (w.alloc (.cells cs.toArray e)) w.heap.size e cs := heap_alloc_new w _
theorem Blk.lt (h : Blk w g e cs) : g < w.heap.size := (Array.getElem?_eq_some_iff.1 h).1
theorem Blk.cell (h : Blk w g e cs) (i : Nat) : w.cell? ⟨g, i, none⟩ = cs[i]? := by
  rw [cell_of_row w g i cs.toArray e (0, 0) h]; simp
theorem Blk.frozen (h : Blk w g e cs) (i : Nat) : w.frozen? ⟨g, i, none⟩ = false := by
  unfold Blk at h
  simp [World.frozen?, h]
theorem Blk.set_ (h : Blk w g e cs) (i : Nat) (u : Value) : Blk (w.setCell ⟨g, i, none⟩ u) g e (cs.set i u) := by
  unfold Blk at h ⊢
  simp [World.setCell, Array.getElem?_modify, h]
theorem Blk.far (h : Blk w g e cs) {p : Addr} (hp : p.block ≠ g) (u : Value) : Blk (w.setCell p u) g e cs := (Below.heap_setCell w p u g (fun e => hp e.symm)).trans h
theorem Blk.alloc (h : Blk w g e cs) (o : Obj) : Blk (w.alloc o) g e cs := (Below.heap_alloc w o g h.lt).trans h
theorem Blk.below {B : Nat} (h : Blk w g e cs) (hb : Below B w w') (hg : g < B) : Blk w' g e cs := (hb.block g hg).trans h
theorem Blk.grown {row : Option Nat} (h : Blk w g e cs) (hb : w.grownBy w' row) (hg : some g ≠ row) : Blk w' g e cs := (hb.block g h.lt hg).trans h
theorem Blk.drewN (h : Blk w g e cs) (n : Nat) : Blk (w.drewN n) g e cs := h
theorem Blk.row (h : Blk w g e cs) {size n : Nat} (hl : cs.length = n * size) (hm : n ≤ maxLen) : Row w size (.slice (some ⟨g, 0, none⟩) n n) n cs := by
  refine ⟨_, _, rfl, Nat.le_refl _, hm, hl, fun h => (by cases h), fun _ => ⟨_, rfl, h.lt, fun j u hu => ?_⟩⟩
  have hadd : (⟨g, 0, none⟩ : Addr).add j = ⟨g, j, none⟩ := by unfold Addr.add; split <;> simp_all
  rw [hadd, h.cell]; exact hu
end

def mkL (zs : List Value) (n : Nat) : List Value := (List.replicate n zs).flatten
theorem mkL_length (zs : List Value) (n : Nat) : (mkL zs n).length = n * zs.length := by simp [mkL]
theorem mkL_get (zs : List Value) (n i : Nat) (h : i < n * zs.length) : (mkL zs n)[i]? = zs[i % zs.length]? := by
  induction n generalizing i with
  | zero => omega
  | succ n ih =>
    simp only [mkL, List.replicate_succ, List.flatten_cons] at ih ⊢
    by_cases hi : i < zs.length
    · rw [List.getElem?_append_left hi, Nat.mod_eq_of_lt hi]
    · rw [List.getElem?_append_right (by omega), ih _ (by rw [Nat.succ_mul] at h; omega), ← Nat.mod_eq_sub_mod (by omega)]
theorem made_eq (zs : List Value) (hz : 0 < zs.length) (n : Nat) : madeCells zs.toArray (n * zs.length) = (mkL zs n).toArray := by
  apply Array.ext
  · simp [size_madeCells, mkL_length]
  · intro i h1 h2
    rw [size_madeCells] at h1
    have hlt : i % zs.length < zs.length := Nat.mod_lt _ hz
    have := mkL_get zs n i h1
    rw [List.getElem?_eq_getElem (by rw [mkL_length]; exact h1), List.getElem?_eq_getElem hlt] at this
    injection this with this
    simp only [madeCells, Array.getElem_map, Array.getElem_range, List.size_toArray, List.getElem_toArray]
    rw [this, getElem!_pos zs.toArray (i % zs.length) (by simpa using hlt)]; simp
theorem run_mk {P : Program} {t e : TypeId} {z : Value} {size bytes : Nat} (ht : P.underlying t = some (.slice e)) (h : (P.info? e).map (fun i => (i.zero, i.size, i.bytes)) = some (some z, size, bytes))
    (hs : 0 < size) {zs : List Value} (hz : z.cells = zs.toArray) (hzl : zs.length = size) (n : Nat) (kl kc : IntKind) (hb : bytes * n ≤ 281474976710656) (hn : n ≤ 9223372036854775807) (w : World) :
    (Instr.makeSlice t (.int kl (n : Int)) (.int kc (n : Int))).run P w = .ok (.slice (some ⟨w.heap.size, 0, none⟩) n n) (w.alloc (.cells (mkL zs n).toArray e)) := by
  obtain ⟨i0, hi, hz0, hz1, hz2⟩ := info_parts h
  subst hzl
  have hb' : (i0.bytes : Int) * (n : Int) ≤ 281474976710656 := by
    have h' : ((bytes * n : Nat) : Int) ≤ 281474976710656 := by omega
    rw [hz2]; rwa [Int.natCast_mul] at h'
  have hr := run_make (P := P) w t e i0 z ht hi hz0 kl kc n n (by omega) (by omega) hb' (by omega)
  simp only [Int.toNat_natCast, hz1, hz, made_eq zs hs] at hr
  exact hr

/-- 'append(b, s...)', s a string. -/
theorem run_app_str {P : Program} {W : World} {t u ty e : TypeId} {base : Nat} (hu : P.underlying u = some .string) (ht : P.underlying t = some (.slice e)) (h : (P.info? e).map (fun i => (i.zero, i.size, i.bytes)) = some (some (.int .u8 0), 1, 1))
    {v : Value} {n : Nat} {xs : List Value} (hown : W.ownsRow base e 1 v n xs) (s : ByteArray) (hb : n + s.size ≤ 140737488355328) (hbase : base ≤ W.heap.size) :
    ∃ A' c' w', (Builtin.append_ #[t, u] ty #[v, .string s]).run P W = .ok (.slice A' (n + s.size) c') w' ∧ w'.ownsRow base e 1 (.slice A' (n + s.size) c') (n + s.size) (xs ++ s.data.toList.map fun b => .int .u8 b.toNat) ∧ W.grownBy w' v.ownBlock := by
  obtain ⟨i0, hi, hz0, hz1, hz2⟩ := info_parts h
  obtain ⟨v', w', hrun, h2, h3, _⟩ := Lib.run_append_own_string (P := P) W base t u ty e i0 ht hu hi hz0 hz1 hz2 v n xs hown s (by unfold maxLen; omega) hb hbase
  have : ∃ A' c', v' = .slice A' (n + s.size) c' := by
    rcases h2.2 with ⟨e1, e2⟩ | ⟨g, cap, cur, e1, _⟩
    · exact ⟨none, 0, by rw [e1, e2]⟩
    · exact ⟨_, cap, e1⟩
  obtain ⟨A', c', rfl⟩ := this
  exact ⟨A', c', w', hrun, h2, h3⟩
theorem wpList_app_str {P : Program} {W : World} {ops : Array Oper} {rest : List Oper} {o : Oper} {a : Act} {Q : Exit → Act → World → Prop} (hgd : o.guard = none) {sl x : Operand} {t u : TypeId}
    (ho : o.op = .call { callee := .builtin .append, args := #[sl, x], argTypes := #[t, u] }) {e : TypeId} {base : Nat} (hu : P.underlying u = some .string) (ht : P.underlying t = some (.slice e)) (hinfo : (P.info? e).map (fun i => (i.zero, i.size, i.bytes)) = some (some (.int .u8 0), 1, 1))
    {v : Value} {n : Nat} {xs : List Value} (hown : W.ownsRow base e 1 v n xs) (hs : a.eval sl = v) (s : ByteArray) (hx : a.eval x = .string s) (hb : n + s.size ≤ 140737488355328) (hbase : base ≤ W.heap.size)
    (h : ∀ A' c' w', w'.ownsRow base e 1 (.slice A' (n + s.size) c') (n + s.size) (xs ++ s.data.toList.map fun b => .int .u8 b.toNat) → W.grownBy w' v.ownBlock → wpList P ops Q rest (a.put o.dst (.slice A' (n + s.size) c')) w') : wpList P ops Q (o :: rest) a W := by
  obtain ⟨A', c', w', hrun, h2, h3⟩ := run_app_str (ty := o.type) hu ht hinfo hown s hb hbase
  refine wpList_plain hgd fun K hK => ?_
  unfold Oper.wp execOp
  simp only [ho, resolve, invoke, builtin, Sem.run_bind, Sem.run_pure, Result.andThen_ok, List.map_toArray, List.map_cons, List.map_nil, hs, hx, hrun]
  exact hK _ _ (h A' c' w' h2 h3)

end Go.Proofs.YteolonjmgojoeaaGreatDoor
