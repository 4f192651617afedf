/- The arguments of the statements, opened: what the form's reading of a slice gives for this seat's words. -/
import Derived.Test.YtajlckioogalbaaHelp
import Derived.ProofKit
import Derived.OpenShut
import Derived.ShutString
import Derived.ChangeOld
import Derived.Deep.Slices
import Derived.Deep.Fields
namespace Go.Proofs.Ytajlckioogalbaa
open Go.RowKit Go.ChangeShapes Go.WideShapes Go.Deep

section
variable {H : Type} {enc : TypeId × Value → H} {P : Program} {w : World} {spare : Nat → Bool} {held : Bool}

theorem bytes_open {t e : TypeId} {v : Value} {d : DataW H} {p : List MemPlace} (ht : P.underlying t = some (.slice e)) (he : P.underlying e = some (.int .u8)) (hc : P.cellsOf e = 1)
    (hv : ∃ a n c, v = .slice a n c) (h : DataW.Trod enc P w 0 spare held t v d p) : ∃ l : List UInt8, Bytes w v l := by
  obtain ⟨a, n, c, rfl⟩ := hv
  obtain ⟨fuel, hf⟩ := h
  rcases open_ints ht he hc hf with ⟨hcs, _⟩ | ⟨x, l, c', zs, hcs, _, hl, hm, hz, _, hcell, hwz⟩
  · simp [Value.cells] at hcs
    obtain ⟨rfl, rfl, rfl⟩ := hcs
    exact ⟨[], Row.nil_ w 1⟩
  · simp [Value.cells] at hcs
    obtain ⟨rfl, rfl, rfl⟩ := hcs
    have hzl : n ≤ zs.length := by rw [hz]; split <;> omega
    have hlen : ((zs.take n).map fun z => UInt8.ofNat z.toNat).length = n := by simp; omega
    refine ⟨(zs.take n).map fun z => UInt8.ofNat z.toNat, ?_⟩
    unfold Bytes
    rw [hlen]
    refine ⟨_, _, rfl, hl, hm, by simp; omega, fun h => (by cases h), fun hn => ⟨x, rfl, ?_, fun j u hu => ?_⟩⟩
    · exact (add_block x 0) ▸ cell_lt (hcell 0 (by omega))
    · have hj : j < n := by
        have := (List.getElem?_eq_some_iff.1 hu).1
        simp at this; omega
      rw [hcell j (by omega)]
      have hw := hwz zs[j] (by simp)
      have hb : 0 ≤ zs[j] ∧ zs[j] ≤ 255 := by simp [Lit.wf] at hw; exact hw
      rw [← hu]
      simp only [List.map_map, List.getElem?_map, List.getElem?_take, hj, if_true, List.getElem?_eq_getElem (show j < zs.length by omega), Option.map_some, Function.comp]
      simp only [List.getD_eq_getElem?_getD, List.getElem?_eq_getElem (show j < zs.length by omega), Option.getD_some]
      congr 2
      have : zs[j].toNat < 256 := by omega
      simp [UInt8.toNat_ofNat', Nat.mod_eq_of_lt this]
      omega

theorem strs_open {t e : TypeId} {v : Value} {d : DataW H} {p : List MemPlace} (ht : P.underlying t = some (.slice e)) (he : P.underlying e = some .string) (hc : P.cellsOf e = 1)
    (hv : ∃ a n c, v = .slice a n c) (h : DataW.Trod enc P w 0 spare held t v d p) : ∃ l : List ByteArray, Strs w v l ∧ ∀ s ∈ l, s.size ≤ maxLen := by
  obtain ⟨a, n, c, rfl⟩ := hv
  obtain ⟨fuel, hf⟩ := h
  rcases open_strings ht he hc hf with ⟨hcs, _⟩ | ⟨x, l, c', zs, hcs, _, hl, hm, hz, _, hcell, hwz⟩
  · simp [Value.cells] at hcs
    obtain ⟨rfl, rfl, rfl⟩ := hcs
    exact ⟨[], Row.nil_ w 1, by simp⟩
  · simp [Value.cells] at hcs
    obtain ⟨rfl, rfl, rfl⟩ := hcs
    have hzl : n ≤ zs.length := by rw [hz]; split <;> omega
    have hlen : (zs.take n).length = n := by simp; omega
    refine ⟨zs.take n, ?_, fun s hs => hwz s (List.mem_of_mem_take hs)⟩
    unfold Strs
    rw [hlen]
    refine ⟨_, _, rfl, hl, hm, by simp; omega, fun h => (by cases h), fun hn => ⟨x, rfl, ?_, fun j u hu => ?_⟩⟩
    · exact (add_block x 0) ▸ cell_lt (hcell 0 (by omega))
    · have hj : j < n := by
        have := (List.getElem?_eq_some_iff.1 hu).1
        simp at this; omega
      rw [hcell j (by omega), ← hu]
      simp [hj, List.getElem?_eq_getElem (show j < zs.length by omega)]

theorem choose_list {α : Type} {p : Nat → α → Prop} : ∀ (n : Nat), (∀ i, i < n → ∃ x, p i x) → ∃ l : List α, l.length = n ∧ ∀ i (h : i < l.length), p i l[i]
  | 0, _ => ⟨[], rfl, fun i h => absurd h (by simp)⟩
  | n + 1, h => by
    obtain ⟨l, hl, hp⟩ := choose_list n (fun i hi => h i (by omega))
    obtain ⟨x, hx⟩ := h n (by omega)
    refine ⟨l ++ [x], by simp [hl], fun i hi => ?_⟩
    by_cases hil : i < l.length
    · rw [List.getElem_append_left hil]; exact hp i hil
    · have : i = n := by simp at hi; omega
      subst this
      rw [List.getElem_append_right (by omega)]; simpa using hx

theorem flat2_at {α : Type} (f g : α → Value) (l : List α) (j : Nat) (u : Value) (h : (l.flatMap fun p => [f p, g p])[j]? = some u) :
    ∃ i x, l[i]? = some x ∧ ((j = i * 2 ∧ u = f x) ∨ (j = i * 2 + 1 ∧ u = g x)) := by
  induction l generalizing j with
  | nil => simp at h
  | cons y l ih =>
    simp only [List.flatMap_cons, List.cons_append, List.nil_append] at h
    match j, h with
    | 0, h => exact ⟨0, y, rfl, .inl ⟨rfl, by simpa using h.symm⟩⟩
    | 1, h => exact ⟨0, y, rfl, .inr ⟨rfl, by simpa using h.symm⟩⟩
    | j + 2, h =>
      obtain ⟨i, x, h1, h2⟩ := ih j (by simpa using h)
      refine ⟨i + 1, x, by simpa using h1, ?_⟩
      rcases h2 with ⟨h2, h3⟩ | ⟨h2, h3⟩
      · exact .inl ⟨by omega, h3⟩
      · exact .inr ⟨by omega, h3⟩

theorem pairs_open {t e s0 : TypeId} {fs : Array Field} {f0 f1 : Field} {v : Value} {d : DataW H} {p : List MemPlace} (ht : P.underlying t = some (.slice e)) (he : P.underlying e = some (.struct fs)) (hC : P.cellsOf e = 2)
    (hf0 : fs[0]? = some f0) (hf1 : fs[1]? = some f1) (ht0 : f0.type = s0) (ht1 : f1.type = s0) (ho0 : f0.offset = 0) (ho1 : f1.offset = 1) (hs : P.underlying s0 = some .string) (hc : P.cellsOf s0 = 1)
    (hv : ∃ a n c, v = .slice a n c) (h : DataW.Trod enc P w 0 spare held t v d p) : ∃ l : List (ByteArray × ByteArray), Pairs w v l ∧ ∀ s ∈ l, s.1.size ≤ maxLen ∧ s.2.size ≤ maxLen := by
  obtain ⟨a, n, c, rfl⟩ := hv
  obtain ⟨fuel, hf⟩ := h
  rcases open_slice ht hf with ⟨hcs, _⟩ | ⟨x, len, cap, m, nf, D, Pl, hcs, _, hl, hm, hmm, _, hi⟩
  · simp [Value.cells] at hcs
    obtain ⟨rfl, rfl, rfl⟩ := hcs
    exact ⟨[], Row.nil_ w 2, by simp⟩
  · simp [Value.cells] at hcs
    obtain ⟨rfl, rfl, rfl⟩ := hcs
    have hnm : n ≤ m := by rw [hmm]; split <;> omega
    obtain ⟨l, hll, hp⟩ := choose_list (α := ByteArray × ByteArray) (p := fun i q => w.cell? (x.add (i * 2)) = some (.string q.1) ∧ w.cell? (x.add (i * 2 + 1)) = some (.string q.2) ∧ q.1.size ≤ maxLen ∧ q.2.size ≤ maxLen) n (fun i hin => by
      obtain ⟨cs', hcc, htr⟩ := hi i (by omega)
      rw [hC] at hcc
      obtain ⟨_, hcl, hat⟩ := World.cells?_some hcc
      obtain ⟨ys, n', _, _, _, _, hfld⟩ := DataW.trod_struct he htr
      have h0 := hfld 0 f0 hf0
      have h1 := hfld 1 f1 hf1
      rw [ht0, ho0, hc] at h0
      rw [ht1, ho1, hc] at h1
      match cs', hcl with
      | [u0, u1], _ =>
        simp only [List.drop_zero, List.take_succ_cons, List.take_zero, List.drop_succ_cons] at h0 h1
        have hy0 : ∃ y0, ys[0]? = some y0 := by cases hq : ys[0]? with
          | none => rename_i hlen' _ ; have := (List.getElem?_eq_none_iff.1 hq); have h2 := (Array.getElem?_eq_some_iff.1 hf0).1; omega
          | some y => exact ⟨y, rfl⟩
        have hy1 : ∃ y1, ys[1]? = some y1 := by cases hq : ys[1]? with
          | none => rename_i hlen' _ _ _ ; have := (List.getElem?_eq_none_iff.1 hq); have h2 := (Array.getElem?_eq_some_iff.1 hf1).1; omega
          | some y => exact ⟨y, rfl⟩
        obtain ⟨y0, hy0⟩ := hy0
        obtain ⟨y1, hy1⟩ := hy1
        obtain ⟨a0, e0, _, w0⟩ := DataW.trod_string hs (h0.trans hy0)
        obtain ⟨a1, e1, _, w1⟩ := DataW.trod_string hs (h1.trans hy1)
        simp only [List.cons.injEq, and_true] at e0 e1
        subst e0 e1
        refine ⟨(a0, a1), ?_, ?_, w0, w1⟩
        · have := hat 0 (by omega); rw [add_add'] at this; simpa using this
        · have := hat 1 (by omega); rw [add_add'] at this; simpa using this)
    refine ⟨l, ?_, fun s hs => ?_⟩
    · unfold Pairs
      rw [hll]
      have hpl : (pairCells l).length = n * 2 := by rw [pairCells_length, hll]
      refine ⟨_, _, rfl, hl, hm, hpl, fun h => (by cases h), fun hn => ⟨x, rfl, ?_, fun j u hu => ?_⟩⟩
      · exact (add_block x _) ▸ cell_lt (hp 0 (by omega)).1
      · obtain ⟨i, q, hq, hju⟩ := flat2_at _ _ l j u hu
        obtain ⟨hil, rfl⟩ := List.getElem?_eq_some_iff.1 hq
        rcases hju with ⟨rfl, rfl⟩ | ⟨rfl, rfl⟩
        · exact (hp i hil).1
        · exact (hp i hil).2.1
    · obtain ⟨i, hil, rfl⟩ := List.mem_iff_getElem.1 hs
      exact (hp i hil).2.2
end

end Go.Proofs.Ytajlckioogalbaa
