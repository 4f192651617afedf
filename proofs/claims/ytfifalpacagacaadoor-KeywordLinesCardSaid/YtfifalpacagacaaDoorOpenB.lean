/- The arguments of the statements, opened: what the form's reading of a slice gives for this seat's words. -/
import Derived.Test.YtfifalpacagacaaDoorCore
import Derived.ProofKit
import Derived.OpenShut
import Derived.ShutString
import Derived.ChangeOld
import Derived.Deep.Slices
import Derived.Deep.Fields
namespace Go.Proofs.YtfifalpacagacaaDoor
set_option linter.unusedVariables false
open Go.RowKit Go.ChangeShapes Go.WideShapes Go.Deep

section
variable {H : Type} {enc : TypeId × Value → H} {P : Program} {w : World} {spare : Nat → Bool} {held : Bool}

theorem bytes_open {t e : TypeId} {v : Value} {d : DataW H} {p : List MemPlace} (ht : P.underlying t = some (.slice e)) (he : P.underlying e = some (.int .u8)) (hc : P.cellsOf e = 1)
    (hv : ∃ a n c, v = .slice a n c) (h : DataW.Trod enc P w 0 spare held t v d p) : ∃ l : List UInt8, Bytes w v l := by
  obtain ⟨a, n, c, rfl⟩ := hv
  obtain ⟨fuel, hf⟩ := h
  rcases open_ints ht he hc hf with ⟨hcs, _⟩ | ⟨x, l, c', zs, hcs, _, hl, hm, hz, _, hcell, hwz⟩
  · simp [Value.cells] at hcs
    obtain ⟨rfl, rfl, rfl⟩ := hcs
    exact ⟨[], Row.nil_ w 1⟩
  · simp [Value.cells] at hcs
    obtain ⟨rfl, rfl, rfl⟩ := hcs
    have hzl : n ≤ zs.length := by rw [hz]; split <;> omega
    have hlen : ((zs.take n).map fun z => UInt8.ofNat z.toNat).length = n := by simp; omega
    refine ⟨(zs.take n).map fun z => UInt8.ofNat z.toNat, ?_⟩
    unfold Bytes
    rw [hlen]
    refine ⟨_, _, rfl, hl, hm, by simp; omega, fun h => (by cases h), fun hn => ⟨x, rfl, ?_, fun j u hu => ?_⟩⟩
    · exact (add_block x 0) ▸ cell_lt (hcell 0 (by omega))
    · have hj : j < n := by
        have := (List.getElem?_eq_some_iff.1 hu).1
        simp at this; omega
      rw [hcell j (by omega)]
      have hw := hwz zs[j] (by simp)
      have hb : 0 ≤ zs[j] ∧ zs[j] ≤ 255 := by simp [Lit.wf] at hw; exact hw
      rw [← hu]
      simp only [List.map_map, List.getElem?_map, List.getElem?_take, hj, if_true, List.getElem?_eq_getElem (show j < zs.length by omega), Option.map_some, Function.comp]
      simp only [List.getD_eq_getElem?_getD, List.getElem?_eq_getElem (show j < zs.length by omega), Option.getD_some]
      congr 2
      have : zs[j].toNat < 256 := by omega
      simp [UInt8.toNat_ofNat', Nat.mod_eq_of_lt this]
      omega

theorem strs_open {t e : TypeId} {v : Value} {d : DataW H} {p : List MemPlace} (ht : P.underlying t = some (.slice e)) (he : P.underlying e = some .string) (hc : P.cellsOf e = 1)
    (hv : ∃ a n c, v = .slice a n c) (h : DataW.Trod enc P w 0 spare held t v d p) : ∃ l : List ByteArray, Strs w v l ∧ ∀ s ∈ l, s.size ≤ maxLen := by
  obtain ⟨a, n, c, rfl⟩ := hv
  obtain ⟨fuel, hf⟩ := h
  rcases open_strings ht he hc hf with ⟨hcs, _⟩ | ⟨x, l, c', zs, hcs, _, hl, hm, hz, _, hcell, hwz⟩
  · simp [Value.cells] at hcs
    obtain ⟨rfl, rfl, rfl⟩ := hcs
    exact ⟨[], Row.nil_ w 1, by simp⟩
  · simp [Value.cells] at hcs
    obtain ⟨rfl, rfl, rfl⟩ := hcs
    have hzl : n ≤ zs.length := by rw [hz]; split <;> omega
    have hlen : (zs.take n).length = n := by simp; omega
    refine ⟨zs.take n, ?_, fun s hs => hwz s (List.mem_of_mem_take hs)⟩
    unfold Strs
    rw [hlen]
    refine ⟨_, _, rfl, hl, hm, by simp; omega, fun h => (by cases h), fun hn => ⟨x, rfl, ?_, fun j u hu => ?_⟩⟩
    · exact (add_block x 0) ▸ cell_lt (hcell 0 (by omega))
    · have hj : j < n := by
        have := (List.getElem?_eq_some_iff.1 hu).1
        simp at this; omega
      rw [hcell j (by omega), ← hu]
      simp [hj, List.getElem?_eq_getElem (show j < zs.length by omega)]

end
end Go.Proofs.YtfifalpacagacaaDoor
