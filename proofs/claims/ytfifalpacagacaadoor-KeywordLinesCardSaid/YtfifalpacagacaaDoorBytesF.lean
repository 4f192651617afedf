/- bytes.Count, Index, Clone over slices that read as bytes. -/
import Derived.Test.YtfifalpacagacaaDoorParts
import Derived.Test.YtfifalpacagacaaDoorBase
import Derived.Lib.SplitLaws
namespace Go.Proofs.YtfifalpacagacaaDoor
open Go.RowKit
set_option linter.unusedVariables false
set_option linter.unusedSimpArgs false

def numL (l : List UInt8) : List Int := l.map fun b => (b.toNat : Int)
theorem numL_len (l : List UInt8) : (numL l).length = l.length := by simp [numL]
theorem numL_back (l : List UInt8) : Lib.bytesOf (numL l) = l := by
  unfold Lib.bytesOf numL
  rw [List.map_map]
  conv => rhs; rw [← List.map_id l]
  exact List.map_congr_left fun b _ => by simp
theorem numL_range (l : List UInt8) : ∀ x ∈ numL l, 0 ≤ x ∧ x < 256 := fun x hx => by
  obtain ⟨b, _, rfl⟩ := List.mem_map.1 hx
  have := b.toNat_lt
  omega
def byteCells (l : List UInt8) : List Value := l.map fun b => .int .u8 b.toNat
theorem byteCells_len (l : List UInt8) : (byteCells l).length = l.length := by simp [byteCells]
theorem byteCells_app (a b : List UInt8) : byteCells (a ++ b) = byteCells a ++ byteCells b := by simp [byteCells]
theorem byteCells_one (l : List UInt8) : ∀ v ∈ byteCells l, v.oneCell' = true := fun v hv => by
  obtain ⟨b, _, rfl⟩ := List.mem_map.1 hv; rfl
theorem numL_cells (l : List UInt8) : (numL l).map (Value.int .u8) = byteCells l := by simp [numL, byteCells]
theorem num_cell {w : World} {ad : Addr} {l : List UInt8} (h : ∀ j u, (byteCells l)[j]? = some u → w.cell? (ad.add j) = some u) : ∀ i, i < l.length → w.cell? (ad.add i) = some (.int .u8 ((numL l).getD i 0)) := fun i hi => by
  have : (byteCells l)[i]? = some (.int .u8 ((numL l).getD i 0)) := by simp [byteCells, numL, List.getD, hi]
  exact h i _ this

/-- These bytes stand at the head of block g. -/
def BytesAt (w : World) (g : Nat) (o : List UInt8) : Prop := ∀ j u, (byteCells o)[j]? = some u → w.cell? ⟨g, j, none⟩ = some u
theorem BytesAt.below {w w' : World} {g : Nat} {o : List UInt8} (h : BytesAt w g o) (hb : Below w.heap.size w w') : BytesAt w' g o := fun j u hu => cell_below (h j u hu) hb (cell_lt (h j u hu))
theorem BytesAt.of_bytes {w : World} {g n c : Nat} {o : List UInt8} (h : Bytes w (.slice (some ⟨g, 0, none⟩) n c) o) : BytesAt w g o := fun j u hu => by
  obtain ⟨A, c', e, _, _, hx⟩ := h
  injection e with e1 e2 e3
  subst e1
  have hj : j < o.length := by have := (List.getElem?_eq_some_iff.1 hu).1; rwa [byteCells_len] at this
  obtain ⟨ad, e4, _, hc⟩ := hx.2.2 (by omega)
  injection e4 with e4
  subst e4
  have hadd : (⟨g, 0, none⟩ : Addr).add j = ⟨g, j, none⟩ := by unfold Addr.add; split <;> simp_all
  have := hc j u hu
  rwa [hadd] at this
/-- What a slice of bytes is: its address, if it has a byte. -/
theorem Bytes.open_ {w : World} {v : Value} {l : List UInt8} (h : Bytes w v l) : ∃ A c, v = .slice A l.length c ∧ l.length ≤ c ∧ c ≤ maxLen ∧ (A = none → l = []) ∧ ∀ ad, A = some ad → ∀ j u, (byteCells l)[j]? = some u → w.cell? (ad.add j) = some u := by
  obtain ⟨A, c, rfl, hc, hm, hl, h0, hx⟩ := h
  refine ⟨A, c, rfl, hc, hm, fun e => ?_, fun ad e j u hu => ?_⟩
  · subst e
    rcases Nat.eq_zero_or_pos l.length with h1 | h1
    · exact List.eq_nil_of_length_eq_zero h1
    · obtain ⟨ad, e, _⟩ := hx h1; cases e
  · subst e
    have hj : j < l.length := by have := (List.getElem?_eq_some_iff.1 hu).1; rwa [byteCells_len] at this
    obtain ⟨ad', e, _, hc⟩ := hx (by omega)
    injection e with e
    subst e
    exact hc j u hu

theorem count_bytes (l o : List UInt8) (v : Value) (g d : Nat) (w : World) (he : Env w) (hb : Bytes w v l) (ho : BytesAt w g o) (h1 : 1 ≤ o.length) (hl : l.length ≤ 1000000) (hol : o.length ≤ 1000000) :
    Calls Tryd.prog 94 #[v, .slice (some ⟨g, 0, none⟩) o.length d] w fun e w' => e = .returned (.int .i64 (Lib.count l o)) ∧ ∃ q, w' = w.drewN q := by
  obtain ⟨A, c, rfl, hc, hm, h0, hx⟩ := hb.open_
  obtain ⟨m, hm⟩ := he
  have hoc : ∀ j u, (byteCells o)[j]? = some u → w.cell? ((⟨g, 0, none⟩ : Addr).add j) = some u := fun j u hu => by
    have hadd : (⟨g, 0, none⟩ : Addr).add j = ⟨g, j, none⟩ := by unfold Addr.add; split <;> simp_all
    rw [hadd]; exact ho j u hu
  by_cases h2 : 2 ≤ o.length
  · cases A with
    | none =>
      obtain rfl := h0 rfl
      obtain rfl : c = 0 := by
        obtain ⟨A', c', e, _, _, _, h00, _⟩ := hb
        injection e with e1 e2 e3
        subst e1 e3
        exact h00 rfl
      refine (Tryd.bytes_Count_nil (some ⟨g, 0, none⟩) o.length d w h2 (by omega)).mono ?_
      rintro e w' ⟨rfl, rfl⟩
      exact ⟨by rw [show Lib.count ([] : List UInt8) o = 0 from Lib.count_miss (by cases o <;> simp_all [Lib.index])]; rfl, 0, rfl⟩
    | some ad =>
      refine (Tryd.bytes_Count_at ad ⟨g, 0, none⟩ l.length c o.length d (numL l) (numL o) m w (numL_len l) (numL_len o) (numL_range l) (numL_range o) (num_cell (hx ad rfl)) (num_cell hoc) hc (by omega) (by omega) h2 hm).mono ?_
      rintro e w' ⟨rfl, hq⟩
      exact ⟨by rw [numL_back, numL_back], hq⟩
  · obtain ⟨b, rfl⟩ : ∃ b, o = [b] := by
      cases o with
      | nil => simp at h1
      | cons b r => cases r with
        | nil => exact ⟨b, rfl⟩
        | cons _ _ => simp at h2
    have hc2 : w.cell? ⟨g, 0, none⟩ = some (.int .u8 b.toNat) := ho 0 _ rfl
    cases A with
    | none =>
      obtain rfl := h0 rfl
      obtain rfl : c = 0 := by
        obtain ⟨A', c', e, _, _, _, h00, _⟩ := hb
        injection e with e1 e2 e3
        subst e1 e3
        exact h00 rfl
      refine (Tryd.bytes_Count_one_nil g 0 d b.toNat w hc2).mono ?_
      rintro e w' ⟨rfl, rfl⟩
      exact ⟨rfl, 0, rfl⟩
    | some ad =>
      refine (Tryd.bytes_Count_one_at ad l.length c g 0 d (numL l) b.toNat w (numL_len l) (num_cell (hx ad rfl)) hc2).mono ?_
      rintro e w' ⟨rfl, rfl⟩
      refine ⟨?_, 0, rfl⟩
      rw [numL_back, Lib.count_one]
      simp [Lib.countByte]

theorem index_bytes (l o : List UInt8) (v : Value) (g d : Nat) (w : World) (he : Env w) (hb : Bytes w v l) (ho : BytesAt w g o) (h0 : l ≠ []) (hl : l.length ≤ 1000000) (hol : o.length ≤ 1000000) :
    Calls Tryd.prog 95 #[v, .slice (some ⟨g, 0, none⟩) o.length d] w fun e w' => e = .returned (.int .i64 (Lib.index l o)) ∧ ∃ q, w' = w.drewN q := by
  obtain ⟨A, c, rfl, hc, hm, h00, hx⟩ := hb.open_
  obtain ⟨m, hm⟩ := he
  have hoc : ∀ j u, (byteCells o)[j]? = some u → w.cell? ((⟨g, 0, none⟩ : Addr).add j) = some u := fun j u hu => by
    have hadd : (⟨g, 0, none⟩ : Addr).add j = ⟨g, j, none⟩ := by unfold Addr.add; split <;> simp_all
    rw [hadd]; exact ho j u hu
  cases A with
  | none => exact absurd (h00 rfl) h0
  | some ad =>
    refine (Tryd.bytes_Index_at ad ⟨g, 0, none⟩ l.length c o.length d (numL l) (numL o) m w (numL_len l) (numL_len o) (numL_range l) (numL_range o) (num_cell (hx ad rfl)) (num_cell hoc) hc (by omega) (by omega) hm).mono ?_
    rintro e w' ⟨rfl, hq⟩
    exact ⟨by rw [numL_back, numL_back], hq⟩

theorem clone_bytes (l : List UInt8) (v : Value) (w : World) (hb : Bytes w v l) (hl : l.length ≤ 1000000) :
    Calls Tryd.prog 62 #[v] w fun e w' => ∃ v', e = .returned v' ∧ Bytes w' v' l ∧ Below w.heap.size w w' := by
  obtain ⟨A, c, rfl, hc, hm, h00, hx⟩ := hb.open_
  cases A with
  | none =>
    obtain rfl := h00 rfl
    refine (Tryd.bytes_Clone_nil _ c w).mono ?_
    rintro e w' ⟨rfl, rfl⟩
    exact ⟨_, rfl, Row.nil_ _ _, Below.refl _ _⟩
  | some ad =>
    refine (Tryd.bytes_Clone_at ad l.length c (numL l) w (numL_len l) (by omega) (num_cell (hx ad rfl))).mono ?_
    rintro e w' ⟨v', rfl, hown, -, hbl⟩
    rw [numL_cells] at hown
    exact ⟨v', rfl, Row.of_own hown, hbl⟩

end Go.Proofs.YtfifalpacagacaaDoor
