/- filetype.Parse. -/
import Derived.Test.YtfifalpacagacaaDoorParse
import Derived.IntWalk
import Derived.RegionTactic
namespace Go.Proofs.YtfifalpacagacaaDoor
open Go.RowKit
set_option linter.unusedVariables false

/-- A text parted at its first byte c. -/
def cutC (c : UInt8) : List UInt8 → List UInt8 × List UInt8 × Bool
  | [] => ([], [], false)
  | b :: l => if b = c then ([], l, true) else ((b :: (cutC c l).1), (cutC c l).2.1, (cutC c l).2.2)

theorem cutC_none {c : UInt8} {l : List UInt8} (h : Lib.indexByte l c = -1) : cutC c l = (l, [], false) := by
  have hn := Lib.indexByte_none h
  clear h
  induction l with
  | nil => rfl
  | cons b l ih =>
    have hb : b ≠ c := fun e => hn 0 (by simp [e])
    rw [cutC, if_neg hb, ih (fun i hi => hn (i + 1) (by simpa using hi))]
theorem cutC_some {c : UInt8} {l : List UInt8} {i : Nat} (h : Lib.indexByte l c = (i : Int)) : cutC c l = (l.take i, l.drop (i + 1), true) := by
  obtain ⟨h1, h2⟩ := Lib.indexByte_some h
  clear h
  induction l generalizing i with
  | nil => simp at h1
  | cons b l ih =>
    cases i with
    | zero => simp at h1; rw [cutC, if_pos h1]; rfl
    | succ i =>
      have hb : b ≠ c := fun e => h2 0 (by omega) (by simp [e])
      rw [cutC, if_neg hb, ih (by simpa using h1) (fun j hj hh => h2 (j + 1) (by omega) (by simpa using hh))]
      rfl

theorem ret_3 {a b c d : ByteArray} {x y : Bool} (h1 : a = b) (h2 : c = d) (h3 : x = y) : Ending.returned (.tuple #[.string a, .string c, .bool x]) = .returned (.tuple #[.string b, .string d, .bool y]) := by rw [h1, h2, h3]

set_option maxHeartbeats 1000000 in
theorem sliteCut_any (s : ByteArray) (w : World) (hs : s.size ≤ maxLen) :
    Calls Tryd.prog 64 #[.string s, .string ⟨#[43]⟩] w fun e w' => e = .returned (.tuple #[.string (baL (cutC 43 s.data.toList).1), .string (baL (cutC 43 s.data.toList).2.1), .bool (cutC 43 s.data.toList).2.2]) ∧ ∃ n, w' = w.drewN n := by
  unfold maxLen at hs
  have hge := Lib.indexByte_ge s.data.toList 43
  have HI := Lib.hid (Tryd.stringslite_Index_one s 43 w)
  by_cases hm : Lib.indexByte s.data.toList 43 = -1
  · have hd : decide ((0 : Int) ≤ Lib.indexByte s.data.toList 43) = false := by rw [hm]; decide
    have HC := Lib.hid (cutC_none hm)
    rw [hm] at HI
    clear hm hge hd
    go_enter Tryd.func64, Tryd.ntmps64
    go_wp2_with fail
    refine HI.out.mono ?_
    rintro e w' ⟨rfl, rfl⟩
    go_wp2_with fail
    go_ret3
    exact ⟨by rw [HC.out]; exact congrArg (fun x => Ending.returned (.tuple #[.string x, .string ⟨#[]⟩, .bool false])) (ba_ext rfl), 0, rfl⟩
  · obtain ⟨i, hi⟩ : ∃ i : Nat, Lib.indexByte s.data.toList 43 = (i : Int) := ⟨(Lib.indexByte s.data.toList 43).toNat, by omega⟩
    have HC := Lib.hid (cutC_some hi)
    have hlt : i < s.size := by have := (List.getElem?_eq_some_iff.1 (Lib.indexByte_some hi).1).1; simpa using this
    rw [hi] at HI
    clear hm hge hi
    go_enter Tryd.func64, Tryd.ntmps64
    go_wp2_with fail
    refine HI.out.mono ?_
    rintro e w' ⟨rfl, rfl⟩
    have q1 : IntKind.i64.wrap ((i : Int) + 1) = (i : Int) + 1 := IntWalk.i64_in _ (by omega)
    have q2 : (0 : Int) ≤ (i : Int) + 1 := by omega
    have q3 : ((i : Int) + 1).toNat = i + 1 := by omega
    have q4 : (i : Int) + 1 ≤ s.size := by omega
    have q5 : (i : Int) ≤ s.size := by omega
    go_wp2_with fail
    go_quiet (fail)
    go_wp2_with fail
    go_ret3
    refine ⟨?_, nq, rfl⟩
    rw [HC.out]
    refine ret_3 ?_ ?_ rfl
    · exact ba_ext (by rw [Lib.extract_data]; simp [baL])
    · exact ba_ext (by rw [Lib.extract_to_end]; rfl)

theorem run_mkMap0 {P : Program} (t k e : TypeId) (ht : P.underlying t = some (.map k e)) (w : World) :
    (Instr.makeMap t none).run P w = .ok (.map (some w.heap.size)) (w.alloc (.map #[] 0)) := by
  simp [Instr.makeMap]

def textB : ByteArray := ⟨#[116, 101, 120, 116]⟩
def binB : ByteArray := ⟨#[98, 105, 110, 97, 114, 121]⟩
def linkB : ByteArray := ⟨#[108, 105, 110, 107]⟩
def baseMap : List (ByteArray × Value) := [(textB, .int .i64 1), (binB, .int .i64 2), (linkB, .int .i64 3)]

theorem below_of_grown {w w' : World} {B g : Nat} (h : w.grownBy w' (some g)) (hg : B ≤ g) (hB : B ≤ w.heap.size) : Below B w w' := ⟨h.os, h.tape, h.output, h.size, fun k hk => by
  by_cases hlt : k < w.heap.size
  · exact h.block k hlt (by intro e; injection e with e; omega)
  · by_cases hlt2 : k < w'.heap.size
    · omega
    · rw [Array.getElem?_eq_none (by omega), Array.getElem?_eq_none (by omega)]⟩

set_option maxRecDepth 100000 in
set_option maxHeartbeats 1000000 in
theorem bases_any (w : World) :
    Calls Tryd.prog 43 #[] w fun e w' => e = .returned (.map (some w.heap.size)) ∧ IsMap Value.string w' w.heap.size baseMap ∧ Below w.heap.size w w' := by
  have K := keyOk_string Tryd.underlying9
  have hmm := run_mkMap0 (P := Tryd.prog) 63 9 3 Tryd.underlying63
  obtain ⟨w1, e1, m1, g1, s1⟩ := (IsMap.new Value.string w).update K Tryd.underlying63 ⟨#[116, 101, 120, 116]⟩ (.int .i64 1)
  obtain ⟨w2, e2, m2, g2, s2⟩ := m1.update K Tryd.underlying63 ⟨#[98, 105, 110, 97, 114, 121]⟩ (.int .i64 2)
  obtain ⟨w3, e3, m3, g3, s3⟩ := m2.update K Tryd.underlying63 ⟨#[108, 105, 110, 107]⟩ (.int .i64 3)
  clear K
  have M := Lib.hid m3
  clear s1 s2 s3 m1 m2 m3
  go_enter Tryd.func43, Tryd.ntmps43
  go_wp2_with fail
  go_ret
  refine ⟨rfl, M.out, ?_⟩
  have hb0 : Below w.heap.size w (w.alloc (.map #[] 0)) := (Below.refl _ _).alloc (Nat.le_refl _) _
  have hb1 := hb0.trans (below_of_grown g1 (Nat.le_refl _) hb0.size)
  have hb2 := hb1.trans (below_of_grown g2 (Nat.le_refl _) hb1.size)
  exact hb2.trans (below_of_grown g3 (Nat.le_refl _) hb2.size)

set_option maxHeartbeats 1000000 in
theorem marks_any (g : Nat) (w : World) :
    Calls Tryd.prog 44 #[.pointer (some ⟨g, 0, none⟩)] w fun e w' => e = .returned (.agg #[.string ⟨#[107]⟩, .pointer (some ⟨g, 1, none⟩), .string ⟨#[108]⟩, .pointer (some ⟨g, 2, none⟩), .string ⟨#[120]⟩, .pointer (some ⟨g, 3, none⟩)]) ∧ Below w.heap.size w w' := by
  go_enter Tryd.func44, Tryd.ntmps44
  go_wp2_with fail
  go_region
  go_wp2_with fail
  exact bodyPost_ret (v := .agg #[.string ⟨#[107]⟩, .pointer (some ⟨g, 1, none⟩), .string ⟨#[108]⟩, .pointer (some ⟨g, 2, none⟩), .string ⟨#[120]⟩, .pointer (some ⟨g, 3, none⟩)]) (by simp [results, Tryd.results44, go_sem]) rfl ⟨rfl, ((Below.refl _ _).alloc (Nat.le_refl _) _).drew⟩

theorem strCut_any (s : ByteArray) (w : World) (hs : s.size ≤ maxLen) :
    Calls Tryd.prog 42 #[.string s, .string ⟨#[43]⟩] w fun e w' => e = .returned (.tuple #[.string (baL (cutC 43 s.data.toList).1), .string (baL (cutC 43 s.data.toList).2.1), .bool (cutC 43 s.data.toList).2.2]) ∧ Below w.heap.size w w' := by
  have H := Lib.hid (sliteCut_any s w hs)
  go_enter Tryd.func42, Tryd.ntmps42
  go_wp2_with fail
  refine H.out.mono ?_
  rintro e w' ⟨rfl, n, rfl⟩
  go_wp2_with fail
  go_ret3
  exact ⟨rfl, below_dN (Below.refl _ _) n⟩

def baseOf (l : List UInt8) : Int := if l = [116, 101, 120, 116] then 1 else if l = [98, 105, 110, 97, 114, 121] then 2 else if l = [108, 105, 110, 107] then 3 else 0
theorem ba_beq (a b : List UInt8) : (baL a == baL b) = decide (a = b) := by
  by_cases h : a = b
  · subst h; rw [ba_refl]; simp
  · rw [decide_eq_false h]
    cases hh : (baL a == baL b)
    · rfl
    · exact absurd (by have := congrArg (fun x : ByteArray => x.data.toList) (ba_eq hh); simpa [baL] using this) h
theorem baseMap_get (l : List UInt8) : (aget baseMap (baL l)).getD (.int .i64 0) = .int .i64 (baseOf l) := by
  have e1 : textB = baL [116, 101, 120, 116] := rfl
  have e2 : binB = baL [98, 105, 110, 97, 114, 121] := rfl
  have e3 : linkB = baL [108, 105, 110, 107] := rfl
  unfold aget baseMap baseOf
  rw [e1, e2, e3]
  simp only [List.find?_cons, List.find?_nil, ba_beq]
  by_cases h1 : l = [116, 101, 120, 116]
  · simp [h1]
  · by_cases h2 : l = [98, 105, 110, 97, 114, 121]
    · simp [h2]
    · by_cases h3 : l = [108, 105, 110, 107]
      · simp [h3]
      · simp [h1, h2, h3]
theorem base_look {w : World} {g : Nat} (h : IsMap Value.string w g baseMap) (l : List UInt8) : (Instr.lookup 63 (.map (some g)) (.string (baL l)) false).run Tryd.prog w = .ok (.int .i64 (baseOf l)) w := by
  have := h.lookup (keyOk_string Tryd.underlying9) Tryd.underlying63 (z := .int .i64 0) (by kernel_rfl) (baL l) false
  rw [baseMap_get] at this
  simpa using this

end Go.Proofs.YtfifalpacagacaaDoor
