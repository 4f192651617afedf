/- The contracts of endOccurrence and of the reference's Name and Value. -/
import Derived.Test.YtfifalpacagacaaDoorKLeaf
namespace Go.Proofs.YtfifalpacagacaaDoor.kw
set_option linter.unusedVariables false
set_option linter.unusedSimpArgs false
open Go.RowKit

def skipL (l : List UInt8) (k : Nat) : Nat := k + ((l.drop k).takeWhile (fun c => c.toNat != 36 && c.toNat != 10)).length
def occAt (l : List UInt8) (k : Nat) : Nat := if l[k]? = some 58 then skipL l (k + 1) else k
def occOk (l : List UInt8) (k : Nat) : Bool := l[occAt l k]? == some 36

theorem skipL_step (l : List UInt8) (k : Nat) (h : k < l.length) (h1 : l[k].toNat ≠ 36) (h2 : l[k].toNat ≠ 10) : skipL l (k + 1) = skipL l k := by
  unfold skipL
  rw [List.drop_eq_getElem_cons h, List.takeWhile_cons, if_pos (by simp [h1, h2]), List.length_cons]; omega
theorem skipL_stop (l : List UInt8) (k : Nat) (h : k < l.length) (h1 : l[k].toNat = 36 ∨ l[k].toNat = 10) : skipL l k = k := by
  unfold skipL
  rw [List.drop_eq_getElem_cons h, List.takeWhile_cons, if_neg (by rcases h1 with h1 | h1 <;> simp [h1])]; simp
theorem skipL_end (l : List UInt8) (k : Nat) (h : l.length ≤ k) : skipL l k = k := by
  unfold skipL
  rw [List.drop_of_length_le h]; simp

def EndOcc (l : List UInt8) (k : Nat) (w : World) (e : Ending) (w' : World) : Prop :=
  e = .returned (.tuple #[.int .i64 ((occAt l k : Nat) + 1 : Int), .bool (occOk l k)]) ∧ ∃ n, w' = w.drewN n

theorem getElem?_u8 (l : List UInt8) (k : Nat) (h : k < l.length) (c : UInt8) : (l[k]? == some c) = ((l[k].toNat : Int) == (c.toNat : Int)) := by
  rw [List.getElem?_eq_getElem h, Bool.eq_iff_iff]; simp; exact ⟨fun h => by rw [h], fun h => UInt8.toNat.inj (by exact_mod_cast h)⟩

/-- What the last statement gives, where the place is known. -/
theorem endOcc_close (l : List UInt8) (at_ k : Nat) (w : World) (n : Nat) (b : Bool) (hk : occAt l at_ = k) (hb : b = (l[k]? == some 36)) :
    EndOcc l at_ w (.returned (.tuple #[.int .i64 ((k : Int) + 1), .bool b])) (w.drewN n) := ⟨by unfold occOk; rw [hk, hb], n, rfl⟩

theorem occAt_no (l : List UInt8) (k : Nat) (h : k < l.length) (h58 : ((l[k].toNat : Int) == 58) = false) : occAt l k = k := by
  unfold occAt
  rw [if_neg]
  intro h'
  have := getElem?_u8 l k h 58
  rw [h'] at this
  simp at this
  simp [← this] at h58
theorem occAt_yes (l : List UInt8) (k : Nat) (h : k < l.length) (h58 : ((l[k].toNat : Int) == 58) = true) : occAt l k = skipL l (k + 1) := by
  unfold occAt
  rw [if_pos]
  have := getElem?_u8 l k h 58
  simpa using this.trans h58
theorem occAt_end (l : List UInt8) (k : Nat) (h : ¬ k < l.length) : occAt l k = k := by
  unfold occAt
  rw [if_neg]
  rw [List.getElem?_eq_none (by omega)]; simp

set_option maxHeartbeats 400000 in
theorem endOcc_any (l : List UInt8) (v : Value) (at_ : Nat) (w : World) (hb : Bytes w v l) (hl : l.length ≤ 2000000) (ha : at_ ≤ l.length) :
    Calls Tryd.prog 80 #[v, .int .i64 at_] w (EndOcc l at_ w) := by
  obtain ⟨A, c, rfl, hc, hm, hlen, h00, hx⟩ := id hb
  clear hx hlen h00
  have HB := Lib.hid hb
  clear hb
  by_cases hlt : at_ < l.length
  · obtain ⟨ad, rfl, -, hcell⟩ := HB.out.at_ hlt
    cases h58 : ((l[at_].toNat : Int) == 58)
    · -- no colon
      have HC := Lib.hid h58
      go_enter Tryd.func80, Tryd.ntmps80
      go_wp2
      go_quiet (fail)
      go_wp2
      go_ret2
      exact endOcc_close l at_ at_ w _ _ (occAt_no l at_ hlt HC.out) (by rw [getElem?_u8 l at_ hlt]; rfl)
    · have HC := Lib.hid (occAt_yes l at_ hlt h58)
      go_enter Tryd.func80, Tryd.ntmps80
      go_wp2
      clear hcell
      go_loop [1] (fun i => ∃ k : Nat, k ≤ l.length ∧ i = .int .i64 k ∧ occAt l at_ = skipL l k) (fun i => l.length - (intOf i).toNat)
      case atStart => exact ⟨at_ + 1, by omega, by go_num, HC.out⟩
      case round =>
        obtain ⟨k, hk, rfl, he⟩ := hrel
        have HE := Lib.hid he
        clear he h58
        by_cases hlt2 : k < l.length
        · obtain ⟨ad', e, -, hcell⟩ := HB.out.at_ hlt2
          obtain rfl : ad = ad' := by simpa using e
          clear e
          cases h36 : ((l[k].toNat : Int) != 36)
          · have h36' : ((l[k].toNat : Int) == 36) = true := by simpa using h36
            go_wp2
            go_quiet (fail)
            go_wp2
            go_ret2
            exact endOcc_close l at_ k w _ _ (by rw [HE.out, skipL_stop l k hlt2 (.inl (by simp at h36'; omega))]) (by rw [getElem?_u8 l k hlt2]; simpa using h36')
          · have h36' : ((l[k].toNat : Int) == 36) = false := by simpa using h36
            cases h10 : ((l[k].toNat : Int) != 10)
            · go_wp2
              go_quiet (fail)
              go_wp2
              go_ret2
              exact endOcc_close l at_ k w _ _ (by rw [HE.out, skipL_stop l k hlt2 (.inr (by simp at h10; omega))]) (by rw [getElem?_u8 l k hlt2]; simpa using h36')
            · have H36 := Lib.hid h36
              have H10 := Lib.hid h10
              go_wp2
              go_round
              case rel => exact ⟨k + 1, by omega, by go_num, by rw [HE.out, skipL_step l k hlt2 (by have := H36.out; simp at this; omega) (by have := H10.out; simp at this; omega)]⟩
              case measure => simp [intOf]; omega
        · have hd : decide ((k : Int) < (l.length : Int)) = false := by simp; omega
          go_wp2
          go_quiet (fail)
          go_wp2
          go_ret2
          exact endOcc_close l at_ k w _ _ (by rw [HE.out, skipL_end l k (by omega)]) (by rw [List.getElem?_eq_none (by omega)]; rfl)
  · go_enter Tryd.func80, Tryd.ntmps80
    go_wp2
    go_quiet (fail)
    go_wp2
    go_ret2
    exact endOcc_close l at_ at_ w _ _ (occAt_end l at_ hlt) (by rw [List.getElem?_eq_none (by omega)]; rfl)

end Go.Proofs.YtfifalpacagacaaDoor.kw
