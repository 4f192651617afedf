/- steps. -/
import Derived.Test.YtnblfaagchflaaaGreatDoorMgw11
import Derived.Test.YtnblfaagchflaaaGreatDoorMgw2
import Derived.Test.YtnblfaagchflaaaGreatDoorMgw6
namespace Go.Proofs.YtnblfaagchflaaaGreatDoor
open Go.RowKit
set_option linter.unusedVariables false
set_option linter.unusedSimpArgs false

def stepV (n g : Nat) : Value := .func (.func n) #[.pointer (some ⟨g, 0, none⟩)] #[]
set_option maxHeartbeats 1000000 in
theorem steps_any (g : Nat) (w : World) :
    Calls Tryz.prog 38 #[.pointer (some ⟨g, 0, none⟩)] w
      fun e w' => e = .returned (.slice (some ⟨w.heap.size, 0, none⟩) 5 5) ∧ Below w.heap.size w w' ∧ Blk w' w.heap.size 82 [stepV 70 g, stepV 71 g, stepV 72 g, stepV 73 g, stepV 74 g] := by
  go_enter Tryz.func38, Tryz.ntmps38
  go_wp2_with fail
  go_ret
  exact ⟨rfl, (Below.refl _ _).alloc (Nat.le_refl _) _, blk_new w _ _⟩
end Go.Proofs.YtnblfaagchflaaaGreatDoor
/- Patterns: the walk of Match. -/
namespace Go.Proofs.YtnblfaagchflaaaGreatDoor
open Go.RowKit
set_option linter.unusedVariables false
set_option linter.unusedSimpArgs false

theorem strElemP : ElemOk Tryz.prog 23 9 1 16 := elemOk_of Tryz.underlying23 (z := .string ⟨#[]⟩) (by kernel_rfl) rfl (by decide)
def prtAt (l : List ByteArray) (j : Nat) : ByteArray := (l[j]?).getD emptyS
def compAt (cs : List (List UInt8)) (j : Nat) : ByteArray := baL ((cs[j]?).getD [])
/-- The first k parts match. -/
def zipB (parts : List ByteArray) (cs : List (List UInt8)) (k : Nat) : Bool := (List.range k).all fun j => capB (prtAt parts j) (compAt cs j)
/-- What the wildcards among the first k parts capture. -/
def zipC (parts : List ByteArray) (cs : List (List UInt8)) : Nat → List ByteArray
  | 0 => []
  | k + 1 => zipC parts cs k ++ (if starS (prtAt parts k) then [capV (prtAt parts k) (compAt cs k)] else [])
def fitsB (p : Pat) (cs : List (List UInt8)) : Bool := decide (p.parts.length ≤ cs.length) && (decide (p.parts.length < cs.length) == p.rest)
def capsP (p : Pat) (cs : List (List UInt8)) : List ByteArray := zipC p.parts cs p.parts.length ++ (if p.rest then [baL (Lib.join (cs.drop p.parts.length) [47])] else [])
/-- What Match answers: the captures, or none. -/
def matchP (p : Pat) (s : ByteArray) : Option (List ByteArray) :=
  match dirL s.data.toList 2 with
  | none => none
  | some cs => if patE p = 0 ∧ fitsB p cs = true ∧ zipB p.parts cs p.parts.length = true then some (capsP p cs) else none
theorem zipB_next {parts : List ByteArray} {cs : List (List UInt8)} {k : Nat} : zipB parts cs (k + 1) = (zipB parts cs k && capB (prtAt parts k) (compAt cs k)) := by
  unfold zipB
  rw [List.range_succ, List.all_append]; simp
theorem zipB_no {parts : List ByteArray} {cs : List (List UInt8)} {k n : Nat} (hk : k < n) (h : capB (prtAt parts k) (compAt cs k) = false) : zipB parts cs n = false := by
  unfold zipB
  rw [List.all_eq_false]
  exact ⟨k, List.mem_range.2 hk, by rw [h]; simp⟩
/-- What Match leaves. -/
def MatchPost (w : World) (p : Pat) (s : ByteArray) (e : Ending) (w' : World) : Prop := ∃ A n c, e = .returned (.tuple #[.slice A n c, .bool (matchP p s).isSome]) ∧ Below w.heap.size w w' ∧ ∀ l, matchP p s = some l → n = l.length ∧ Strs w' (.slice A n c) l
set_option maxRecDepth 100000 in
set_option maxHeartbeats 4000000 in
theorem split_pat (s : ByteArray) (w : World) (he : Env w) (hs : s.size ≤ 2000000) :
    Calls Tryz.prog 28 #[.string s] w fun e w' => (dirL s.data.toList 2 = none ∧ e = .returned (.tuple #[.slice none 0 0, .bool false]) ∧ Below w.heap.size w w') ∨ ∃ cs, dirL s.data.toList 2 = some cs ∧ e = .returned (.tuple #[.slice (some ⟨w.heap.size, 0, none⟩) cs.length cs.length, .bool true]) ∧ w.alloc (.cells (strCells cs).toArray 9) = w' := by
  cases hd : dirL s.data.toList 2 with
  | none =>
    have H := Lib.hid (split_none s w he hs hd)
    clear hd he
    go_enter Tryz.func28, Tryz.ntmps28
    go_wp2_with fail
    refine H.out.mono ?_
    rintro e w' ⟨rfl, hb⟩
    have HB := Lib.hid hb
    clear hb
    go_wp2_with fail
    go_ret2
    exact .inl ⟨by first | rfl | trivial, rfl, HB.out⟩
  | some cs =>
    have H := Lib.hid (split_some s cs w he hs hd)
    clear hd he
    generalize hW : w.alloc (.cells (strCells cs).toArray 9) = W at H
    have HW := Lib.hid hW
    clear hW
    go_enter Tryz.func28, Tryz.ntmps28
    go_wp2_with fail
    refine H.out.mono ?_
    rintro e w' ⟨rfl, rfl⟩
    go_wp2_with fail
    go_ret2
    exact .inr ⟨cs, rfl, rfl, HW.out⟩
end Go.Proofs.YtnblfaagchflaaaGreatDoor
