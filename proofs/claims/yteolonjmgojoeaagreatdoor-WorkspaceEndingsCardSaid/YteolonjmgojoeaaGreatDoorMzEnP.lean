/- The example of the chapter: its words, plain. -/
import Derived.Test.YteolonjmgojoeaaGreatDoorMzWsO
import Derived.Test.YteolonjmgojoeaaGreatDoorMzWsP
import Derived.Test.YteolonjmgojoeaaGreatDoorMgw4
namespace Go.Proofs.YteolonjmgojoeaaGreatDoor
open Go.RowKit
set_option linter.unusedVariables false
set_option linter.unusedSimpArgs false

theorem Row.set_far {w : World} {size n g i : Nat} {v u : Value} {xs : List Value} (h : Row w size v n xs) (hne : v.ownBlock ≠ some g) : Row (w.setCell ⟨g, i, none⟩ u) size v n xs := by
  obtain ⟨A, c, rfl, hc, hm, hl, h0, hx⟩ := h
  refine ⟨A, c, rfl, hc, hm, hl, h0, fun hn => ?_⟩
  obtain ⟨ad, rfl, hb, hcell⟩ := hx hn
  refine ⟨ad, rfl, by simpa [World.setCell] using hb, fun j u' hu => ?_⟩
  rw [← hcell j u' hu]
  refine World.cell?_of_block (Below.heap_setCell w _ _ _ ?_)
  rw [add_block]
  intro e
  exact hne (congrArg some e)
def kPath : ByteArray := ⟨#[47, 47, 100, 47, 97]⟩
def kLoc : ByteArray := ⟨#[47, 47, 99, 47, 97]⟩
def kId : List UInt8 := [36, 73, 100, 36]
def kOut : List UInt8 := [36, 73, 100, 58, 32, 47, 47, 100, 47, 97, 35, 50, 32, 36]
def kSum : Int := 1536426001543511915
def kTy : Ty := ⟨1, true, false, false⟩
def kEd1 : Edt := ⟨kPath, 1, kTy, 1, 1, 0, ⟨#[]⟩, 0, 0⟩
def kEd2 : Edt := ⟨kPath, 2, kTy, kSum, 4, 1, ⟨#[]⟩, 0, 0⟩
def kCh1 : Chg := ⟨6, ⟨#[]⟩, ⟨#[]⟩, [kEd1], []⟩
def kCh2 : Chg := ⟨7, ⟨#[]⟩, ⟨#[]⟩, [kEd2], []⟩
def kRev1 : Rev := ⟨kPath, 1, 6, 1, kTy, 1, 1, ⟨#[]⟩, 0⟩
def kRev2 : Rev := ⟨kPath, 2, 7, 2, kTy, kSum, 4, ⟨#[]⟩, 0⟩
def kSyn : Syn := ⟨1, kPath, 2, ⟨#[]⟩, kLoc⟩
theorem k_sum : ((fpSum kId : Nat) : Int) = kSum := by decide +kernel
theorem k_valid : validS kPath = true := by decide
theorem k_app1 : appE ⟨[], []⟩ kCh1 = 0 := by decide +kernel
theorem k_new1 : newRevs ⟨[], []⟩ kCh1 = [kRev1] := by decide +kernel
theorem k_app2 : appE ⟨[kRev1], []⟩ kCh2 = 0 := by decide +kernel
theorem k_new2 : newRevs ⟨[kRev1], []⟩ kCh2 = [kRev1, kRev2] := by decide +kernel
theorem k_get : greatest [kRev1, kRev2] kPath (fun v : Rev => decide (v.num = 2)) = some kRev2 := by decide +kernel
theorem k_ch1 : ChgW kCh1 := ⟨by decide, by decide, fun x hx => by
  have : x = kEd1 := by simpa [kCh1] using hx
  subst this; decide, fun r hr => by simp [kCh1] at hr⟩
theorem k_ch2 : ChgW kCh2 := ⟨by decide, by decide, fun x hx => by
  have : x = kEd2 := by simpa [kCh2] using hx
  subst this; decide, fun r hr => by simp [kCh2] at hr⟩
theorem k_dep0 : DepW ⟨[], []⟩ := ⟨by decide, by decide, (fun r hr => by cases hr), (fun r hr => by cases hr), (fun r hr => by cases hr)⟩
theorem k_dep : DepW ⟨[kRev1], []⟩ := ⟨by decide, by decide, fun r hr => by
  have : r = kRev1 := by simpa using hr
  subst this; decide, fun r hr => by
  have : r = kRev1 := by simpa using hr
  subst this; exact k_valid, fun r hr => by simp at hr⟩
theorem k_fits : fitsB kSyn emptyS = true := by decide +kernel
theorem k_have : haveE (putS kSyn) = 0 := by decide +kernel
theorem k_words : ∀ s ∈ wordsOf kPath 2 7, s.1.size ≤ 100000 ∧ s.2.size ≤ 100000 := by decide +kernel
theorem k_tab : kw.tabB (wordsOf kPath 2 7) = true := by decide +kernel
theorem k_exp : expL kPath 2 7 kId = kOut := by decide +kernel
theorem Row.kept {S : List Nat} {w X : World} {size n c : Nat} {ad : Addr} {xs : List Value} (h : Row w size (.slice (some ad) n c) n xs) (hK : Kept S w X) (hb : ad.block ∉ S) : Row X size (.slice (some ad) n c) n xs := by
  obtain ⟨A, c', e, hc, hm, hl, h0, hx⟩ := h
  injection e with e1 e2 e3
  subst e3
  refine ⟨some ad, c, rfl, hc, hm, hl, (fun h => by cases h), fun hn => ?_⟩
  obtain ⟨ad', e4, hb', hcell⟩ := hx hn
  rw [← e1] at e4
  injection e4 with e4
  subst e4
  refine ⟨ad, rfl, Nat.lt_of_lt_of_le hb' hK.size, fun j u' hu => ?_⟩
  rw [← hcell j u' hu]
  refine World.cell?_of_block ?_
  rw [add_block]
  exact hK.block _ hb' hb
/-- A tree as New makes it. -/
theorem new_tree (n : Int) (w W : World) (hW : W = ((((w.alloc (.map #[] 0)).alloc (.map #[] 0)).alloc (.map #[] 0)).alloc (.map #[] 0)).alloc (.cells #[.int .i64 n, .map (some w.heap.size), .map (some (w.heap.size + 1)), .map (some (w.heap.size + 2)), .map (some (w.heap.size + 3))] 39)) :
    IsTree W (w.heap.size + 4) n w.heap.size (w.heap.size + 1) (w.heap.size + 2) (w.heap.size + 3) ∧ NMap Value.string ptrV W w.heap.size (fun _ => none) ∧ NMap Value.string ptrV W (w.heap.size + 1) (fun _ => none) ∧ Strays W (w.heap.size + 2) (fun _ => none) ∧ NMap cidV unitV W (w.heap.size + 3) (fun _ => none) ∧ Below w.heap.size w W := by
  subst hW
  have b (X : World) (o : Obj) : Below X.heap.size X (X.alloc o) := (Below.refl _ _).alloc (Nat.le_refl _) _
  refine ⟨?_, ?_, ?_, ?_, ?_, ?_⟩
  · have := blk_new ((((w.alloc (.map #[] 0)).alloc (.map #[] 0)).alloc (.map #[] 0)).alloc (.map #[] 0)) [.int .i64 n, .map (some w.heap.size), .map (some (w.heap.size + 1)), .map (some (w.heap.size + 2)), .map (some (w.heap.size + 3))] 39
    rw [show ((((w.alloc (.map #[] 0)).alloc (.map #[] 0)).alloc (.map #[] 0)).alloc (.map #[] 0)).heap.size = w.heap.size + 4 by simp] at this
    exact this
  · exact ((((NMap.new Value.string ptrV w).below (b _ _)).below (b _ _)).below (b _ _)).below (b _ _)
  · have := (((NMap.new Value.string ptrV (w.alloc (.map #[] 0))).below (b _ (.map #[] 0))).below (b _ (.map #[] 0))).below (b _ (.cells #[.int .i64 n, .map (some w.heap.size), .map (some (w.heap.size + 1)), .map (some (w.heap.size + 2)), .map (some (w.heap.size + 3))] 39))
    rw [show (w.alloc (.map #[] 0)).heap.size = w.heap.size + 1 by simp] at this
    exact this
  · have := (FMap.new Value.string (id : Value → Value) ((w.alloc (.map #[] 0)).alloc (.map #[] 0))).below (b _ (.map #[] 0)) |>.below (b _ (.cells #[.int .i64 n, .map (some w.heap.size), .map (some (w.heap.size + 1)), .map (some (w.heap.size + 2)), .map (some (w.heap.size + 3))] 39))
    rw [show ((w.alloc (.map #[] 0)).alloc (.map #[] 0)).heap.size = w.heap.size + 2 by simp] at this
    exact this
  · have := (NMap.new cidV unitV (((w.alloc (.map #[] 0)).alloc (.map #[] 0)).alloc (.map #[] 0))).below (b _ (.cells #[.int .i64 n, .map (some w.heap.size), .map (some (w.heap.size + 1)), .map (some (w.heap.size + 2)), .map (some (w.heap.size + 3))] 39))
    rw [show (((w.alloc (.map #[] 0)).alloc (.map #[] 0)).alloc (.map #[] 0)).heap.size = w.heap.size + 3 by simp] at this
    exact this
  · exact ((((b _ _).alloc (by simp) _).alloc (by simp; omega) _).alloc (by simp; omega) _).alloc (by simp; omega) _
end Go.Proofs.YteolonjmgojoeaaGreatDoor
