/- The contracts of the functions that make lists: names, Collapsed, Expanded, named. -/
import Derived.Test.YtajlckioogalbaaLeaf2
namespace Go.Proofs.Ytajlckioogalbaa
open Go.RowKit

theorem strInfo : (Try.prog.info? 9).map (fun i => (i.zero, i.size, i.bytes)) = some (some (.string ⟨#[]⟩), 1, 16) := by kernel_rfl
theorem strElem : ElemOk Try.prog 30 9 1 16 := elemOk_of Try.underlying30 strInfo rfl (by decide)

set_option maxHeartbeats 400000 in
theorem names_any (l : List (ByteArray × ByteArray)) (v : Value) (w : World) (hb : Pairs w v l) (hl : l.length ≤ 1000) :
    Calls Try.prog 18 #[v] w fun e w' => ∃ v', e = .returned v' ∧ Strs w' v' (l.map (·.1)) ∧ Below w.heap.size w w' := by
  obtain ⟨A, c, rfl, hc, hm, hlen, h00, hx⟩ := id hb
  clear hx hlen h00
  have HB := Lib.hid hb
  clear hb
  go_enter Try.func18, Try.ntmps18
  go_wp2
  go_loopw [3, 8] (fun r i wr => ∃ k : Nat, k ≤ l.length ∧ i = .int .i64 k ∧ wr.ownsRow w.heap.size 9 1 r k ((l.take k).map fun p => .string p.1) ∧ Below w.heap.size w wr) (fun _ i _ => l.length - (intOf i).toNat)
  case atStart => exact ⟨0, Nat.zero_le _, rfl, World.ownsRow_nil _ _ _ _, Below.refl _ _⟩
  case round =>
    obtain ⟨k, hk, rfl, hown, hbl⟩ := hrel
    by_cases hlt : k < l.length
    · obtain ⟨ad, rfl, had, hc0, hc1⟩ := (HB.out.below hbl).at_ hlt
      have hB2 := (hbl.alloc hbl.size (.cells #[.string l[k].1, .string l[k].2] 52)).alloc (by have := hbl.size; simp; omega) (.cells #[.string l[k].1] 9)
      go_wp2_with (at_builtin; refine wpList_push rfl rfl strElem ((hown.alloc _).alloc _) rfl (row_new _ [.string l[k].1] _ 1 1 rfl (by decide) _ (by simp)) rfl hB2 hB2.size (by simp [Value.oneCell']) (by omega) (by unfold maxLen; omega) ?_; intro A' c' w1 hown1 hbl1)
      go_roundw
      case rel => exact ⟨k + 1, by omega, by go_num, by rw [List.take_succ_eq_append_getElem hlt, List.map_append]; exact hown1, hbl1⟩
      case measure => simp [intOf]; omega
    · go_wp2
      go_ret
      obtain rfl : k = l.length := by omega
      rw [List.take_length] at hown
      exact ⟨_, rfl, by unfold Strs; rw [List.length_map, List.map_map]; exact Row.of_own hown, hbl⟩

def dol : ByteArray := ⟨#[36]⟩
def colText (s : ByteArray) : ByteArray := ⟨#[36]⟩ ++ s ++ ⟨#[36]⟩
def expText (p : ByteArray × ByteArray) : ByteArray := ⟨#[36]⟩ ++ p.1 ++ ⟨#[58, 32]⟩ ++ p.2 ++ ⟨#[32, 36]⟩

set_option maxHeartbeats 400000 in
theorem collapsed_any (l : List ByteArray) (v : Value) (w : World) (hb : Strs w v l) (hl : l.length ≤ 1000) (hsz : ∀ s ∈ l, s.size ≤ 100000) :
    Calls Try.prog 23 #[v] w fun e w' => ∃ v', e = .returned v' ∧ Strs w' v' (l.map colText) ∧ Below w.heap.size w w' := by
  obtain ⟨A, c, rfl, hc, hm, hlen, h00, hx⟩ := id hb
  clear hx hlen h00
  have HB := Lib.hid hb
  have HS := Lib.hid hsz
  clear hb hsz
  go_enter Try.func23, Try.ntmps23
  go_wp2
  go_loopw [3, 8] (fun r i wr => ∃ k : Nat, k ≤ l.length ∧ i = .int .i64 k ∧ wr.ownsRow w.heap.size 9 1 r k ((l.take k).map fun p => .string (colText p)) ∧ Below w.heap.size w wr) (fun _ i _ => l.length - (intOf i).toNat)
  case atStart => exact ⟨0, Nat.zero_le _, rfl, World.ownsRow_nil _ _ _ _, Below.refl _ _⟩
  case round =>
    obtain ⟨k, hk, rfl, hown, hbl⟩ := hrel
    by_cases hlt : k < l.length
    · obtain ⟨ad, rfl, had, hc0⟩ := (HB.out.below hbl).at_ hlt
      have hs1 := HS.out l[k] (by simp)
      have hB2 := hbl.alloc hbl.size (.cells #[.string (colText l[k])] 9)
      go_wp2_with (at_builtin; refine wpList_push rfl rfl strElem (hown.alloc _) rfl (row_new _ [.string (colText l[k])] _ 1 1 rfl (by decide) _ (by simp)) rfl hB2 hB2.size (by simp [Value.oneCell']) (by omega) (by unfold maxLen; omega) ?_; intro A' c' w1 hown1 hbl1)
      go_roundw
      case rel => exact ⟨k + 1, by omega, by go_num, by rw [List.take_succ_eq_append_getElem hlt, List.map_append]; exact hown1, hbl1⟩
      case measure => simp [intOf]; omega
    · go_wp2
      go_ret
      obtain rfl : k = l.length := by omega
      rw [List.take_length] at hown
      exact ⟨_, rfl, by unfold Strs; rw [List.length_map, List.map_map]; exact Row.of_own hown, hbl⟩

set_option maxHeartbeats 400000 in
theorem expanded_any (l : List (ByteArray × ByteArray)) (v : Value) (w : World) (hb : Pairs w v l) (hl : l.length ≤ 1000) (hsz : ∀ s ∈ l, s.1.size ≤ 100000 ∧ s.2.size ≤ 100000) :
    Calls Try.prog 16 #[v] w fun e w' => ∃ v', e = .returned v' ∧ Strs w' v' (l.map expText) ∧ Below w.heap.size w w' := by
  obtain ⟨A, c, rfl, hc, hm, hlen, h00, hx⟩ := id hb
  clear hx hlen h00
  have HB := Lib.hid hb
  have HS := Lib.hid hsz
  clear hb hsz
  go_enter Try.func16, Try.ntmps16
  go_wp2
  go_loopw [3, 8] (fun r i wr => ∃ k : Nat, k ≤ l.length ∧ i = .int .i64 k ∧ wr.ownsRow w.heap.size 9 1 r k ((l.take k).map fun p => .string (expText p)) ∧ Below w.heap.size w wr) (fun _ i _ => l.length - (intOf i).toNat)
  case atStart => exact ⟨0, Nat.zero_le _, rfl, World.ownsRow_nil _ _ _ _, Below.refl _ _⟩
  case round =>
    obtain ⟨k, hk, rfl, hown, hbl⟩ := hrel
    by_cases hlt : k < l.length
    · obtain ⟨ad, rfl, had, hc0, hc1⟩ := (HB.out.below hbl).at_ hlt
      obtain ⟨hs1, hs2⟩ := HS.out l[k] (by simp)
      have hB2 := (hbl.alloc hbl.size (.cells #[.string l[k].1, .string l[k].2] 52)).alloc (by have := hbl.size; simp; omega) (.cells #[.string (expText l[k])] 9)
      go_wp2_with (at_builtin; refine wpList_push rfl rfl strElem ((hown.alloc _).alloc _) rfl (row_new _ [.string (expText l[k])] _ 1 1 rfl (by decide) _ (by simp)) rfl hB2 hB2.size (by simp [Value.oneCell']) (by omega) (by unfold maxLen; omega) ?_; intro A' c' w1 hown1 hbl1)
      go_roundw
      case rel => exact ⟨k + 1, by omega, by go_num, by rw [List.take_succ_eq_append_getElem hlt, List.map_append]; exact hown1, hbl1⟩
      case measure => simp [intOf]; omega
    · go_wp2
      go_ret
      obtain rfl : k = l.length := by omega
      rw [List.take_length] at hown
      exact ⟨_, rfl, by unfold Strs; rw [List.length_map, List.map_map]; exact Row.of_own hown, hbl⟩

end Go.Proofs.Ytajlckioogalbaa
