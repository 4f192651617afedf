/- The statements' own 'rest': a text without the bytes 13 ahead of a byte 10. -/
import Derived.Test.YtfifalpacagacaaDoorTrans
import Derived.Test.YtfifalpacagacaaDoorLines
namespace Go.Proofs.YtfifalpacagacaaDoor
open Go.RowKit
set_option linter.unusedVariables false
set_option linter.unusedSimpArgs false

theorem u8Elem : ElemOk Tryd.prog 22 5 1 1 := elemOk_of Tryd.underlying22 (z := .int .u8 0) (by kernel_rfl) rfl (by decide)

theorem own_cut {w : World} {base : Nat} {e : TypeId} {A : Option Addr} {n c k : Nat} {xs : List Value} (h : w.ownsRow base e 1 (.slice A n c) n xs) (hk : k ≤ n) (hn : 0 < n) : w.ownsRow base e 1 (.slice A k c) k (xs.take k) := by
  obtain ⟨h1, h2 | ⟨g, cap, cur, e1, h3, h4, h5, h6, h7, h8⟩⟩ := h
  · omega
  · injection e1 with e1 e2 e3
    subst e1 e3
    refine ⟨by simp; omega, .inr ⟨g, _, cur, rfl, h3, h4, by omega, h6, h7, ?_⟩⟩
    rw [← h8, List.take_take]
    congr 1
    omega
theorem own_cell {w : World} {base : Nat} {e : TypeId} {A : Option Addr} {n c k : Nat} {xs : List Value} (h : w.ownsRow base e 1 (.slice A n c) n xs) (hk : k < n) : ∃ ad, A = some ad ∧ n ≤ c ∧ c ≤ maxLen ∧ w.cell? (ad.add k) = xs[k]? := by
  obtain ⟨h1, h2 | ⟨g, cap, cur, e1, h3, h4, h5, h6, h7, h8⟩⟩ := h
  · omega
  · injection e1 with e1 e2 e3
    subst e1 e3
    refine ⟨_, rfl, h5, h6, ?_⟩
    have hadd : (⟨g, 0, none⟩ : Addr).add k = ⟨g, k, none⟩ := by unfold Addr.add; split <;> simp_all
    rw [hadd, cell_of_row w g k cur e (0, 0) h4, ← h8]
    rw [List.getElem?_take, if_pos (by omega)]
    simp

def lenV : Value → Nat
  | .slice _ n _ => n
  | _ => 0
def u8L (l : List UInt8) : List Value := l.map fun b => .int .u8 b.toNat
theorem u8L_app (l m : List UInt8) : u8L (l ++ m) = u8L l ++ u8L m := List.map_append ..
theorem u8L_take (l : List UInt8) (k : Nat) : (u8L l).take k = u8L (l.take k) := (List.map_take ..).symm
theorem strip_last {l : List UInt8} {n : Nat} (hn : l.length = n + 1) (h : l[n]? = some 13) : strip13 (l.take n) = strip13 l := by
  have : l = l.take n ++ [13] := by
    rw [List.getElem?_eq_some_iff] at h
    obtain ⟨h1, h2⟩ := h
    rw [← h2, ← List.take_succ_eq_append_getElem h1, List.take_of_length_le (by omega)]
  conv => rhs; rw [this]
  exact (strip13_push _).symm
theorem strip_stop {l : List UInt8} {n : Nat} {c : UInt8} (hn : l.length = n + 1) (h : l[n]? = some c) (hc : c ≠ 13) : strip13 l = l := by
  have : l = l.take n ++ [c] := by
    rw [List.getElem?_eq_some_iff] at h
    obtain ⟨h1, h2⟩ := h
    rw [← h2, ← List.take_succ_eq_append_getElem h1, List.take_of_length_le (by omega)]
  rw [this]
  simp [strip13, hc]

set_option maxRecDepth 100000 in
set_option maxHeartbeats 4000000 in
theorem rest_any (bs : List UInt8) (v : Value) (w : World) (hb : Bytes w v bs) (hl : bs.length ≤ 100000) :
    Calls Tryd.prog 33 #[v] w fun e w' => e = .returned (.string (baL (restL bs))) ∧ Below w.heap.size w w' := by
  obtain ⟨A, c, rfl, hc, hm, -⟩ := id hb
  unfold maxLen at hm
  have HB := Lib.hid hb
  clear hb
  go_enter Tryd.func33, Tryd.ntmps33
  go_wp2
  go_loopw [3, 8] (fun r i wr => ∃ (k : Nat) (o : List UInt8), k ≤ bs.length ∧ i = .int .i64 k ∧ wr.ownsRow w.heap.size 5 1 r o.length (u8L o) ∧ Below w.heap.size w wr ∧ o = (bs.take k).foldl restStep [] ∧ o.length ≤ k) (fun _ i _ => bs.length - (intOf i).toNat)
  case atStart => exact ⟨0, [], Nat.zero_le _, rfl, World.ownsRow_nil _ _ _ _, Below.refl _ _, rfl, Nat.le_refl _⟩
  case round =>
    obtain ⟨k, o, hk, rfl, hown, hbl, ho, hol⟩ := hrel
    by_cases hlt : k < bs.length
    · obtain ⟨ad, rfl, -, hcell⟩ := (HB.out.below hbl).at_ hlt
      obtain ⟨Ao, co, rfl⟩ := own_slice hown
      have HO := Lib.hid ho
      clear ho
      by_cases h10 : bs[k] = 10
      · have q1 : ((bs[k].toNat : Int) == 10) = true := by rw [h10]; rfl
        go_wp2_with fail
        go_loop [3] (fun r => ∃ (n : Nat) (ys : List UInt8), ys.length = n ∧ wr.ownsRow w.heap.size 5 1 r n (u8L ys) ∧ Hid (strip13 ys = strip13 o) ∧ n ≤ o.length) (fun r => lenV r)
        case atStart => exact ⟨_, o, rfl, hown, Lib.hid rfl, Nat.le_refl _⟩
        case round =>
          obtain ⟨n, ys, hys, hown2, HS, hn⟩ := hrel
          obtain ⟨Ai, ci, rfl⟩ := own_slice hown2
          rcases n with _ | n
          · have hend : strip13 o = ys := by rw [← HS.out, List.eq_nil_of_length_eq_zero hys]; rfl
            have hB2 := hbl.alloc hbl.size (.cells #[.int .u8 10] 5)
            go_wp2_with (at_builtin; refine wpList_push rfl rfl u8Elem (hown2.alloc _) rfl (row_new _ [.int .u8 10] _ 1 1 rfl (by decide) _ (by simp)) rfl hB2 hB2.size (by simp [Value.oneCell']) (by omega) (by unfold maxLen; omega) ?_; intro A' c' w1 hown1 hbl1)
            go_roundw
            case rel => exact ⟨k + 1, ys ++ [10], by omega, by go_num, by rw [u8L_app, List.length_append, hys]; exact hown1, hbl1, by rw [List.take_succ_eq_append_getElem hlt, List.foldl_append, ← HO.out, h10]; exact (hend ▸ rfl), by simp; omega⟩
            case measure => simp [intOf]; omega
          · obtain ⟨ai, rfl, hx1, hx2, hxc⟩ := own_cell (k := n) hown2 (by omega)
            unfold maxLen at hx2
            have hyc : wr.cell? (ai.add n) = some (.int .u8 (ys[n].toNat)) := by
              rw [hxc]; simp [u8L, List.getElem?_map, List.getElem?_eq_getElem (show n < ys.length by omega)]
            clear hxc
            by_cases h13 : ys[n] = 13
            · rw [h13] at hyc
              go_wp2_with fail
              go_round
              case rel => exact ⟨n, ys.take n, by simp; omega, by rw [← u8L_take]; exact own_cut hown2 (by omega) (by omega), Lib.hid ((strip_last hys (by rw [← h13]; simp)).trans HS.out), by omega⟩
              case measure => simp [lenV]
            · have q3 : ((ys[n].toNat : Int) == 13) = false := by
                have : ys[n].toNat ≠ 13 := fun e => h13 (UInt8.toNat_inj.1 e)
                simp; omega
              have hend : strip13 o = ys := by rw [← HS.out, strip_stop (n := n) (c := ys[n]) hys (by simp) h13]
              have hB2 := hbl.alloc hbl.size (.cells #[.int .u8 10] 5)
              go_wp2_with (at_builtin; refine wpList_push rfl rfl u8Elem (hown2.alloc _) rfl (row_new _ [.int .u8 10] _ 1 1 rfl (by decide) _ (by simp)) rfl hB2 hB2.size (by simp [Value.oneCell']) (by omega) (by unfold maxLen; omega) ?_; intro A' c' w1 hown1 hbl1)
              go_roundw
              case rel => exact ⟨k + 1, ys ++ [10], by omega, by go_num, by rw [u8L_app, List.length_append, hys]; exact hown1, hbl1, by rw [List.take_succ_eq_append_getElem hlt, List.foldl_append, ← HO.out, h10]; exact (hend ▸ rfl), by simp; omega⟩
              case measure => simp [intOf]; omega
      · have q1 : ((bs[k].toNat : Int) == 10) = false := by
          have : bs[k].toNat ≠ 10 := fun e => h10 (UInt8.toNat_inj.1 e)
          simp; omega
        have hB2 := hbl.alloc hbl.size (.cells #[.int .u8 (bs[k].toNat)] 5)
        go_wp2_with (at_builtin; refine wpList_push rfl rfl u8Elem (hown.alloc _) rfl (row_new _ [.int .u8 (bs[k].toNat)] _ 1 1 rfl (by decide) _ (by simp)) rfl hB2 hB2.size (by simp [Value.oneCell']) (by omega) (by unfold maxLen; omega) ?_; intro A' c' w1 hown1 hbl1)
        go_roundw
        case rel => exact ⟨k + 1, o ++ [bs[k]], by omega, by go_num, by rw [u8L_app, List.length_append]; exact hown1, hbl1, by rw [List.take_succ_eq_append_getElem hlt, List.foldl_append, ← HO.out]; exact (if_neg h10).symm, by simp; omega⟩
        case measure => simp [intOf]; omega
    · obtain rfl : k = bs.length := by omega
      have hbyte : Bytes wr u3 (restL bs) := by
        unfold Bytes
        rw [List.take_length] at ho
        have : restL bs = o := ho.symm
        rw [this]
        exact Row.of_own hown
      have hs := str_run hbyte
      obtain ⟨Ao, co, rfl⟩ := own_slice hown
      clear hown hbyte ho
      go_wp2_with fail
      go_ret
      exact ⟨rfl, hbl⟩
end Go.Proofs.YtfifalpacagacaaDoor
