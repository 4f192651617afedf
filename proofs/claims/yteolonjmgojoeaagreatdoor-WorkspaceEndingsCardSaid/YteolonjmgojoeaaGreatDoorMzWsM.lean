/- words: the keywords of a revision with small numbers. -/
import Derived.Test.YteolonjmgojoeaaGreatDoorMzSyA
import Derived.Test.YteolonjmgojoeaaGreatDoorMgw4
import Derived.Test.YteolonjmgojoeaaGreatDoorShelf
namespace Go.Proofs.YteolonjmgojoeaaGreatDoor
open Go.RowKit
set_option linter.unusedVariables false
set_option linter.unusedSimpArgs false

def decS (n : Nat) : ByteArray := ⟨(Lib.decDigits n).toArray⟩
def wordsOf (path : ByteArray) (num chg : Nat) : List (ByteArray × ByteArray) :=
  [(⟨#[67, 104, 97, 110, 103, 101]⟩, decS chg), (⟨#[70, 105, 108, 101]⟩, path), (⟨#[73, 100]⟩, path ++ ⟨#[35]⟩ ++ decS num), (⟨#[82, 101, 118, 105, 115, 105, 111, 110]⟩, decS num)]
theorem decS_size {n : Nat} (h : n < 100) : (decS n).size ≤ 1000000 := by
  have : ∀ m : Fin 100, (decS m.1).size ≤ 1000000 := by decide +kernel
  exact this ⟨n, h⟩
set_option maxRecDepth 100000 in
set_option maxHeartbeats 4000000 in
theorem words_any (r : Rev) (num chg : Nat) (w : World) (hn : r.num = (num : Int)) (hc : r.chg = (chg : Int)) (h1 : num < 100) (h2 : chg < 100) (hp : r.path.size ≤ 1000000) :
    Calls Tryz.prog 53 #[.agg #[.string r.path, .int .i64 r.num, .int .i64 r.chg, .int .i64 r.act, .int .i64 r.ty.base, .bool r.ty.k, .bool r.ty.l, .bool r.ty.x, .int .u64 r.sum, .int .i64 r.size, .string r.frm, .int .i64 r.fnum]] w fun e w' => ∃ v, e = .returned v ∧ Pairs w' v (wordsOf r.path num chg) ∧ Below w.heap.size w w' := by
  have HI1 := Lib.hid (fun X => Tryz.strconv_Itoa_small num h1 X)
  have HI2 := Lib.hid (fun X => Tryz.strconv_Itoa_small chg h2 X)
  have hA := (Below.refl w.heap.size w).alloc (Nat.le_refl _) (.cells #[.string r.path, .int .i64 r.num, .int .i64 r.chg, .int .i64 r.act, .int .i64 r.ty.base, .bool r.ty.k, .bool r.ty.l, .bool r.ty.x, .int .u64 r.sum, .int .i64 r.size, .string r.frm, .int .i64 r.fnum] 74)
  have hB := blk_new w [.string r.path, .int .i64 r.num, .int .i64 r.chg, .int .i64 r.act, .int .i64 r.ty.base, .bool r.ty.k, .bool r.ty.l, .bool r.ty.x, .int .u64 r.sum, .int .i64 r.size, .string r.frm, .int .i64 r.fnum] 74
  rw [hn, hc] at hA hB ⊢
  obtain ⟨r0, r1, r2, r3, r4, r5, r6, r7, r8, r9, r10, r11⟩ := box12 hB
  clear hB
  have HA := Lib.hid hA
  clear hA
  clear hn hc
  obtain ⟨d1, hd1⟩ : ∃ d, decS num = d := ⟨_, rfl⟩
  obtain ⟨d2, hd2⟩ : ∃ d, decS chg = d := ⟨_, rfl⟩
  have HW : Hid (wordsOf r.path num chg = [(⟨#[67, 104, 97, 110, 103, 101]⟩, d2), (⟨#[70, 105, 108, 101]⟩, r.path), (⟨#[73, 100]⟩, r.path ++ ⟨#[35]⟩ ++ d1), (⟨#[82, 101, 118, 105, 115, 105, 111, 110]⟩, d1)]) := Lib.hid (by unfold wordsOf; rw [hd1, hd2])
  have hz1 : d1.size ≤ 1000000 := by rw [← hd1]; exact decS_size h1
  have q1 : ¬ 9223372036854775807 < r.path.size + 1 := by omega
  have q2 : ¬ 9223372036854775807 < r.path.size + 1 + d1.size := by omega
  clear hz1
  have HR := Lib.hid (fun (X : World) (h : w.heap.size + 1 = X.heap.size) => row_new X [.string ⟨#[67, 104, 97, 110, 103, 101]⟩, .string d2, .string ⟨#[70, 105, 108, 101]⟩, .string r.path, .string ⟨#[73, 100]⟩, .string (r.path ++ ⟨#[35]⟩ ++ d1), .string ⟨#[82, 101, 118, 105, 115, 105, 111, 110]⟩, .string d1] 153 2 4 rfl (by decide) (w.heap.size + 1) h)
  unfold decS at hd1 hd2
  rw [hd1] at HI1
  rw [hd2] at HI2
  clear hd1 hd2
  go_enter Tryz.func53, Tryz.ntmps53
  go_wp2_with fail
  refine (HI1.out _).mono ?_
  rintro e w1 ⟨rfl, rfl⟩
  go_upto_region 2 with fail
  refine wp_region_noPanic ?_
  first
    | go_region_law (go_simp; go_at_call 77; refine (HI2.out _).mono ?_; rintro e w5 ⟨rfl, rfl⟩)
    | fail
  all_goals
    refine NoPanic.normal ?_
    go_wp2_with fail
    go_ret
    refine ⟨_, rfl, by rw [HW.out]; exact HR.out _ (by simp), ?_⟩
    first
      | exact HA.out.drew.alloc (by simp) _
      | exact HA.out.alloc (by simp) _
      | exact HA.out.drew.drew.alloc (by simp) _
end Go.Proofs.YteolonjmgojoeaaGreatDoor
