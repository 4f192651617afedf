/- filetype.Parse: the walk. -/
import Derived.Test.YtfifalpacagacaaDoorTypeP
import Derived.Deep.RegionHeld3
import Derived.Deep.RegionWith
namespace Go.Proofs.YtfifalpacagacaaDoor
open Go.RowKit
set_option linter.unusedVariables false

def cutH (c : UInt8) (l : List UInt8) : List UInt8 × Bool := match l with
  | [] => ([], false)
  | b :: r => if b = c then (r, true) else (b :: r, false)
/-- The letters that are left and the type, after so many of the three marks. -/
def stT (base : Int) (rest : List UInt8) : Nat → List UInt8 × Ty
  | 0 => (rest, ⟨base, false, false, false⟩)
  | 1 => ((cutH 107 rest).1, ⟨base, (cutH 107 rest).2, false, false⟩)
  | 2 => ((cutH 108 (cutH 107 rest).1).1, ⟨base, (cutH 107 rest).2, (cutH 108 (cutH 107 rest).1).2, false⟩)
  | _ => ((cutH 120 (cutH 108 (cutH 107 rest).1).1).1, ⟨base, (cutH 107 rest).2, (cutH 108 (cutH 107 rest).1).2, (cutH 120 (cutH 108 (cutH 107 rest).1).1).2⟩)
theorem cutH_any (c : UInt8) (l : List UInt8) (w : World) : Calls Tryd.prog 45 #[.string (baL l), .string ⟨#[c]⟩] w fun e w' => e = .returned (.tuple #[.string (baL (cutH c l).1), .bool (cutH c l).2]) ∧ w = w' := by
  cases l with
  | nil => exact cutP_no (baL []) ⟨#[c]⟩ w rfl
  | cons b r =>
    by_cases h : b = c
    · have e : cutH c (b :: r) = (r, true) := if_pos h
      rw [e]
      refine cutP_yes (baL (b :: r)) ⟨#[c]⟩ (baL r) w ?_ rfl
      show Lib.hasPrefix (b :: r) [c] = true
      simp [Lib.hasPrefix, h]
    · have e : cutH c (b :: r) = (b :: r, false) := if_neg h
      rw [e]
      refine cutP_no (baL (b :: r)) ⟨#[c]⟩ w ?_
      show Lib.hasPrefix (b :: r) [c] = false
      have : (c == b) = false := by simpa using fun h' : c = b => h h'.symm
      simp [Lib.hasPrefix, List.isPrefixOf, this]

def marksV (g : Nat) : Value := .agg #[.string ⟨#[107]⟩, .pointer (some ⟨g, 1, none⟩), .string ⟨#[108]⟩, .pointer (some ⟨g, 2, none⟩), .string ⟨#[120]⟩, .pointer (some ⟨g, 3, none⟩)]
theorem idx0 (g : Nat) (w : World) : (Instr.index 68 (marksV g) (.int .i64 0)).run Tryd.prog w = .ok (.agg #[.string ⟨#[107]⟩, .pointer (some ⟨g, 1, none⟩)]) w := by kernel_rfl
theorem idx1 (g : Nat) (w : World) : (Instr.index 68 (marksV g) (.int .i64 1)).run Tryd.prog w = .ok (.agg #[.string ⟨#[108]⟩, .pointer (some ⟨g, 2, none⟩)]) w := by kernel_rfl
theorem idx2 (g : Nat) (w : World) : (Instr.index 68 (marksV g) (.int .i64 2)).run Tryd.prog w = .ok (.agg #[.string ⟨#[120]⟩, .pointer (some ⟨g, 3, none⟩)]) w := by kernel_rfl

theorem baL_toList_ (s : List UInt8) : (baL s).toList = s := by rw [ByteArray.toList_eq]; rfl
theorem size_set (w : World) (p : Addr) (u : Value) : (w.setCell p u).heap.size = w.heap.size := by simp
theorem round_mem {w wr : World} {T R : Nat} {e : TypeId} {cs ds : List Value} (hT : Blk wr T e cs) (hR : Blk wr R e ds) (hne : R < T) (hb : Below R w wr) (hw : R ≤ wr.heap.size) (j : Nat) (u : Value) (o : Obj) :
    Blk ((wr.setCell ⟨T, j, none⟩ u).alloc o).drew T e (cs.set j u) ∧ Blk ((wr.setCell ⟨T, j, none⟩ u).alloc o).drew R e ds ∧ Below R w ((wr.setCell ⟨T, j, none⟩ u).alloc o).drew :=
  ⟨(hT.set_ j u).alloc o, (hR.far (by show T ≠ R; omega) u).alloc o, ((hb.setCell (by show R ≤ T; omega) u).alloc (by rw [size_set]; exact hw) o).drew⟩

/-- What Parse makes of a text. -/
def parseT (base : Int) (rest : List UInt8) : Option Ty := if (stT base rest 3).1 = [] ∧ (stT base rest 3).2.ok = true then some (stT base rest 3).2 else none
def parseP (l : List UInt8) : Option Ty := if (cutC 43 l).2.2 = true ∧ (cutC 43 l).2.1 = [] then none else parseT (baseOf (cutC 43 l).1) (cutC 43 l).2.1

set_option maxRecDepth 100000 in
set_option maxHeartbeats 2000000 in
theorem parse_main (s : ByteArray) (w : World) (hs : s.size ≤ maxLen) (name rest : List UInt8) (mk : Bool) (hcut : cutC 43 s.data.toList = (name, rest, mk)) (hq : mk = true → rest ≠ []) :
    Calls Tryd.prog 18 #[.string s] w fun e w' => e = .returned (parseV (parseT (baseOf name) rest)) ∧ Below w.heap.size w w' := by
  have H := Lib.hid (strCut_any s (w.alloc (.cells #[.int .i64 0, .bool false, .bool false, .bool false] 27)) hs)
  rw [hcut] at H
  clear hcut
  go_enter Tryd.func18, Tryd.ntmps18
  go_wp2_with fail
  refine H.out.mono ?_
  rintro e w1 ⟨rfl, hb1⟩
  have hR1 := (blk_new w [.int .i64 0, .bool false, .bool false, .bool false] 27).below hb1 (by simp)
  have hbw1 : Below w.heap.size w w1 := ((Below.refl _ _).alloc (Nat.le_refl _) _).trans (hb1.mono (by simp))
  clear hb1
  go_wp2_with fail
  refine (bases_any _).mono ?_
  rintro e w2 ⟨rfl, hm, hb2⟩
  have hlt1 := hR1.lt
  have hT2 := (blk_new w1 [.int .i64 0, .bool false, .bool false, .bool false] 27).below hb2 (by simp)
  have hR2 := (hR1.alloc (.cells #[.int .i64 0, .bool false, .bool false, .bool false] 27)).below hb2 (by simp; omega)
  have hbw2 : Below w.heap.size w w2 := (hbw1.alloc hbw1.size _).trans (hb2.mono (by have := hbw1.size; simp; omega))
  have hsa : (w1.alloc (.cells #[.int .i64 0, .bool false, .bool false, .bool false] 27)).heap.size = w1.heap.size + 1 := by simp
  rw [hsa] at hm
  clear hsa
  have hlook := fun n => base_look (hm.drewN n) name
  have hlook1 := base_look hm name
  obtain ⟨y0, y1, y2, y3, z0, z1, z2, z3⟩ := box4 hT2
  obtain ⟨x0, x1, x2, x3, v0, v1, v2, v3⟩ := box4 hR2
  have hlt2 := hT2.lt
  have hm' := Lib.hid hm
  have HL := Lib.hid (Nat.ne_of_lt hlt1)
  clear hm hb2
  have e1 : mk = true → (baL rest).toList.isEmpty = false := fun h => by rw [baL_toList_]; simpa using hq h
  have e2 : mk = true → ¬ (baL rest).toList = [] := fun h => by rw [baL_toList_]; exact hq h
  clear hq
  cases mk
  all_goals
    first
      | (have e1' := e1 rfl; have e2' := e2 rfl; clear e1 e2)
      | clear e1 e2
    go_wp2_with fail
    refine (marks_any _ _).mono ?_
    rintro e w3 ⟨rfl, hb3⟩
    go_wp2_with fail
    have hT3 : Blk w3 w1.heap.size 27 (stT (baseOf name) rest 0).2.cells := (hT2.set_ 0 _).below hb3 (by simp; omega)
    have hR3 : Blk w3 w.heap.size 27 [.int .i64 0, .bool false, .bool false, .bool false] := (hR2.far (by simp; omega) _).below hb3 (by simp; omega)
    have hbw3 : Below w.heap.size w w3 := (hbw2.setCell (by simp; omega) _).trans (hb3.mono (by have := hbw2.size; simp; omega))
    clear x0 x1 x2 x3 y0 y1 y2 y3 v0 v1 v2 v3 z0 z1 z2 z3 hlook hlook1 hb3
    go_loopw [5, 27] (fun v i wr => ∃ k : Nat, k ≤ 3 ∧ i = .int .i64 k ∧ v = .string (baL (stT (baseOf name) rest k).1) ∧ Blk wr w1.heap.size 27 (stT (baseOf name) rest k).2.cells ∧ Blk wr w.heap.size 27 [.int .i64 0, .bool false, .bool false, .bool false] ∧ Below w.heap.size w wr) (fun _ i _ => 3 - (intOf i).toNat)
    case atStart => exact ⟨0, by omega, rfl, rfl, hT3, hR3, hbw3⟩
    case round =>
      obtain ⟨k, hk, rfl, rfl, hT, hR, hb⟩ := hrel
      have hk' : k = 0 ∨ k = 1 ∨ k = 2 ∨ k = 3 := by omega
      rcases hk' with rfl | rfl | rfl | rfl
      · obtain ⟨y0, y1, y2, y3, z0, z1, z2, z3⟩ := box4 hT
        have i0 := idx0 w1.heap.size
        unfold marksV at i0
        have hl := hT.lt
        go_wp2_with fail
        go_region_with (go_at_call 45; refine (cutH_any _ _ _).mono ?_; rintro e w' ⟨rfl, rfl⟩)
        all_goals go_wp2_with fail
        all_goals
          obtain ⟨m1, m2, m3⟩ := round_mem hT hR hlt1 hb hb.size 1 (.bool (cutH 107 (stT (baseOf name) rest 0).1).2) (.cells #[.string ⟨#[107]⟩, .pointer (some ⟨w1.heap.size, 1, none⟩)] 67)
          exact ⟨⟨1, by omega, rfl, rfl, m1, m2, m3⟩, by decide⟩
      · obtain ⟨y0, y1, y2, y3, z0, z1, z2, z3⟩ := box4 hT
        have i0 := idx1 w1.heap.size
        unfold marksV at i0
        have hl := hT.lt
        go_wp2_with fail
        go_region_with (go_at_call 45; refine (cutH_any _ _ _).mono ?_; rintro e w' ⟨rfl, rfl⟩)
        all_goals go_wp2_with fail
        all_goals
          obtain ⟨m1, m2, m3⟩ := round_mem hT hR hlt1 hb hb.size 2 (.bool (cutH 108 (stT (baseOf name) rest 1).1).2) (.cells #[.string ⟨#[108]⟩, .pointer (some ⟨w1.heap.size, 2, none⟩)] 67)
          exact ⟨⟨2, by omega, rfl, rfl, m1, m2, m3⟩, by decide⟩
      · obtain ⟨y0, y1, y2, y3, z0, z1, z2, z3⟩ := box4 hT
        have i0 := idx2 w1.heap.size
        unfold marksV at i0
        have hl := hT.lt
        go_wp2_with fail
        go_region_with (go_at_call 45; refine (cutH_any _ _ _).mono ?_; rintro e w' ⟨rfl, rfl⟩)
        all_goals go_wp2_with fail
        all_goals
          obtain ⟨m1, m2, m3⟩ := round_mem hT hR hlt1 hb hb.size 3 (.bool (cutH 120 (stT (baseOf name) rest 2).1).2) (.cells #[.string ⟨#[120]⟩, .pointer (some ⟨w1.heap.size, 3, none⟩)] 67)
          exact ⟨⟨3, by omega, rfl, rfl, m1, m2, m3⟩, by decide⟩
      · obtain ⟨y0, y1, y2, y3, z0, z1, z2, z3⟩ := box4 hT
        obtain ⟨x0, x1, x2, x3, v0, v1, v2, v3⟩ := box4 hR
        have HP := Lib.hid (show parseT (baseOf name) rest = if (stT (baseOf name) rest 3).1 = [] ∧ (stT (baseOf name) rest 3).2.ok = true then some (stT (baseOf name) rest 3).2 else none from rfl)
        have hl := hT.lt
        have hl2 := hR.lt
        generalize stT (baseOf name) rest 3 = st at *
        obtain ⟨r3, tb, tk, tl, tx⟩ := st
        by_cases hr3 : r3 = []
        · have e1 : (baL r3).toList.isEmpty = true := by rw [baL_toList_, hr3]; rfl
          have e2 : (baL r3).toList = [] := by rw [baL_toList_, hr3]
          have HR3 := Lib.hid hr3
          clear hr3
          cases hok : tyOk tb tk tx
          · have HO := Lib.hid hok
            have hfin := Lib.hid (show parseT (baseOf name) rest = none by rw [HP.out, if_neg]; rintro ⟨-, h⟩; have h' : tyOk tb tk tx = true := h; rw [hok] at h'; cases h')
            have HC := Lib.hid (fun W => check_any tb tk tl tx W)
            rw [hok] at HC
            clear hok
            go_wp2_with fail
            refine (HC.out _).mono ?_
            rintro e w5 ⟨rfl, hb5⟩
            have hR5 := hR.below hb5 (by omega)
            have hb6 := below_next hb hb5
            clear x0 x1 x2 x3 v0 v1 v2 v3 y0 y1 y2 y3 z0 z1 z2 z3
            obtain ⟨x0, x1, x2, x3, v0, v1, v2, v3⟩ := box4 hR5
            have hl5 := hR5.lt
            go_wp2_with fail
            have hB' := box_store hR5 (.int .i64 0) (.bool false) (.bool false) (.bool false)
            have hBel := below_store hb6 (Nat.le_refl _) (.int .i64 0) (.bool false) (.bool false) (.bool false)
            generalize (((w5.setCell ⟨w.heap.size, 0, none⟩ (.int .i64 0)).setCell ⟨w.heap.size, 1, none⟩ (.bool false)).setCell ⟨w.heap.size, 2, none⟩ (.bool false)).setCell ⟨w.heap.size, 3, none⟩ (.bool false) = W' at hB' hBel ⊢
            clear x0 x1 x2 x3 v0 v1 v2 v3
            obtain ⟨x0, x1, x2, x3, _, _, _, _⟩ := box4 hB'
            refine bodyPost_ret (v := .tuple #[.agg #[.int .i64 0, .bool false, .bool false, .bool false], .int .i64 90]) (by simp [results, Tryd.results18, go_sem, x0, x1, x2, x3]) rfl ⟨?_, hBel⟩
            rw [hfin.out]; rfl
          · have HO := Lib.hid hok
            have hfin := Lib.hid (show parseT (baseOf name) rest = some ⟨tb, tk, tl, tx⟩ by rw [HP.out, if_pos]; exact ⟨HR3.out, hok⟩)
            have HC := Lib.hid (fun W => check_any tb tk tl tx W)
            rw [hok] at HC
            clear hok
            go_wp2_with fail
            refine (HC.out _).mono ?_
            rintro e w5 ⟨rfl, hb5⟩
            have hR5 := hR.below hb5 (by omega)
            have hT5 := hT.below hb5 (by omega)
            have hb6 := below_next hb hb5
            clear x0 x1 x2 x3 v0 v1 v2 v3 y0 y1 y2 y3 z0 z1 z2 z3
            obtain ⟨x0, x1, x2, x3, v0, v1, v2, v3⟩ := box4 hR5
            obtain ⟨y0, y1, y2, y3, z0, z1, z2, z3⟩ := box4 hT5
            have hl5 := hT5.lt
            go_wp2_with fail
            have hB' := box_store hR5 (.int .i64 tb) (.bool tk) (.bool tl) (.bool tx)
            have hBel := below_store hb6 (Nat.le_refl _) (.int .i64 tb) (.bool tk) (.bool tl) (.bool tx)
            generalize (((w5.setCell ⟨w.heap.size, 0, none⟩ (.int .i64 tb)).setCell ⟨w.heap.size, 1, none⟩ (.bool tk)).setCell ⟨w.heap.size, 2, none⟩ (.bool tl)).setCell ⟨w.heap.size, 3, none⟩ (.bool tx) = W' at hB' hBel ⊢
            clear x0 x1 x2 x3 v0 v1 v2 v3 y0 y1 y2 y3 z0 z1 z2 z3
            obtain ⟨x0, x1, x2, x3, _, _, _, _⟩ := box4 hB'
            refine bodyPost_ret (v := .tuple #[.agg #[.int .i64 tb, .bool tk, .bool tl, .bool tx], .int .i64 0]) (by simp [results, Tryd.results18, go_sem, x0, x1, x2, x3]) rfl ⟨?_, hBel⟩
            rw [hfin.out]; rfl
        · have e1 : (baL r3).toList.isEmpty = false := by rw [baL_toList_]; simpa using hr3
          have e2 : ¬ (baL r3).toList = [] := by rw [baL_toList_]; exact hr3
          have hfin := Lib.hid (show parseT (baseOf name) rest = none by rw [HP.out, if_neg]; rintro ⟨h, -⟩; exact hr3 h)
          clear hr3
          go_wp2_with fail
          have hB' := box_store hR (.int .i64 0) (.bool false) (.bool false) (.bool false)
          have hBel := below_store hb (Nat.le_refl _) (.int .i64 0) (.bool false) (.bool false) (.bool false)
          generalize (((wr.setCell ⟨w.heap.size, 0, none⟩ (.int .i64 0)).setCell ⟨w.heap.size, 1, none⟩ (.bool false)).setCell ⟨w.heap.size, 2, none⟩ (.bool false)).setCell ⟨w.heap.size, 3, none⟩ (.bool false) = W' at hB' hBel ⊢
          clear x0 x1 x2 x3 v0 v1 v2 v3
          obtain ⟨x0, x1, x2, x3, _, _, _, _⟩ := box4 hB'
          refine bodyPost_ret (v := .tuple #[.agg #[.int .i64 0, .bool false, .bool false, .bool false], .int .i64 90]) (by simp [results, Tryd.results18, go_sem, x0, x1, x2, x3]) rfl ⟨?_, hBel⟩
          rw [hfin.out]; rfl

end Go.Proofs.YtfifalpacagacaaDoor
