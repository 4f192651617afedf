/- The reference's All: the list of all types. -/
import Derived.Test.YtfifalpacagacaaDoorTy
import Derived.Test.YtfifalpacagacaaDoorBase
namespace Go.Proofs.YtfifalpacagacaaDoor
open Go.RowKit
set_option linter.unusedVariables false

def mkTy (k m : Nat) : Ty := ⟨k + 1, decide (0 < bits BinOp.and IntKind.i64 (m : Int) 1), decide (0 < bits BinOp.and IntKind.i64 (m : Int) 2), decide (0 < bits BinOp.and IntKind.i64 (m : Int) 4)⟩
/-- The j-th candidate. -/
def cand (j : Nat) : Ty := mkTy (j / 8) (j % 8)
def tysTo (j : Nat) : List Ty := ((List.range j).map cand).filter Ty.ok
def tyCells (l : List Ty) : List Value := l.flatMap Ty.cells
def allTys : List Ty := tysTo 24
theorem allTys_eq : allTys = [⟨1, false, false, false⟩, ⟨1, true, false, false⟩, ⟨1, false, true, false⟩, ⟨1, true, true, false⟩, ⟨1, false, false, true⟩, ⟨1, true, false, true⟩, ⟨1, false, true, true⟩, ⟨1, true, true, true⟩,
  ⟨2, false, false, false⟩, ⟨2, false, true, false⟩, ⟨2, false, false, true⟩, ⟨2, false, true, true⟩, ⟨3, false, false, false⟩, ⟨3, false, true, false⟩] := by decide +kernel
theorem cand_at (k m : Nat) (hm : m < 8) : cand (8 * k + m) = mkTy k m := by
  unfold cand
  rw [show (8 * k + m) / 8 = k by omega, show (8 * k + m) % 8 = m by omega]
theorem tysTo_succ (j : Nat) : tysTo (j + 1) = tysTo j ++ (if (cand j).ok = true then [cand j] else []) := by
  unfold tysTo
  rw [List.range_succ, List.map_append, List.filter_append]
  congr 1
  simp only [List.map_cons, List.map_nil, List.filter_cons, List.filter_nil]
theorem tysTo_len (j : Nat) : (tysTo j).length ≤ j := by
  unfold tysTo
  exact Nat.le_trans (List.length_filter_le _ _) (by simp)
theorem tyCells_app (a b : List Ty) : tyCells (a ++ b) = tyCells a ++ tyCells b := by simp [tyCells]

theorem eTy : ElemOk Tryd.prog 46 27 4 16 := elemOk_of (z := zeroTy.val) Tryd.underlying46 (by kernel_rfl) rfl (by decide)

def AllRel (w0 : World) (j : Nat) (v : Value) (w' : World) : Prop := w'.ownsRow w0.heap.size 27 4 v (tysTo j).length (tyCells (tysTo j)) ∧ Below w0.heap.size w0 w'
theorem AllRel.skip {w0 w' w'' : World} {k m : Nat} {v : Value} (hm : m < 8) (h : AllRel w0 (8 * k + m) v w') (ho : (mkTy k m).ok = false) (hb : Below w'.heap.size w' w'') : AllRel w0 (8 * k + (m + 1)) v w'' := by
  obtain ⟨h1, h2⟩ := h
  unfold AllRel
  rw [← Nat.add_assoc, tysTo_succ, cand_at k m hm, ho, if_neg (by simp), List.append_nil]
  exact ⟨own_below h1 hb, h2.trans (hb.mono h2.size)⟩
theorem AllRel.push {w0 w' : World} {k m : Nat} {v : Value} (hm : m < 8) (ho : (mkTy k m).ok = true)
    (h1 : w'.ownsRow w0.heap.size 27 4 v ((tysTo (8 * k + m)).length + 1) (tyCells (tysTo (8 * k + m)) ++ (mkTy k m).cells)) (hb : Below w0.heap.size w0 w') : AllRel w0 (8 * k + (m + 1)) v w' := by
  unfold AllRel
  rw [← Nat.add_assoc, tysTo_succ, cand_at k m hm, ho, if_pos rfl, tyCells_app, List.length_append]
  refine ⟨?_, hb⟩
  simpa [tyCells] using h1

/-- The cells of block g hold these types. -/
def TysAt (w : World) (g : Nat) (l : List Ty) : Prop := ∀ k (hk : k < l.length), w.cell? ⟨g, k * 4, none⟩ = some (.int .i64 l[k].base) ∧ w.cell? ⟨g, k * 4 + 1, none⟩ = some (.bool l[k].k) ∧ w.cell? ⟨g, k * 4 + 2, none⟩ = some (.bool l[k].l) ∧ w.cell? ⟨g, k * 4 + 3, none⟩ = some (.bool l[k].x)
theorem TysAt.below {w w' : World} {g : Nat} {l : List Ty} (h : TysAt w g l) (hb : Below w.heap.size w w') : TysAt w' g l := fun k hk => by
  obtain ⟨a, b, c, d⟩ := h k hk
  exact ⟨cell_below a hb (cell_lt a), cell_below b hb (cell_lt b), cell_below c hb (cell_lt c), cell_below d hb (cell_lt d)⟩
theorem tyCells_get (l : List Ty) (k : Nat) (hk : k < l.length) : (tyCells l)[k * 4]? = some (.int .i64 l[k].base) ∧ (tyCells l)[k * 4 + 1]? = some (.bool l[k].k) ∧ (tyCells l)[k * 4 + 2]? = some (.bool l[k].l) ∧ (tyCells l)[k * 4 + 3]? = some (.bool l[k].x) := by
  induction l generalizing k with
  | nil => simp at hk
  | cons t l ih =>
    cases k with
    | zero => simp [tyCells, Ty.cells]
    | succ k =>
      have h := ih k (by simpa using hk)
      have e : tyCells (t :: l) = t.cells ++ tyCells l := by simp [tyCells]
      have hc : t.cells.length = 4 := rfl
      rw [e, List.getElem?_append_right (by omega), List.getElem?_append_right (by omega), List.getElem?_append_right (by omega), List.getElem?_append_right (by omega), hc,
        show (k + 1) * 4 - 4 = k * 4 by omega, show (k + 1) * 4 + 1 - 4 = k * 4 + 1 by omega, show (k + 1) * 4 + 2 - 4 = k * 4 + 2 by omega, show (k + 1) * 4 + 3 - 4 = k * 4 + 3 by omega]
      simpa using h
theorem tysAt_of_own {w : World} {B g c : Nat} {l : List Ty} (h : w.ownsRow B 27 4 (.slice (some ⟨g, 0, none⟩) l.length c) l.length (tyCells l)) : TysAt w g l := fun k hk => by
  obtain ⟨a, b, c, d⟩ := tyCells_get l k hk
  exact ⟨(h.cellAt _ (by omega)).trans a, (h.cellAt _ (by omega)).trans b, (h.cellAt _ (by omega)).trans c, (h.cellAt _ (by omega)).trans d⟩

set_option maxHeartbeats 2000000 in
theorem all_any (w : World) :
    Calls Tryd.prog 29 #[] w fun e w' => ∃ g c, e = .returned (.slice (some ⟨g, 0, none⟩) 14 c) ∧ TysAt w' g allTys ∧ Below w.heap.size w w' := by
  go_enter Tryd.func29, Tryd.ntmps29
  go_wp2_with fail
  go_loopw [1, 2] (fun v b w' => ∃ k : Nat, k ≤ 3 ∧ b = .int .i64 (k + 1) ∧ AllRel w (8 * k) v w') (fun _ b _ => 4 - (intOf b).toNat)
  case atStart => exact ⟨0, by omega, rfl, World.ownsRow_nil _ _ _ _, Below.refl _ _⟩
  case round =>
    obtain ⟨k, hk, rfl, hr⟩ := hrel
    by_cases hlt : k < 3
    · have hd : decide ((k : Int) + 1 ≤ 3) = true := by simp; omega
      go_wp2_with fail
      obtain ⟨wo, rfl⟩ : ∃ wo : World, wo = wr := ⟨_, rfl⟩
      go_loopw [1, 3] (fun v b w' => ∃ m : Nat, m ≤ 8 ∧ b = .int .i64 m ∧ AllRel w (8 * k + m) v w') (fun _ b _ => 8 - (intOf b).toNat)
      case atStart => exact ⟨0, by omega, rfl, hr⟩
      case round =>
        obtain ⟨m, hm, rfl, hr⟩ := hrel
        by_cases hlt2 : m < 8
        · have hty : mkTy k m = ⟨k + 1, decide (0 < bits BinOp.and IntKind.i64 (m : Int) 1), decide (0 < bits BinOp.and IntKind.i64 (m : Int) 2), decide (0 < bits BinOp.and IntKind.i64 (m : Int) 4)⟩ := rfl
          have HT := Lib.hid hty
          clear hty
          go_wp2_with fail
          generalize decide (0 < bits BinOp.and IntKind.i64 (m : Int) 1) = tk at HT ⊢
          generalize decide (0 < bits BinOp.and IntKind.i64 (m : Int) 2) = tl at HT ⊢
          generalize decide (0 < bits BinOp.and IntKind.i64 (m : Int) 4) = tx at HT ⊢
          refine (refCheck_any _ _ _ _ _).mono ?_
          rintro e w1 ⟨rfl, hb1⟩
          have hb2 : Below wr.heap.size wr w1 := ((Below.refl _ _).alloc (Nat.le_refl _) _).trans (hb1.mono (by simp))
          have hcell := fun o => hb1.cell (p := ⟨wr.heap.size, o, none⟩) (by simp)
          cases hok : tyOk ((k : Int) + 1) tk tx
          · have HO := Lib.hid hok
            have HR := Lib.hid hr
            clear hr hok
            go_wp2_with fail
            go_roundw
            case rel => exact ⟨m + 1, by omega, by go_num, HR.out.skip hlt2 (by rw [HT.out]; exact HO.out) hb2⟩
            case measure => simp [intOf]; omega
          · have HO := Lib.hid hok
            have HR := Lib.hid hr
            have hl := tysTo_len (8 * k + m)
            clear hr hok
            have HB2 := below_step HR.out.2 HR.out.2.size hb2
            go_wp2_with (at_builtin; refine wpList_push rfl rfl eTy ((own_below HR.out.1 hb2).alloc _) rfl (row_new _ [.int .i64 ((k : Int) + 1), .bool tk, .bool tl, .bool tx] _ 4 1 rfl (by decide) _ (by simp)) rfl (HB2.alloc HB2.size _) (HB2.alloc HB2.size _).size (by simp [Value.oneCell']) (by omega) (by unfold maxLen; omega) ?_; intro A' c' w2 hown1 hbl1)
            go_roundw
            case rel => exact ⟨m + 1, by omega, by go_num, AllRel.push hlt2 (by rw [HT.out]; exact HO.out) (by rw [HT.out]; exact hown1) hbl1⟩
            case measure => simp [intOf]; omega
        · go_wp2_with fail
          go_roundw
          case rel => exact ⟨k + 1, by omega, by go_num, by obtain rfl : m = 8 := by omega
                                                            exact hr⟩
          case measure => simp [intOf]; omega
    · obtain rfl : k = 3 := by omega
      obtain ⟨h1, h2⟩ := hr
      obtain ⟨g, c, rfl⟩ := own_some h1 (show 0 < allTys.length by rw [allTys_eq]; decide)
      go_wp2_with fail
      go_ret
      exact ⟨g, c, rfl, tysAt_of_own h1, h2⟩

end Go.Proofs.YtfifalpacagacaaDoor
