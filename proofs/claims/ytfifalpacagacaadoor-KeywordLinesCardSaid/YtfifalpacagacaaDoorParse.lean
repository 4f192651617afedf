/- The reference's Parse; filetype.Parse. -/
import Derived.Test.YtfifalpacagacaaDoorAll
import Derived.Test.YtfifalpacagacaaDoorParts
import Derived.Test.YtfifalpacagacaaDoorMap
namespace Go.Proofs.YtfifalpacagacaaDoor
open Go.RowKit
set_option linter.unusedVariables false

def parseL (l : List UInt8) : Option Ty := allTys.find? (fun t => textT t == l)
/-- A type, or none. -/
def parseV (o : Option Ty) : Value := match o with
  | some t => .tuple #[t.val, .int .i64 0]
  | none => .tuple #[zeroTy.val, .int .i64 90]

theorem find_first {l : List Ty} {p : Ty → Bool} {k : Nat} {t : Ty} (h : l[k]? = some t) (hp : p t = true) (hno : ∀ j, j < k → ∀ u, l[j]? = some u → p u = false) : l.find? p = some t := by
  induction l generalizing k with
  | nil => simp at h
  | cons a l ih =>
    cases k with
    | zero => simp at h; subst h; simp [hp]
    | succ k =>
      have h0 := hno 0 (by omega) a rfl
      rw [List.find?_cons, h0]
      exact ih (by simpa using h) (fun j hj u hu => hno (j + 1) (by omega) u (by simpa using hu))
theorem allTys_base : ∀ t ∈ allTys, 1 ≤ t.base ∧ t.base ≤ 3 := by decide +kernel

set_option maxHeartbeats 2000000 in
theorem refParse_any (s : ByteArray) (w : World) :
    Calls Tryd.prog 19 #[.string s] w fun e w' => e = .returned (parseV (parseL s.data.toList)) ∧ Below w.heap.size w w' := by
  go_enter Tryd.func19, Tryd.ntmps19
  go_wp2_with fail
  refine (all_any _).mono ?_
  rintro e w1 ⟨g, c, rfl, hg, hb1⟩
  have HG := Lib.hid hg
  clear hg
  go_wp2_with fail
  go_loopw [8] (fun i wr => ∃ k : Nat, k ≤ 14 ∧ i = .int .i64 k ∧ (∀ j (hj : j < k), ∀ t, allTys[j]? = some t → (textT t == s.data.toList) = false) ∧ Below w1.heap.size w1 wr) (fun i _ => 14 - (intOf i).toNat)
  case atStart => exact ⟨0, by omega, rfl, fun j hj => absurd hj (by omega), Below.refl _ _⟩
  case round =>
    obtain ⟨k, hk, rfl, hno, hbl⟩ := hrel
    have HN := Lib.hid hno
    clear hno
    have hbx : Blk wr w.heap.size 27 [.int .i64 0, .bool false, .bool false, .bool false] := ((blk_new w [.int .i64 0, .bool false, .bool false, .bool false] 27).below hb1 (by simp)).below hbl (by have := hb1.size; simp at this; omega)
    have hbw : Below w.heap.size w wr := (((Below.refl _ _).alloc (Nat.le_refl _) _).trans (hb1.mono (by simp))).trans (hbl.mono (by have := hb1.size; simp at this; omega))
    have hsz : w.heap.size < wr.heap.size := hbx.lt
    by_cases hlt : k < 14
    · obtain ⟨c0, c1, c2, c3⟩ := (HG.out.below hbl) k (by rw [allTys_eq]; exact hlt)
      have hg : allTys[k]? = some (allTys[k]'(by rw [allTys_eq]; exact hlt)) := List.getElem?_eq_getElem _
      have hb13 : 1 ≤ (allTys[k]'(by rw [allTys_eq]; exact hlt)).base ∧ (allTys[k]'(by rw [allTys_eq]; exact hlt)).base ≤ 3 := allTys_base _ (List.getElem_mem _)
      generalize allTys[k]'(by rw [allTys_eq]; exact hlt) = t at c0 c1 c2 c3 hg hb13
      obtain ⟨tb, tk, tl, tx⟩ := t
      have HGT := Lib.hid hg
      clear hg
      obtain ⟨hb1', hb3'⟩ := hb13
      go_wp2_with fail
      refine (refText_any _ _ _ _ _ hb1' hb3').mono ?_
      rintro e w2 ⟨rfl, hb2⟩
      have hb4 : Below wr.heap.size wr w2 := ((Below.refl _ _).alloc (Nat.le_refl _) _).trans (hb2.mono (by simp))
      have hbx2 := (blk_new wr [.int .i64 tb, .bool tk, .bool tl, .bool tx] 27).below hb2 (by simp)
      have hbx1 := hbx.below hb4 hsz
      have hsz2 : wr.heap.size < w2.heap.size := hbx2.lt
      obtain ⟨x0, x1, x2, x3, _, _, _, _⟩ := box4 hbx2
      obtain ⟨y0, y1, y2, y3, z0, z1, z2, z3⟩ := box4 hbx1
      clear c0 c1 c2 c3
      cases hq : (textT ⟨tb, tk, tl, tx⟩ == s.data.toList)
      · have hq' : (textT ⟨tb, tk, tl, tx⟩ == s.toList) = false := by rw [ByteArray.toList_eq]; exact hq
        have HQ := Lib.hid hq
        clear hq
        go_wp2_with fail
        go_roundw
        case rel => exact ⟨k + 1, by omega, by go_num, fun j hj t ht => by
                      by_cases hjk : j < k
                      · exact HN.out j hjk t ht
                      · obtain rfl : j = k := by omega
                        rw [HGT.out] at ht
                        injection ht with ht
                        subst ht
                        exact HQ.out, hbl.trans (hb4.mono hbl.size)⟩
        case measure => simp [intOf]; omega
      · have hq' : (textT ⟨tb, tk, tl, tx⟩ == s.toList) = true := by rw [ByteArray.toList_eq]; exact hq
        have HQ := Lib.hid hq
        clear hq
        go_wp2_with fail
        have hB' : Blk ((((w2.setCell ⟨w.heap.size, 0, none⟩ (.int .i64 tb)).setCell ⟨w.heap.size, 1, none⟩ (.bool tk)).setCell ⟨w.heap.size, 2, none⟩ (.bool tl)).setCell ⟨w.heap.size, 3, none⟩ (.bool tx)) w.heap.size 27 [.int .i64 tb, .bool tk, .bool tl, .bool tx] := (((hbx1.set_ 0 _).set_ 1 _).set_ 2 _).set_ 3 _
        have hBel : Below w.heap.size w ((((w2.setCell ⟨w.heap.size, 0, none⟩ (.int .i64 tb)).setCell ⟨w.heap.size, 1, none⟩ (.bool tk)).setCell ⟨w.heap.size, 2, none⟩ (.bool tl)).setCell ⟨w.heap.size, 3, none⟩ (.bool tx)) := ((((below_next hbw hb4).setCell (Nat.le_refl _) _).setCell (Nat.le_refl _) _).setCell (Nat.le_refl _) _).setCell (Nat.le_refl _) _
        generalize (((w2.setCell ⟨w.heap.size, 0, none⟩ (.int .i64 tb)).setCell ⟨w.heap.size, 1, none⟩ (.bool tk)).setCell ⟨w.heap.size, 2, none⟩ (.bool tl)).setCell ⟨w.heap.size, 3, none⟩ (.bool tx) = W' at hB' hBel ⊢
        clear x0 x1 x2 x3 y0 y1 y2 y3 z0 z1 z2 z3 hq'
        obtain ⟨x0, x1, x2, x3, _, _, _, _⟩ := box4 hB'
        have hfin : parseL s.data.toList = some ⟨tb, tk, tl, tx⟩ := find_first HGT.out (by exact HQ.out) (fun j hj t ht => HN.out j hj t ht)
        refine bodyPost_ret (v := .tuple #[.agg #[.int .i64 tb, .bool tk, .bool tl, .bool tx], .int .i64 0]) (by simp [results, Tryd.results19, go_sem, x0, x1, x2, x3]) rfl ⟨?_, hBel⟩
        rw [hfin]; rfl
    · obtain ⟨y0, y1, y2, y3, z0, z1, z2, z3⟩ := box4 hbx
      have hfin : parseL s.data.toList = none := by
        unfold parseL
        rw [List.find?_eq_none]
        intro t ht
        obtain ⟨j, hj, e⟩ := List.getElem_of_mem ht
        have := HN.out j (by rw [allTys_eq] at hj; simp at hj; omega) t (by rw [← e]; exact List.getElem?_eq_getElem hj)
        simpa using this
      have HF := Lib.hid hfin
      clear hfin
      go_wp2_with fail
      have hB' : Blk ((((wr.setCell ⟨w.heap.size, 0, none⟩ (.int .i64 0)).setCell ⟨w.heap.size, 1, none⟩ (.bool false)).setCell ⟨w.heap.size, 2, none⟩ (.bool false)).setCell ⟨w.heap.size, 3, none⟩ (.bool false)) w.heap.size 27 [.int .i64 0, .bool false, .bool false, .bool false] := (((hbx.set_ 0 _).set_ 1 _).set_ 2 _).set_ 3 _
      have hBel : Below w.heap.size w ((((wr.setCell ⟨w.heap.size, 0, none⟩ (.int .i64 0)).setCell ⟨w.heap.size, 1, none⟩ (.bool false)).setCell ⟨w.heap.size, 2, none⟩ (.bool false)).setCell ⟨w.heap.size, 3, none⟩ (.bool false)) := (((hbw.setCell (Nat.le_refl _) _).setCell (Nat.le_refl _) _).setCell (Nat.le_refl _) _).setCell (Nat.le_refl _) _
      generalize (((wr.setCell ⟨w.heap.size, 0, none⟩ (.int .i64 0)).setCell ⟨w.heap.size, 1, none⟩ (.bool false)).setCell ⟨w.heap.size, 2, none⟩ (.bool false)).setCell ⟨w.heap.size, 3, none⟩ (.bool false) = W' at hB' hBel ⊢
      clear y0 y1 y2 y3 z0 z1 z2 z3
      obtain ⟨x0, x1, x2, x3, _, _, _, _⟩ := box4 hB'
      refine bodyPost_ret (v := .tuple #[.agg #[.int .i64 0, .bool false, .bool false, .bool false], .int .i64 90]) (by simp [results, Tryd.results19, go_sem, x0, x1, x2, x3]) rfl ⟨?_, hBel⟩
      rw [HF.out]; rfl

end Go.Proofs.YtfifalpacagacaaDoor
