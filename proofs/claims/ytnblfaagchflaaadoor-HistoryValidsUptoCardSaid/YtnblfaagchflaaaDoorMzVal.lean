/- history.Valid at any depot. -/
import Derived.Test.YtnblfaagchflaaaDoorMgw14
import Derived.Test.YtnblfaagchflaaaDoorMzVal1
namespace Go.Proofs.YtnblfaagchflaaaDoor
open Go.RowKit
set_option linter.unusedVariables false
set_option linter.unusedSimpArgs false

def ValidPost (w : World) (D : Dep) (e : Ending) (w' : World) : Prop := ∃ b, e = .returned (.bool b) ∧ Below w.heap.size w w' ∧ (b = true → Good D) ∧ (b = false → Bad D)
abbrev nilV : Value := .slice none 0 0
/-- The map of the records of each change, whose slices are rows of their own. -/
structure RMp (w : World) (base gr : Nat) (F : Int → Option Value) (rows : Int → List Rcd) : Prop where
  map : FMap (fun n : Int => Value.int .i64 n) (fun v : Value => v) w gr F
  low : gr < base
  own : ∀ n, w.ownsRow base 50 6 ((F n).getD nilV) (rows n).length ((rows n).flatMap Rcd.cells)
  apart : ∀ n m, n ≠ m → ∀ g, ((F n).getD nilV).ownBlock = some g → ((F m).getD nilV).ownBlock ≠ some g
theorem RMp.below {w w' : World} {base gr : Nat} {F : Int → Option Value} {rows : Int → List Rcd} (h : RMp w base gr F rows) (hb : Below w.heap.size w w') : RMp w' base gr F rows :=
  ⟨h.map.below hb, h.low, fun n => own_below (h.own n) hb, h.apart⟩
theorem RMp.look {w : World} {base gr : Nat} {F : Int → Option Value} {rows : Int → List Rcd} (h : RMp w base gr F rows) (n : Int) : (Instr.lookup 48 (.map (some gr)) (.int .i64 n) false).run Tryd.prog w = .ok ((F n).getD nilV) w := by
  rw [FMap.lookup h.map (keyOk_int Tryd.underlying3) Tryd.underlying48 (Tryd.zeroValue23 w) n false]
  unfold lookV
  rw [if_neg (by decide)]
  cases F n <;> rfl
theorem RMp.push {w X w5 : World} {base gr : Nat} {F : Int → Option Value} {rows : Int → List Rcd} (h : RMp w base gr F rows) (hX : Below w.heap.size w X) (n : Int) (r : Rcd) {v : Value} (hbase : base ≤ w.heap.size)
    (ho : w5.ownsRow base 50 6 v ((rows n).length + 1) ((rows n).flatMap Rcd.cells ++ r.cells)) (hg : X.grownBy w5 ((F n).getD nilV).ownBlock) (hw : v.ownBlock = ((F n).getD nilV).ownBlock ∨ v.ownBlock = some X.heap.size) :
    ∃ w6, (Instr.mapUpdate 48 (.map (some gr)) (.int .i64 n) v).run Tryd.prog w5 = .ok () w6 ∧ RMp w6 base gr (upd F n v) (fun m => if m = n then rows n ++ [r] else rows m) ∧ w5.grownBy w6 (some gr) := by
  have hsz := hX.size
  have hlow := h.low
  have hX2 := h.below hX
  have hm5 : FMap (fun n : Int => Value.int .i64 n) (fun v : Value => v) w5 gr F := hX2.map.grown hg (fun e => by have := ((hX2.own n).lt gr e.symm).1; omega)
  obtain ⟨w6, h1, h2, h3, h4⟩ := hm5.update (keyOk_int Tryd.underlying3) Tryd.underlying48 n v
  refine ⟨w6, h1, ⟨h2, hlow, fun m => ?_, ?_⟩, h3⟩
  · by_cases e : m = n
    · subst e
      rw [if_pos rfl]
      have hu : upd F m v m = some v := by unfold upd; simp
      rw [hu, List.length_append, List.flatMap_append, List.flatMap_cons, List.flatMap_nil, List.append_nil]
      refine own_grown ho h3 fun x hx hh => ?_
      injection hh with hh
      have := (ho.lt x hx).1
      omega
    · rw [if_neg e]
      have hu : upd F n v m = F m := by unfold upd; simp [e]
      rw [hu]
      refine own_grown (own_grown (hX2.own m) hg fun x hx hh => ?_) h3 fun x hx hh => ?_
      · exact h.apart m n e x hx hh
      · injection hh with hh
        have := ((hX2.own m).lt x hx).1
        omega
  · intro a b hab g ha hb
    by_cases e1 : a = n
    · subst e1
      have e2 : b ≠ a := fun h => hab h.symm
      have hua : upd F a v a = some v := by unfold upd; simp
      have hub : upd F a v b = F b := by unfold upd; simp [e2]
      rw [hua] at ha
      rw [hub] at hb
      rcases hw with hw | hw
      · rw [show (some v).getD nilV = v from rfl, hw] at ha
        exact h.apart a b hab g ha hb
      · rw [show (some v).getD nilV = v from rfl, hw] at ha
        injection ha with ha
        have := ((h.own b).lt g hb).2
        omega
    · have hua : upd F n v a = F a := by unfold upd; simp [e1]
      rw [hua] at ha
      by_cases e2 : b = n
      · subst e2
        have hub : upd F b v b = some v := by unfold upd; simp
        rw [hub] at hb
        rcases hw with hw | hw
        · rw [show (some v).getD nilV = v from rfl, hw] at hb
          exact h.apart a b hab g ha hb
        · rw [show (some v).getD nilV = v from rfl, hw] at hb
          injection hb with hb
          have := ((h.own a).lt g ha).2
          omega
      · have hub : upd F n v b = F b := by unfold upd; simp [e2]
        rw [hub] at hb
        exact h.apart a b hab g ha hb
def rowsOf (D : Dep) (j : Nat) (n : Int) : List Rcd := (D.recs.take j).filter (fun r => decide (chgOf D.revs (r.to, r.num) = some n))
theorem rowsOf_next (D : Dep) (j : Nat) (h : j < D.recs.length) (n : Int) (hn : chgOf D.revs (D.recs[j].to, D.recs[j].num) = some n) : rowsOf D (j + 1) = fun m => if m = n then rowsOf D j n ++ [D.recs[j]] else rowsOf D j m := by
  funext m
  unfold rowsOf
  rw [List.take_succ_eq_append_getElem h, List.filter_append, List.filter_cons, hn]
  by_cases e : m = n
  · subst e; simp
  · rw [if_neg e, if_neg (by simpa using fun h => e h.symm)]; simp
theorem rowsOf_all (D : Dep) (n : Int) : rowsOf D D.recs.length n = recsAt D n := by unfold rowsOf recsAt; rw [List.take_length]
theorem rowsOf_len (D : Dep) (j : Nat) (n : Int) : (rowsOf D j n).length ≤ D.recs.length := by
  have h := List.length_filter_le (fun r : Rcd => decide (chgOf D.revs (r.to, r.num) = some n)) (D.recs.take j)
  unfold rowsOf
  rw [List.length_take] at h
  omega
theorem chgOf_next (revs : List Rev) (k : Nat) (h : k < revs.length) : chgOf (revs.take (k + 1)) = upd (chgOf (revs.take k)) (revs[k].path, revs[k].num) revs[k].chg := by
  unfold chgOf
  rw [List.take_succ_eq_append_getElem h, List.foldl_append]
  rfl
theorem takeWhile_stop {α : Type} (p : α → Bool) (a b : List α) (ha : ∀ x ∈ a, p x = true) (hb : ∀ x l, b = x :: l → p x = false) : (a ++ b).takeWhile p = a := by
  rw [List.takeWhile_append_of_pos ha]
  cases b with
  | nil => simp
  | cons x b => rw [List.takeWhile_cons_of_neg (by rw [hb x b rfl]; simp)]; simp
/-- The run of the revisions of one change. -/
theorem run_take (revs : List Rev) (k j : Nat) (n : Int) (hkj : k ≤ j) (hj : j ≤ revs.length) (h : ∀ i (hi : i < revs.length), k ≤ i → i < j → revs[i].chg = n) (he : j = revs.length ∨ ∃ hl : j < revs.length, revs[j].chg ≠ n) : runAt revs k n = (revs.drop k).take (j - k) := by
  unfold runAt
  conv => lhs; rw [← List.take_append_drop (j - k) (revs.drop k)]
  refine takeWhile_stop _ _ _ (fun x hx => ?_) (fun x l hx => ?_)
  · obtain ⟨i, hi, rfl⟩ := List.mem_iff_getElem.1 hx
    rw [List.length_take, List.length_drop] at hi
    rw [List.getElem_take, List.getElem_drop]
    exact decide_eq_true (h _ (by omega) (by omega) (by omega))
  · rw [List.drop_drop, show k + (j - k) = j by omega] at hx
    rcases he with rfl | ⟨hl, hne⟩
    · rw [List.drop_length] at hx; cases hx
    · rw [List.drop_eq_getElem_cons hl] at hx
      injection hx with hx _
      rw [← hx]
      exact decide_eq_false hne

set_option maxRecDepth 100000 in
set_option maxHeartbeats 4000000 in
theorem editOf_gen (revs : List Rev) (k : Nat) (dv dr : Value) (w : World) (hR : Revs w dv revs) (hk : k < revs.length) (x : Rev) (hx : revs[k] = x) :
    Calls Tryd.prog 9 #[.agg #[dv, dr], .int .i64 k] w fun e w' => e = .returned (.agg #[.string (edtW x).path, .int .i64 (edtW x).act, .int .i64 (edtW x).ty.base, .bool (edtW x).ty.k, .bool (edtW x).ty.l, .bool (edtW x).ty.x, .int .u64 (edtW x).sum, .int .i64 (edtW x).size, .int .i64 (edtW x).base, .string (edtW x).frm, .int .i64 (edtW x).fnum, .int .i64 (edtW x).fence]) ∧ Below w.heap.size w w' := by
  obtain ⟨Ar, cr, rfl, hcr, hmr, -⟩ := id hR
  unfold maxLen at hmr
  obtain ⟨W, hW⟩ : ∃ W, W = (w.alloc (.cells #[.slice Ar revs.length cr, dr] 25)).alloc (.cells #[.string ⟨#[]⟩, .int .i64 0, .int .i64 0, .bool false, .bool false, .bool false, .int .u64 0, .int .i64 0, .int .i64 0, .string ⟨#[]⟩, .int .i64 0, .int .i64 0] 39) := ⟨_, rfl⟩
  have hbW : Below w.heap.size w W := by rw [hW]; exact ((Below.refl _ _).alloc (Nat.le_refl _) _).alloc (by simp) _
  have hsz : W.heap.size = w.heap.size + 1 + 1 := by rw [hW]; simp
  have hD : Blk W w.heap.size 25 [.slice Ar revs.length cr, dr] := by rw [hW]; exact (blk_new w _ _).alloc _
  have hF : Blk W (w.heap.size + 1) 39 [.string ⟨#[]⟩, .int .i64 0, .int .i64 0, .bool false, .bool false, .bool false, .int .u64 0, .int .i64 0, .int .i64 0, .string ⟨#[]⟩, .int .i64 0, .int .i64 0] := by rw [hW]; exact blk_at (by simp)
  obtain ⟨ad, rfl, hab, hld⟩ := Revs.at_ (hR.below hbW) hk
  have hkz : (k : Int) < (revs.length : Int) := by omega
  rw [hx] at hld
  clear hx
  obtain ⟨x0, x1, x2, x3, x4, x5, x6, x7, x8, x9, x10, x11⟩ := hld
  have HW := Lib.hid hW
  clear hW hR
  obtain ⟨d0, -, -, -⟩ := box2 hD
  obtain ⟨b, hb⟩ : ∃ b, b = IntKind.i64.wrap (x.num - 1) := ⟨_, rfl⟩
  have hwr : IntKind.i64.wrap (x.num - 1) = b := hb.symm
  have hwr2 : wrap64 (x.num - 1) = b := by rw [hb, IntKind.wrap_i64]; first | rfl | (unfold wrap64; first | rfl | omega)
  have HBE : Hid (edtW x = ⟨x.path, x.act, x.ty, x.sum, x.size, b, x.frm, x.fnum, 0⟩) := Lib.hid (by unfold edtW; rw [hb])
  clear hb
  go_enter Tryd.func9, Tryd.ntmps9
  go_upto_region 1 with fail
  rw [← HW.out]
  have hX1 := blk_new W [.string x.path, .int .i64 x.num, .int .i64 x.chg, .int .i64 x.act, .int .i64 x.ty.base, .bool x.ty.k, .bool x.ty.l, .bool x.ty.x, .int .u64 x.sum, .int .i64 x.size, .string x.frm, .int .i64 x.fnum] 33
  have hA1 := hbW.alloc hbW.size (.cells #[.string x.path, .int .i64 x.num, .int .i64 x.chg, .int .i64 x.act, .int .i64 x.ty.base, .bool x.ty.k, .bool x.ty.l, .bool x.ty.x, .int .u64 x.sum, .int .i64 x.size, .string x.frm, .int .i64 x.fnum] 33)
  have hF1 := hF.alloc (.cells #[.string x.path, .int .i64 x.num, .int .i64 x.chg, .int .i64 x.act, .int .i64 x.ty.base, .bool x.ty.k, .bool x.ty.l, .bool x.ty.x, .int .u64 x.sum, .int .i64 x.size, .string x.frm, .int .i64 x.fnum] 33)
  go_upto_region 2 with fail
  clear x0 x1 x2 x3 x4 x5 x6 x7 x8 x9 x10 x11 d0
  generalize W.alloc (.cells #[.string x.path, .int .i64 x.num, .int .i64 x.chg, .int .i64 x.act, .int .i64 x.ty.base, .bool x.ty.k, .bool x.ty.l, .bool x.ty.x, .int .u64 x.sum, .int .i64 x.size, .string x.frm, .int .i64 x.fnum] 33) = W1 at hX1 hA1 hF1 ⊢
  rw [hsz] at hX1
  obtain ⟨c0, c1, c2, c3, c4, c5, c6, c7, c8, c9, c10, c11⟩ := box12 hX1
  obtain ⟨z0, z1, z2, z3, z4, z5, z6, z7, z8, z9, z10, z11⟩ := box12 hF1
  obtain ⟨y0, y1, y2, y3, y4, y5, y6, y7, y8, y9, y10, y11⟩ := frz12 hF1
  have HF1 := Lib.hid hF1
  have HA1 := Lib.hid hA1
  clear hF1 hA1 hX1 hD hF hbW
  go_wp2_with fail
  obtain ⟨Y, hY⟩ : ∃ Y : Edt, Y = ⟨x.path, x.act, x.ty, x.sum, x.size, b, x.frm, x.fnum, 0⟩ := ⟨_, rfl⟩
  have hZ3 := set12E HF1.out Y
  have hB3 := below12E HA1.out (show w.heap.size ≤ w.heap.size + 1 by omega) Y
  clear c0 c1 c2 c3 c4 c5 c6 c7 c8 c9 c10 c11 z0 z1 z2 z3 z4 z5 z6 z7 z8 z9 z10 z11 y0 y1 y2 y3 y4 y5 y6 y7 y8 y9 y10 y11
  have e : ((((((((((((W1.setCell ⟨w.heap.size + 1, 0, none⟩ (.string Y.path)).setCell ⟨w.heap.size + 1, 1, none⟩ (.int .i64 Y.act)).setCell ⟨w.heap.size + 1, 2, none⟩ (.int .i64 Y.ty.base)).setCell ⟨w.heap.size + 1, 3, none⟩ (.bool Y.ty.k)).setCell ⟨w.heap.size + 1, 4, none⟩ (.bool Y.ty.l)).setCell ⟨w.heap.size + 1, 5, none⟩ (.bool Y.ty.x)).setCell ⟨w.heap.size + 1, 6, none⟩ (.int .u64 Y.sum)).setCell ⟨w.heap.size + 1, 7, none⟩ (.int .i64 Y.size)).setCell ⟨w.heap.size + 1, 8, none⟩ (.int .i64 Y.base)).setCell ⟨w.heap.size + 1, 9, none⟩ (.string Y.frm)).setCell ⟨w.heap.size + 1, 10, none⟩ (.int .i64 Y.fnum)).setCell ⟨w.heap.size + 1, 11, none⟩ (.int .i64 Y.fence)) = ((((((((((((W1.setCell ⟨w.heap.size + 1, 0, none⟩ (.string ((⟨x.path, x.act, x.ty, x.sum, x.size, b, x.frm, x.fnum, 0⟩ : Edt)).path)).setCell ⟨w.heap.size + 1, 1, none⟩ (.int .i64 ((⟨x.path, x.act, x.ty, x.sum, x.size, b, x.frm, x.fnum, 0⟩ : Edt)).act)).setCell ⟨w.heap.size + 1, 2, none⟩ (.int .i64 ((⟨x.path, x.act, x.ty, x.sum, x.size, b, x.frm, x.fnum, 0⟩ : Edt)).ty.base)).setCell ⟨w.heap.size + 1, 3, none⟩ (.bool ((⟨x.path, x.act, x.ty, x.sum, x.size, b, x.frm, x.fnum, 0⟩ : Edt)).ty.k)).setCell ⟨w.heap.size + 1, 4, none⟩ (.bool ((⟨x.path, x.act, x.ty, x.sum, x.size, b, x.frm, x.fnum, 0⟩ : Edt)).ty.l)).setCell ⟨w.heap.size + 1, 5, none⟩ (.bool ((⟨x.path, x.act, x.ty, x.sum, x.size, b, x.frm, x.fnum, 0⟩ : Edt)).ty.x)).setCell ⟨w.heap.size + 1, 6, none⟩ (.int .u64 ((⟨x.path, x.act, x.ty, x.sum, x.size, b, x.frm, x.fnum, 0⟩ : Edt)).sum)).setCell ⟨w.heap.size + 1, 7, none⟩ (.int .i64 ((⟨x.path, x.act, x.ty, x.sum, x.size, b, x.frm, x.fnum, 0⟩ : Edt)).size)).setCell ⟨w.heap.size + 1, 8, none⟩ (.int .i64 ((⟨x.path, x.act, x.ty, x.sum, x.size, b, x.frm, x.fnum, 0⟩ : Edt)).base)).setCell ⟨w.heap.size + 1, 9, none⟩ (.string ((⟨x.path, x.act, x.ty, x.sum, x.size, b, x.frm, x.fnum, 0⟩ : Edt)).frm)).setCell ⟨w.heap.size + 1, 10, none⟩ (.int .i64 ((⟨x.path, x.act, x.ty, x.sum, x.size, b, x.frm, x.fnum, 0⟩ : Edt)).fnum)).setCell ⟨w.heap.size + 1, 11, none⟩ (.int .i64 ((⟨x.path, x.act, x.ty, x.sum, x.size, b, x.frm, x.fnum, 0⟩ : Edt)).fence)) := by rw [hY]
  dsimp only at e
  rw [← e]
  have HY : Hid (edtW x = Y) := Lib.hid (by rw [hY]; exact HBE.out)
  clear hY e
  generalize ((((((((((((W1.setCell ⟨w.heap.size + 1, 0, none⟩ (.string Y.path)).setCell ⟨w.heap.size + 1, 1, none⟩ (.int .i64 Y.act)).setCell ⟨w.heap.size + 1, 2, none⟩ (.int .i64 Y.ty.base)).setCell ⟨w.heap.size + 1, 3, none⟩ (.bool Y.ty.k)).setCell ⟨w.heap.size + 1, 4, none⟩ (.bool Y.ty.l)).setCell ⟨w.heap.size + 1, 5, none⟩ (.bool Y.ty.x)).setCell ⟨w.heap.size + 1, 6, none⟩ (.int .u64 Y.sum)).setCell ⟨w.heap.size + 1, 7, none⟩ (.int .i64 Y.size)).setCell ⟨w.heap.size + 1, 8, none⟩ (.int .i64 Y.base)).setCell ⟨w.heap.size + 1, 9, none⟩ (.string Y.frm)).setCell ⟨w.heap.size + 1, 10, none⟩ (.int .i64 Y.fnum)).setCell ⟨w.heap.size + 1, 11, none⟩ (.int .i64 Y.fence)) = W3 at hZ3 hB3 ⊢
  obtain ⟨e0, e1, e2, e3, e4, e5, e6, e7, e8, e9, e10, e11⟩ := box12 hZ3
  refine bodyPost_ret (v := .agg #[.string Y.path, .int .i64 Y.act, .int .i64 Y.ty.base, .bool Y.ty.k, .bool Y.ty.l, .bool Y.ty.x, .int .u64 Y.sum, .int .i64 Y.size, .int .i64 Y.base, .string Y.frm, .int .i64 Y.fnum, .int .i64 Y.fence]) (by simp [results, Tryd.results9, go_sem, e0, e1, e2, e3, e4, e5, e6, e7, e8, e9, e10, e11]) rfl ⟨by rw [HY.out], hB3⟩

/-- The state of Valid's last loop. -/
structure VG (w wr : World) (g11 gr : Nat) (D : Dep) (dv dr mv mr : Value) (k : Nat) (d : Dep) : Prop where
  bel : Below w.heap.size w wr
  le : w.heap.size < g11
  boxD : Blk wr w.heap.size 25 [dv, dr]
  boxM : Blk wr g11 25 [mv, mr]
  recs : ∃ F : Int → Option Value, FMap (fun n : Int => Value.int .i64 n) (fun v : Value => v) wr gr F ∧ gr < g11 ∧ ∀ n, Rcds wr ((F n).getD nilV) (recsAt D n) ∧ ∀ x, ((F n).getD nilV).ownBlock = some x → x < g11
  dep : DepAt wr mv mr d
  repl : Repl D k d
theorem flook {w : World} {gr : Nat} {F : Int → Option Value} (h : FMap (fun n : Int => Value.int .i64 n) (fun v : Value => v) w gr F) (n : Int) : (Instr.lookup 48 (.map (some gr)) (.int .i64 n) false).run Tryd.prog w = .ok ((F n).getD nilV) w := by
  rw [FMap.lookup h (keyOk_int Tryd.underlying3) Tryd.underlying48 (Tryd.zeroValue23 w) n false]
  unfold lookV
  rw [if_neg (by decide)]
  cases F n <;> rfl
theorem clook {w : World} {gm : Nat} {f : Fil → Option Int} (h : FMap filV (fun n : Int => Value.int .i64 n) w gm f) (x : Fil) : (Instr.lookup 45 (.map (some gm)) (.agg #[.string x.1, .int .i64 x.2]) true).run Tryd.prog w = .ok (.tuple #[.int .i64 ((f x).getD 0), .bool (f x).isSome]) w := by
  have := FMap.lookup h keyOk_fil Tryd.underlying45 (Tryd.zeroValue3 w) x true
  refine Eq.trans this ?_
  unfold lookV
  rw [if_pos rfl]
  cases f x <;> rfl
theorem VG.under {w wr X : World} {g11 gr : Nat} {D : Dep} {dv dr mv mr : Value} {k : Nat} {d : Dep} (h : VG w wr g11 gr D dv dr mv mr k d) (hX : Below wr.heap.size wr X) : VG w X g11 gr D dv dr mv mr k d := by
  obtain ⟨F, f1, f2, f3⟩ := h.recs
  exact ⟨below_next h.bel hX, h.le, h.boxD.below hX h.boxD.lt, h.boxM.below hX h.boxM.lt, ⟨F, f1.below hX, f2, fun n => ⟨(f3 n).1.below hX, (f3 n).2⟩⟩, h.dep.below hX, h.repl⟩
/-- The new depot is stored. -/
theorem VG.store {w wr V : World} {g11 gr : Nat} {D : Dep} {dv dr mv mr mv' mr' : Value} {k k' : Nat} {d d' : Dep} (h : VG w wr g11 gr D dv dr mv mr k d) (hV : Below wr.heap.size wr V) (hd : DepAt V mv' mr' d') (h1 : Fresh wr.heap.size mv') (h2 : Fresh wr.heap.size mr') (hr : Repl D k' d') :
    VG w ((V.setCell ⟨g11, 0, none⟩ mv').setCell ⟨g11, 1, none⟩ mr') g11 gr D dv dr mv' mr' k' d' := by
  obtain ⟨b1, b2, b3, b4, ⟨F, f1, f2, f3⟩, -, -⟩ := h.under hV
  have hlt := h.boxM.lt
  have n1 : mv'.ownBlock ≠ some g11 := fun e => by have := h1 _ e; omega
  have n2 : mr'.ownBlock ≠ some g11 := fun e => by have := h2 _ e; omega
  refine ⟨(b1.setCell (p := ⟨g11, 0, none⟩) (Nat.le_of_lt b2) _).setCell (p := ⟨g11, 1, none⟩) (Nat.le_of_lt b2) _, b2, (b3.far (p := ⟨g11, 0, none⟩) (by simp; omega) _).far (p := ⟨g11, 1, none⟩) (by simp; omega) _, (b4.set_ 0 _).set_ 1 _, ⟨F, ?_, f2, fun n => ⟨?_, (f3 n).2⟩⟩, (hd.setCell n1 n2).setCell n1 n2, hr⟩
  · exact (f1.setCell (p := ⟨g11, 0, none⟩) (by simp; omega) _).setCell (p := ⟨g11, 1, none⟩) (by simp; omega) _
  · have hne : ((F n).getD nilV).ownBlock ≠ some g11 := fun e => by have := (f3 n).2 _ e; omega
    exact Row.setCell_far (Row.setCell_far (f3 n).1 hne) hne
end Go.Proofs.YtnblfaagchflaaaDoor
