/- The reference's Log, Last, Get, Gone, Live, Previous, First: the walks. -/
import Derived.Test.YtnblfaagchflaaaGreatDoorMgw16
import Derived.Deep.LoopGhost
namespace Go.Proofs.YtnblfaagchflaaaGreatDoor
open Go.RowKit
set_option linter.unusedVariables false
set_option linter.unusedSimpArgs false

theorem log_take (revs : List Rev) (p : ByteArray) (k : Nat) (h : k < revs.length) : logOf (revs.take (k + 1)) p = logOf (revs.take k) p ++ (if revs[k].path = p then [revs[k]] else []) := by
  rw [List.take_succ_eq_append_getElem h, log_app]
  congr 1
  unfold logOf
  rw [List.filter_cons]
  by_cases e : revs[k].path = p
  · simp [e]
  · simp [e]
theorem log_len (revs : List Rev) (p : ByteArray) : (logOf revs p).length ≤ revs.length := List.length_filter_le ..
theorem rev_oneC (x : Rev) : ∀ v ∈ x.cells, v.oneCell' = true := by
  intro v hv
  simp only [Rev.cells, List.mem_cons, List.not_mem_nil, or_false] at hv
  rcases hv with rfl | rfl | rfl | rfl | rfl | rfl | rfl | rfl | rfl | rfl | rfl | rfl <;> rfl
/-- What the reference's Log leaves. -/
def RLogPost (w : World) (revs : List Rev) (p : ByteArray) (e : Ending) (w' : World) : Prop := ∃ A c, e = .returned (.slice A (logOf revs p).length c) ∧ Below w.heap.size w w' ∧ Revs w' (.slice A (logOf revs p).length c) (logOf revs p)
set_option maxRecDepth 100000 in
set_option maxHeartbeats 4000000 in
theorem refLog_any (revs : List Rev) (p : ByteArray) (dv dr : Value) (w : World) (hR : Revs w dv revs) (hl : revs.length ≤ 1000000) :
    Calls Tryz.prog 64 #[.agg #[dv, dr], .string p] w (RLogPost w revs p) := by
  obtain ⟨Ar, cr, rfl, hcr, hmr, -⟩ := id hR
  have HR := Lib.hid hR
  clear hR
  unfold maxLen at hmr
  go_enter Tryz.func64, Tryz.ntmps64
  have hB := blk_new w [.slice Ar revs.length cr, dr] 31
  have hA : Below w.heap.size w (w.alloc (.cells #[.slice Ar revs.length cr, dr] 31)) := (Below.refl _ _).alloc (Nat.le_refl _) _
  go_upto_region 2 with fail
  generalize w.alloc (.cells #[.slice Ar revs.length cr, dr] 31) = W1 at hB hA ⊢
  obtain ⟨d0, -, -, -⟩ := box2 hB
  have HA := Lib.hid hA
  clear hA hB
  go_wp2_with fail
  clear d0
  go_loopw [5, 11] (fun u s wr => ∃ (k n : Nat) (A : Option Addr) (c : Nat), s = .int .i64 k ∧ u = .slice A n c ∧ k ≤ revs.length ∧ n ≤ k ∧ Hid (n = (logOf (revs.take k) p).length ∧ Below W1.heap.size W1 wr ∧ wr.ownsRow W1.heap.size 40 12 (.slice A n c) n ((logOf (revs.take k) p).flatMap Rev.cells))) (fun _ s _ => revs.length - (intOf s).toNat)
  case atStart => exact ⟨0, 0, none, 0, rfl, rfl, Nat.zero_le _, Nat.le_refl _, rfl, Below.refl _ _, World.ownsRow_nil _ _ _ _⟩
  case round =>
    obtain ⟨k, n, A, c, rfl, rfl, hk, hnk, HI⟩ := hrel
    by_cases hlt : k < revs.length
    · obtain ⟨ad, rfl, hab, hld⟩ := Revs.at_ (HR.out.below (below_next HA.out HI.out.2.1)) hlt
      have HT := Lib.hid (log_take revs p k hlt)
      generalize revs[k] = r at hld HT
      obtain ⟨x0, x1, x2, x3, x4, x5, x6, x7, x8, x9, x10, x11⟩ := hld
      have hX := blk_new wr [.string r.path, .int .i64 r.num, .int .i64 r.chg, .int .i64 r.act, .int .i64 r.ty.base, .bool r.ty.k, .bool r.ty.l, .bool r.ty.x, .int .u64 r.sum, .int .i64 r.size, .string r.frm, .int .i64 r.fnum] 40
      have hA1 : Below wr.heap.size wr (wr.alloc (.cells #[.string r.path, .int .i64 r.num, .int .i64 r.chg, .int .i64 r.act, .int .i64 r.ty.base, .bool r.ty.k, .bool r.ty.l, .bool r.ty.x, .int .u64 r.sum, .int .i64 r.size, .string r.frm, .int .i64 r.fnum] 40)) := (Below.refl _ _).alloc (Nat.le_refl _) _
      go_upto_region 5 with fail
      clear x0 x1 x2 x3 x4 x5 x6 x7 x8 x9 x10 x11
      generalize wr.alloc (.cells #[.string r.path, .int .i64 r.num, .int .i64 r.chg, .int .i64 r.act, .int .i64 r.ty.base, .bool r.ty.k, .bool r.ty.l, .bool r.ty.x, .int .u64 r.sum, .int .i64 r.size, .string r.frm, .int .i64 r.fnum] 40) = V1 at hX hA1 ⊢
      obtain ⟨y0, y1, y2, y3, y4, y5, y6, y7, y8, y9, y10, y11⟩ := box12 hX
      by_cases hp : r.path = p
      · have q := str_eqB r.path p
        rw [decide_eq_true hp] at q
        rw [if_pos hp] at HT
        have HN : Hid (n = (logOf (revs.take k) p).length ∧ Below W1.heap.size W1 V1 ∧ V1.ownsRow W1.heap.size 40 12 (.slice A n c) n ((logOf (revs.take k) p).flatMap Rev.cells)) := Lib.hid ⟨HI.out.1, below_next HI.out.2.1 hA1, own_below HI.out.2.2 hA1⟩
        clear hX hA1 hp
        go_wp2_with (at_builtin; refine wpList_push rfl rfl revElem ((own_below HN.out.2.2 ((Below.refl _ _).alloc (Nat.le_refl _) _))) rfl (row_new V1 [.string r.path, .int .i64 r.num, .int .i64 r.chg, .int .i64 r.act, .int .i64 r.ty.base, .bool r.ty.k, .bool r.ty.l, .bool r.ty.x, .int .u64 r.sum, .int .i64 r.size, .string r.frm, .int .i64 r.fnum] _ 12 1 rfl (by decide) _ rfl) rfl (HN.out.2.1.alloc HN.out.2.1.size _) (HN.out.2.1.alloc HN.out.2.1.size _).size (rev_oneC r) (by omega) (by unfold maxLen; omega) ?_; intro A' c' w2 hown2 hbl2)
        have HO2 := Lib.hid hown2
        have HB2 := Lib.hid hbl2
        clear y0 y1 y2 y3 y4 y5 y6 y7 y8 y9 y10 y11 hown2 hbl2
        go_wp2_with fail
        go_roundw
        case rel =>
          refine ⟨k + 1, n + 1, A', c', by go_num, rfl, by omega, by omega, ?_, HB2.out, ?_⟩
          · rw [HT.out, List.length_append, List.length_singleton, ← HN.out.1]
          · rw [HT.out, List.flatMap_append, List.flatMap_cons, List.flatMap_nil, List.append_nil]
            exact HO2.out
        case measure => simp [intOf]; omega
      · have q := str_eqB r.path p
        rw [decide_eq_false hp] at q
        rw [if_neg hp, List.append_nil] at HT
        have HN : Hid (n = (logOf (revs.take (k + 1)) p).length ∧ Below W1.heap.size W1 V1 ∧ V1.ownsRow W1.heap.size 40 12 (.slice A n c) n ((logOf (revs.take (k + 1)) p).flatMap Rev.cells)) := Lib.hid (by rw [HT.out]; exact ⟨HI.out.1, below_next HI.out.2.1 hA1, own_below HI.out.2.2 hA1⟩)
        clear hX hA1 hp HT
        go_wp2_with fail
        go_roundw
        case rel => exact ⟨k + 1, n, A, c, by go_num, rfl, by omega, by omega, HN.out⟩
        case measure => simp [intOf]; omega
    · have hke : k = revs.length := by omega
      have HF : Hid (n = (logOf revs p).length ∧ Below W1.heap.size W1 wr ∧ wr.ownsRow W1.heap.size 40 12 (.slice A n c) n ((logOf revs p).flatMap Rev.cells)) := Lib.hid (by
        have := HI.out
        rwa [hke, List.take_length] at this)
      clear HI hke
      go_wp2_with fail
      go_ret
      obtain ⟨hn, h1, h2⟩ := HF.out
      subst hn
      exact ⟨A, c, rfl, below_next HA.out h1, Row.of_own h2⟩

/-- What a function leaves that returns a revision, or none. -/
def RevPost (w : World) (o : Option Rev) (e : Ending) (w' : World) : Prop := e = .returned (.tuple #[.agg #[.string (someR o).path, .int .i64 (someR o).num, .int .i64 (someR o).chg, .int .i64 (someR o).act, .int .i64 (someR o).ty.base, .bool (someR o).ty.k, .bool (someR o).ty.l, .bool (someR o).ty.x, .int .u64 (someR o).sum, .int .i64 (someR o).size, .string (someR o).frm, .int .i64 (someR o).fnum], .bool o.isSome]) ∧ Below w.heap.size w w'
set_option maxRecDepth 100000 in
set_option maxHeartbeats 4000000 in
theorem refLast_any (revs : List Rev) (p : ByteArray) (dv dr : Value) (w : World) (hR : Revs w dv revs) (hl : revs.length ≤ 1000000) :
    Calls Tryz.prog 122 #[.agg #[dv, dr], .string p] w (RevPost w (rLast revs p)) := by
  obtain ⟨Ar, cr, rfl, -⟩ := id hR
  have HR := Lib.hid hR
  clear hR
  have HLN := Lib.hid (log_len revs p)
  go_enter Tryz.func122, Tryz.ntmps122
  have hb0 : Below w.heap.size w ((w.alloc (.cells #[.slice Ar revs.length cr, dr] 31)).alloc (.cells #[.string ⟨#[]⟩, .int .i64 0, .int .i64 0, .int .i64 0, .int .i64 0, .bool false, .bool false, .bool false, .int .u64 0, .int .i64 0, .string ⟨#[]⟩, .int .i64 0] 40)) := ((Below.refl _ _).alloc (Nat.le_refl _) _).alloc (by simp) _
  have hZ : Blk ((w.alloc (.cells #[.slice Ar revs.length cr, dr] 31)).alloc (.cells #[.string ⟨#[]⟩, .int .i64 0, .int .i64 0, .int .i64 0, .int .i64 0, .bool false, .bool false, .bool false, .int .u64 0, .int .i64 0, .string ⟨#[]⟩, .int .i64 0] 40)) (w.heap.size + 1) 40 [.string ⟨#[]⟩, .int .i64 0, .int .i64 0, .int .i64 0, .int .i64 0, .bool false, .bool false, .bool false, .int .u64 0, .int .i64 0, .string ⟨#[]⟩, .int .i64 0] := by
    have h1 := blk_new (w.alloc (.cells #[.slice Ar revs.length cr, dr] 31)) [.string ⟨#[]⟩, .int .i64 0, .int .i64 0, .int .i64 0, .int .i64 0, .bool false, .bool false, .bool false, .int .u64 0, .int .i64 0, .string ⟨#[]⟩, .int .i64 0] 40
    simp only [World.size_alloc] at h1
    exact h1
  have hB : Blk ((w.alloc (.cells #[.slice Ar revs.length cr, dr] 31)).alloc (.cells #[.string ⟨#[]⟩, .int .i64 0, .int .i64 0, .int .i64 0, .int .i64 0, .bool false, .bool false, .bool false, .int .u64 0, .int .i64 0, .string ⟨#[]⟩, .int .i64 0] 40)) w.heap.size 31 [.slice Ar revs.length cr, dr] := (blk_new w _ _).alloc _
  go_upto_region 1 with fail
  generalize (w.alloc (.cells #[.slice Ar revs.length cr, dr] 31)).alloc (.cells #[.string ⟨#[]⟩, .int .i64 0, .int .i64 0, .int .i64 0, .int .i64 0, .bool false, .bool false, .bool false, .int .u64 0, .int .i64 0, .string ⟨#[]⟩, .int .i64 0] 40) = W1 at hb0 hZ hB ⊢
  obtain ⟨d0, d1, -, -⟩ := box2 hB
  have HL := Lib.hid (refLog_any revs p (.slice Ar revs.length cr) dr W1 (HR.out.below hb0) hl)
  have Hb0 := Lib.hid hb0
  have HZ := Lib.hid hZ
  clear hb0 hZ hB
  go_wp2_with fail
  refine HL.out.mono ?_
  rintro e w2 ⟨A, c, rfl, hb2, hL⟩
  clear d0 d1
  have HB2 := Lib.hid hb2
  have HLL := Lib.hid hL
  have hZ2 := HZ.out.below hb2 HZ.out.lt
  obtain ⟨z0, z1, z2, z3, z4, z5, z6, z7, z8, z9, z10, z11⟩ := box12 hZ2
  obtain ⟨y0, y1, y2, y3, y4, y5, y6, y7, y8, y9, y10, y11⟩ := frz12 hZ2
  clear hb2 hL HL
  have HRL : Hid (rLast revs p = (logOf revs p).getLast?) := Lib.hid rfl
  have hll : (logOf revs p).length ≤ revs.length := HLN.out
  generalize logOf revs p = L at HLL hll HRL ⊢
  by_cases h0 : L.length = 0
  · have HN : Hid (rLast revs p = none) := Lib.hid (by rw [HRL.out, List.length_eq_zero_iff.1 h0]; rfl)
    have q : ((L.length : Int) == 0) = true := by rw [beq_iff_eq]; omega
    clear h0
    go_wp2_with fail
    have hZ9 : Blk ((((((((((((w2.setCell ⟨w.heap.size + 1, 0, none⟩ (.string ⟨#[]⟩)).setCell ⟨w.heap.size + 1, 1, none⟩ (.int .i64 0)).setCell ⟨w.heap.size + 1, 2, none⟩ (.int .i64 0)).setCell ⟨w.heap.size + 1, 3, none⟩ (.int .i64 0)).setCell ⟨w.heap.size + 1, 4, none⟩ (.int .i64 0)).setCell ⟨w.heap.size + 1, 5, none⟩ (.bool false)).setCell ⟨w.heap.size + 1, 6, none⟩ (.bool false)).setCell ⟨w.heap.size + 1, 7, none⟩ (.bool false)).setCell ⟨w.heap.size + 1, 8, none⟩ (.int .u64 0)).setCell ⟨w.heap.size + 1, 9, none⟩ (.int .i64 0)).setCell ⟨w.heap.size + 1, 10, none⟩ (.string ⟨#[]⟩)).setCell ⟨w.heap.size + 1, 11, none⟩ (.int .i64 0)) (w.heap.size + 1) 40 [.string ⟨#[]⟩, .int .i64 0, .int .i64 0, .int .i64 0, .int .i64 0, .bool false, .bool false, .bool false, .int .u64 0, .int .i64 0, .string ⟨#[]⟩, .int .i64 0] := set12 hZ2 zeroRev
    have hB9 : Below w.heap.size w ((((((((((((w2.setCell ⟨w.heap.size + 1, 0, none⟩ (.string ⟨#[]⟩)).setCell ⟨w.heap.size + 1, 1, none⟩ (.int .i64 0)).setCell ⟨w.heap.size + 1, 2, none⟩ (.int .i64 0)).setCell ⟨w.heap.size + 1, 3, none⟩ (.int .i64 0)).setCell ⟨w.heap.size + 1, 4, none⟩ (.int .i64 0)).setCell ⟨w.heap.size + 1, 5, none⟩ (.bool false)).setCell ⟨w.heap.size + 1, 6, none⟩ (.bool false)).setCell ⟨w.heap.size + 1, 7, none⟩ (.bool false)).setCell ⟨w.heap.size + 1, 8, none⟩ (.int .u64 0)).setCell ⟨w.heap.size + 1, 9, none⟩ (.int .i64 0)).setCell ⟨w.heap.size + 1, 10, none⟩ (.string ⟨#[]⟩)).setCell ⟨w.heap.size + 1, 11, none⟩ (.int .i64 0)) := below12 (below_next Hb0.out HB2.out) (show w.heap.size ≤ w.heap.size + 1 by omega) zeroRev
    generalize ((((((((((((w2.setCell ⟨w.heap.size + 1, 0, none⟩ (.string ⟨#[]⟩)).setCell ⟨w.heap.size + 1, 1, none⟩ (.int .i64 0)).setCell ⟨w.heap.size + 1, 2, none⟩ (.int .i64 0)).setCell ⟨w.heap.size + 1, 3, none⟩ (.int .i64 0)).setCell ⟨w.heap.size + 1, 4, none⟩ (.int .i64 0)).setCell ⟨w.heap.size + 1, 5, none⟩ (.bool false)).setCell ⟨w.heap.size + 1, 6, none⟩ (.bool false)).setCell ⟨w.heap.size + 1, 7, none⟩ (.bool false)).setCell ⟨w.heap.size + 1, 8, none⟩ (.int .u64 0)).setCell ⟨w.heap.size + 1, 9, none⟩ (.int .i64 0)).setCell ⟨w.heap.size + 1, 10, none⟩ (.string ⟨#[]⟩)).setCell ⟨w.heap.size + 1, 11, none⟩ (.int .i64 0)) = W9 at hZ9 hB9 ⊢
    obtain ⟨e0, e1, e2, e3, e4, e5, e6, e7, e8, e9, e10, e11⟩ := box12 hZ9
    exact bodyPost_ret (v := .tuple #[.agg #[.string ⟨#[]⟩, .int .i64 0, .int .i64 0, .int .i64 0, .int .i64 0, .bool false, .bool false, .bool false, .int .u64 0, .int .i64 0, .string ⟨#[]⟩, .int .i64 0], .bool false]) (by simp [results, Tryz.results122, go_sem, e0, e1, e2, e3, e4, e5, e6, e7, e8, e9, e10, e11]) rfl ⟨by rw [HN.out]; rfl, hB9⟩
  · have hk : L.length - 1 < L.length := by omega
    obtain ⟨ad, rfl, hab, hld⟩ := Revs.at_ HLL.out hk
    have HN : Hid (rLast revs p = some L[L.length - 1]) := Lib.hid (by rw [HRL.out, List.getLast?_eq_getElem?, List.getElem?_eq_getElem hk])
    have q : ((L.length : Int) == 0) = false := by rw [beq_eq_false_iff_ne]; omega
    obtain ⟨j, hj⟩ : ∃ j : Nat, j = L.length - 1 := ⟨_, rfl⟩
    have hjz : (L.length : Int) - 1 = (j : Int) := by omega
    have hjl : (j : Int) < (L.length : Int) := by omega
    have hj0 : 0 ≤ (j : Int) := by omega
    generalize L[L.length - 1] = r at hld HN
    rw [← hj] at hld
    obtain ⟨x0, x1, x2, x3, x4, x5, x6, x7, x8, x9, x10, x11⟩ := hld
    clear h0 hk hj
    go_wp2_with fail
    have hZ9 := set12 hZ2 r
    have hB9 := below12 (below_next Hb0.out HB2.out) (show w.heap.size ≤ w.heap.size + 1 by omega) r
    generalize ((((((((((((w2.setCell ⟨w.heap.size + 1, 0, none⟩ (.string r.path)).setCell ⟨w.heap.size + 1, 1, none⟩ (.int .i64 r.num)).setCell ⟨w.heap.size + 1, 2, none⟩ (.int .i64 r.chg)).setCell ⟨w.heap.size + 1, 3, none⟩ (.int .i64 r.act)).setCell ⟨w.heap.size + 1, 4, none⟩ (.int .i64 r.ty.base)).setCell ⟨w.heap.size + 1, 5, none⟩ (.bool r.ty.k)).setCell ⟨w.heap.size + 1, 6, none⟩ (.bool r.ty.l)).setCell ⟨w.heap.size + 1, 7, none⟩ (.bool r.ty.x)).setCell ⟨w.heap.size + 1, 8, none⟩ (.int .u64 r.sum)).setCell ⟨w.heap.size + 1, 9, none⟩ (.int .i64 r.size)).setCell ⟨w.heap.size + 1, 10, none⟩ (.string r.frm)).setCell ⟨w.heap.size + 1, 11, none⟩ (.int .i64 r.fnum)) = W9 at hZ9 hB9 ⊢
    obtain ⟨e0, e1, e2, e3, e4, e5, e6, e7, e8, e9, e10, e11⟩ := box12 hZ9
    exact bodyPost_ret (v := .tuple #[.agg #[.string r.path, .int .i64 r.num, .int .i64 r.chg, .int .i64 r.act, .int .i64 r.ty.base, .bool r.ty.k, .bool r.ty.l, .bool r.ty.x, .int .u64 r.sum, .int .i64 r.size, .string r.frm, .int .i64 r.fnum], .bool true]) (by simp [results, Tryz.results122, go_sem, e0, e1, e2, e3, e4, e5, e6, e7, e8, e9, e10, e11]) rfl ⟨by rw [HN.out]; rfl, hB9⟩
theorem find_take {α : Type} (l : List α) (f : α → Bool) (k : Nat) (h : k < l.length) (hn : (l.take k).find? f = none) : (f l[k] = true → l.find? f = some l[k]) ∧ (f l[k] = false → (l.take (k + 1)).find? f = none) := by
  have hl : l = l.take k ++ l[k] :: l.drop (k + 1) := by rw [List.getElem_cons_drop, List.take_append_drop]
  refine ⟨fun hf => ?_, fun hf => ?_⟩
  · conv => lhs; rw [hl]
    rw [List.find?_append, hn, List.find?_cons_of_pos hf]; rfl
  · rw [List.take_succ_eq_append_getElem h, List.find?_append, hn, List.find?_cons_of_neg (by rw [hf]; simp)]; rfl
set_option maxRecDepth 100000 in
set_option maxHeartbeats 4000000 in
theorem refGet_any (revs : List Rev) (p : ByteArray) (m : Int) (dv dr : Value) (w : World) (hR : Revs w dv revs) (hl : revs.length ≤ 1000000) :
    Calls Tryz.prog 123 #[.agg #[dv, dr], .string p, .int .i64 m] w (RevPost w (rGet revs p m)) := by
  obtain ⟨Ar, cr, rfl, -⟩ := id hR
  have HR := Lib.hid hR
  clear hR
  have HLN := Lib.hid (log_len revs p)
  go_enter Tryz.func123, Tryz.ntmps123
  have hb0 : Below w.heap.size w ((w.alloc (.cells #[.slice Ar revs.length cr, dr] 31)).alloc (.cells #[.string ⟨#[]⟩, .int .i64 0, .int .i64 0, .int .i64 0, .int .i64 0, .bool false, .bool false, .bool false, .int .u64 0, .int .i64 0, .string ⟨#[]⟩, .int .i64 0] 40)) := ((Below.refl _ _).alloc (Nat.le_refl _) _).alloc (by simp) _
  have hZ : Blk ((w.alloc (.cells #[.slice Ar revs.length cr, dr] 31)).alloc (.cells #[.string ⟨#[]⟩, .int .i64 0, .int .i64 0, .int .i64 0, .int .i64 0, .bool false, .bool false, .bool false, .int .u64 0, .int .i64 0, .string ⟨#[]⟩, .int .i64 0] 40)) (w.heap.size + 1) 40 [.string ⟨#[]⟩, .int .i64 0, .int .i64 0, .int .i64 0, .int .i64 0, .bool false, .bool false, .bool false, .int .u64 0, .int .i64 0, .string ⟨#[]⟩, .int .i64 0] := by
    have h1 := blk_new (w.alloc (.cells #[.slice Ar revs.length cr, dr] 31)) [.string ⟨#[]⟩, .int .i64 0, .int .i64 0, .int .i64 0, .int .i64 0, .bool false, .bool false, .bool false, .int .u64 0, .int .i64 0, .string ⟨#[]⟩, .int .i64 0] 40
    simp only [World.size_alloc] at h1
    exact h1
  have hB : Blk ((w.alloc (.cells #[.slice Ar revs.length cr, dr] 31)).alloc (.cells #[.string ⟨#[]⟩, .int .i64 0, .int .i64 0, .int .i64 0, .int .i64 0, .bool false, .bool false, .bool false, .int .u64 0, .int .i64 0, .string ⟨#[]⟩, .int .i64 0] 40)) w.heap.size 31 [.slice Ar revs.length cr, dr] := (blk_new w _ _).alloc _
  go_upto_region 1 with fail
  generalize (w.alloc (.cells #[.slice Ar revs.length cr, dr] 31)).alloc (.cells #[.string ⟨#[]⟩, .int .i64 0, .int .i64 0, .int .i64 0, .int .i64 0, .bool false, .bool false, .bool false, .int .u64 0, .int .i64 0, .string ⟨#[]⟩, .int .i64 0] 40) = W1 at hb0 hZ hB ⊢
  obtain ⟨d0, d1, -, -⟩ := box2 hB
  have HL := Lib.hid (refLog_any revs p (.slice Ar revs.length cr) dr W1 (HR.out.below hb0) hl)
  have Hb0 := Lib.hid hb0
  have HZ := Lib.hid hZ
  clear hb0 hZ hB
  go_wp2_with fail
  refine HL.out.mono ?_
  rintro e w2 ⟨A, c, rfl, hb2, hL⟩
  clear d0 d1
  have HB2 := Lib.hid hb2
  have HLL := Lib.hid hL
  have HZ2 := Lib.hid (HZ.out.below hb2 HZ.out.lt)
  obtain ⟨A', c', e, hcc, hmm, -⟩ := id hL
  injection e with e1 e2 e3
  subst e1 e3
  unfold maxLen at hmm
  clear hb2 hL HL e2
  have HRG : Hid (rGet revs p m = (logOf revs p).find? (fun v => decide (v.num = m))) := Lib.hid rfl
  have hll : (logOf revs p).length ≤ revs.length := HLN.out
  generalize logOf revs p = L at HLL hll hcc HRG ⊢
  go_wp2_with fail
  go_loopw [14] (fun s wr => ∃ k : Nat, s = .int .i64 k ∧ k ≤ L.length ∧ Hid ((L.take k).find? (fun v => decide (v.num = m)) = none ∧ Below w2.heap.size w2 wr)) (fun s _ => L.length - (intOf s).toNat)
  case atStart => exact ⟨0, rfl, Nat.zero_le _, by rw [List.take_zero]; rfl, Below.refl _ _⟩
  case round =>
    obtain ⟨k, rfl, hk, HI⟩ := hrel
    by_cases hlt : k < L.length
    · obtain ⟨ad, rfl, hab, hld⟩ := Revs.at_ (HLL.out.below HI.out.2) hlt
      have HFT := Lib.hid (find_take L (fun v => decide (v.num = m)) k hlt HI.out.1)
      generalize L[k] = r at hld HFT
      obtain ⟨x0, x1, x2, x3, x4, x5, x6, x7, x8, x9, x10, x11⟩ := hld
      have hX := blk_new wr [.string r.path, .int .i64 r.num, .int .i64 r.chg, .int .i64 r.act, .int .i64 r.ty.base, .bool r.ty.k, .bool r.ty.l, .bool r.ty.x, .int .u64 r.sum, .int .i64 r.size, .string r.frm, .int .i64 r.fnum] 40
      have hA1 := HI.out.2.alloc HI.out.2.size (.cells #[.string r.path, .int .i64 r.num, .int .i64 r.chg, .int .i64 r.act, .int .i64 r.ty.base, .bool r.ty.k, .bool r.ty.l, .bool r.ty.x, .int .u64 r.sum, .int .i64 r.size, .string r.frm, .int .i64 r.fnum] 40)
      go_upto_region 4 with fail
      clear x0 x1 x2 x3 x4 x5 x6 x7 x8 x9 x10 x11
      generalize wr.alloc (.cells #[.string r.path, .int .i64 r.num, .int .i64 r.chg, .int .i64 r.act, .int .i64 r.ty.base, .bool r.ty.k, .bool r.ty.l, .bool r.ty.x, .int .u64 r.sum, .int .i64 r.size, .string r.frm, .int .i64 r.fnum] 40) = V1 at hX hA1 ⊢
      obtain ⟨x0, x1, x2, x3, x4, x5, x6, x7, x8, x9, x10, x11⟩ := box12 hX
      have HA1 := Lib.hid hA1
      clear hX hA1
      by_cases hn : r.num = m
      · have q : (r.num == m) = true := by simpa using hn
        have HF := Lib.hid (HFT.out.1 (by simpa using hn))
        have hZ3 := HZ2.out.below HA1.out HZ2.out.lt
        obtain ⟨z0, z1, z2, z3, z4, z5, z6, z7, z8, z9, z10, z11⟩ := box12 hZ3
        obtain ⟨y0, y1, y2, y3, y4, y5, y6, y7, y8, y9, y10, y11⟩ := frz12 hZ3
        clear hn
        go_wp2_with fail
        have hZ9 := set12 hZ3 r
        have hB9 := below12 (below_next Hb0.out (below_next HB2.out HA1.out)) (show w.heap.size ≤ w.heap.size + 1 by omega) r
        generalize ((((((((((((V1.setCell ⟨w.heap.size + 1, 0, none⟩ (.string r.path)).setCell ⟨w.heap.size + 1, 1, none⟩ (.int .i64 r.num)).setCell ⟨w.heap.size + 1, 2, none⟩ (.int .i64 r.chg)).setCell ⟨w.heap.size + 1, 3, none⟩ (.int .i64 r.act)).setCell ⟨w.heap.size + 1, 4, none⟩ (.int .i64 r.ty.base)).setCell ⟨w.heap.size + 1, 5, none⟩ (.bool r.ty.k)).setCell ⟨w.heap.size + 1, 6, none⟩ (.bool r.ty.l)).setCell ⟨w.heap.size + 1, 7, none⟩ (.bool r.ty.x)).setCell ⟨w.heap.size + 1, 8, none⟩ (.int .u64 r.sum)).setCell ⟨w.heap.size + 1, 9, none⟩ (.int .i64 r.size)).setCell ⟨w.heap.size + 1, 10, none⟩ (.string r.frm)).setCell ⟨w.heap.size + 1, 11, none⟩ (.int .i64 r.fnum)) = W9 at hZ9 hB9 ⊢
        obtain ⟨e0, e1, e2, e3, e4, e5, e6, e7, e8, e9, e10, e11⟩ := box12 hZ9
        exact bodyPost_ret (v := .tuple #[.agg #[.string r.path, .int .i64 r.num, .int .i64 r.chg, .int .i64 r.act, .int .i64 r.ty.base, .bool r.ty.k, .bool r.ty.l, .bool r.ty.x, .int .u64 r.sum, .int .i64 r.size, .string r.frm, .int .i64 r.fnum], .bool true]) (by simp [results, Tryz.results123, go_sem, e0, e1, e2, e3, e4, e5, e6, e7, e8, e9, e10, e11]) rfl ⟨by rw [HRG.out, HF.out]; rfl, hB9⟩
      · have q : (r.num == m) = false := by simpa using hn
        have HF := Lib.hid (HFT.out.2 (by simpa using hn))
        clear hn
        go_wp2_with fail
        go_roundw
        case rel => exact ⟨k + 1, by go_num, by omega, HF.out, HA1.out⟩
        case measure => simp [intOf]; omega
    · have hke : k = L.length := by omega
      have HF : Hid (L.find? (fun v => decide (v.num = m)) = none) := Lib.hid (by have := HI.out.1; rwa [hke, List.take_length] at this)
      have hZ3 := HZ2.out.below HI.out.2 HZ2.out.lt
      obtain ⟨z0, z1, z2, z3, z4, z5, z6, z7, z8, z9, z10, z11⟩ := box12 hZ3
      obtain ⟨y0, y1, y2, y3, y4, y5, y6, y7, y8, y9, y10, y11⟩ := frz12 hZ3
      clear hke
      go_wp2_with fail
      have hZ9 : Blk ((((((((((((wr.setCell ⟨w.heap.size + 1, 0, none⟩ (.string ⟨#[]⟩)).setCell ⟨w.heap.size + 1, 1, none⟩ (.int .i64 0)).setCell ⟨w.heap.size + 1, 2, none⟩ (.int .i64 0)).setCell ⟨w.heap.size + 1, 3, none⟩ (.int .i64 0)).setCell ⟨w.heap.size + 1, 4, none⟩ (.int .i64 0)).setCell ⟨w.heap.size + 1, 5, none⟩ (.bool false)).setCell ⟨w.heap.size + 1, 6, none⟩ (.bool false)).setCell ⟨w.heap.size + 1, 7, none⟩ (.bool false)).setCell ⟨w.heap.size + 1, 8, none⟩ (.int .u64 0)).setCell ⟨w.heap.size + 1, 9, none⟩ (.int .i64 0)).setCell ⟨w.heap.size + 1, 10, none⟩ (.string ⟨#[]⟩)).setCell ⟨w.heap.size + 1, 11, none⟩ (.int .i64 0)) (w.heap.size + 1) 40 [.string ⟨#[]⟩, .int .i64 0, .int .i64 0, .int .i64 0, .int .i64 0, .bool false, .bool false, .bool false, .int .u64 0, .int .i64 0, .string ⟨#[]⟩, .int .i64 0] := set12 hZ3 zeroRev
      have hB9 : Below w.heap.size w ((((((((((((wr.setCell ⟨w.heap.size + 1, 0, none⟩ (.string ⟨#[]⟩)).setCell ⟨w.heap.size + 1, 1, none⟩ (.int .i64 0)).setCell ⟨w.heap.size + 1, 2, none⟩ (.int .i64 0)).setCell ⟨w.heap.size + 1, 3, none⟩ (.int .i64 0)).setCell ⟨w.heap.size + 1, 4, none⟩ (.int .i64 0)).setCell ⟨w.heap.size + 1, 5, none⟩ (.bool false)).setCell ⟨w.heap.size + 1, 6, none⟩ (.bool false)).setCell ⟨w.heap.size + 1, 7, none⟩ (.bool false)).setCell ⟨w.heap.size + 1, 8, none⟩ (.int .u64 0)).setCell ⟨w.heap.size + 1, 9, none⟩ (.int .i64 0)).setCell ⟨w.heap.size + 1, 10, none⟩ (.string ⟨#[]⟩)).setCell ⟨w.heap.size + 1, 11, none⟩ (.int .i64 0)) := below12 (below_next Hb0.out (below_next HB2.out HI.out.2)) (show w.heap.size ≤ w.heap.size + 1 by omega) zeroRev
      generalize ((((((((((((wr.setCell ⟨w.heap.size + 1, 0, none⟩ (.string ⟨#[]⟩)).setCell ⟨w.heap.size + 1, 1, none⟩ (.int .i64 0)).setCell ⟨w.heap.size + 1, 2, none⟩ (.int .i64 0)).setCell ⟨w.heap.size + 1, 3, none⟩ (.int .i64 0)).setCell ⟨w.heap.size + 1, 4, none⟩ (.int .i64 0)).setCell ⟨w.heap.size + 1, 5, none⟩ (.bool false)).setCell ⟨w.heap.size + 1, 6, none⟩ (.bool false)).setCell ⟨w.heap.size + 1, 7, none⟩ (.bool false)).setCell ⟨w.heap.size + 1, 8, none⟩ (.int .u64 0)).setCell ⟨w.heap.size + 1, 9, none⟩ (.int .i64 0)).setCell ⟨w.heap.size + 1, 10, none⟩ (.string ⟨#[]⟩)).setCell ⟨w.heap.size + 1, 11, none⟩ (.int .i64 0)) = W9 at hZ9 hB9 ⊢
      obtain ⟨e0, e1, e2, e3, e4, e5, e6, e7, e8, e9, e10, e11⟩ := box12 hZ9
      exact bodyPost_ret (v := .tuple #[.agg #[.string ⟨#[]⟩, .int .i64 0, .int .i64 0, .int .i64 0, .int .i64 0, .bool false, .bool false, .bool false, .int .u64 0, .int .i64 0, .string ⟨#[]⟩, .int .i64 0], .bool false]) (by simp [results, Tryz.results123, go_sem, e0, e1, e2, e3, e4, e5, e6, e7, e8, e9, e10, e11]) rfl ⟨by rw [HRG.out, HF.out]; rfl, hB9⟩
end Go.Proofs.YtnblfaagchflaaaGreatDoor
/- The reference's Gone, Live, Previous, First: the walks. -/
namespace Go.Proofs.YtnblfaagchflaaaGreatDoor
open Go.RowKit
set_option linter.unusedVariables false
set_option linter.unusedSimpArgs false

set_option maxRecDepth 100000 in
set_option maxHeartbeats 1000000 in
theorem refGone_any (r : Rev) (w : World) : Calls Tryz.prog 36 #[.agg #[.string r.path, .int .i64 r.num, .int .i64 r.chg, .int .i64 r.act, .int .i64 r.ty.base, .bool r.ty.k, .bool r.ty.l, .bool r.ty.x, .int .u64 r.sum, .int .i64 r.size, .string r.frm, .int .i64 r.fnum]] w fun e w' => e = .returned (.bool (!liveA r.act)) ∧ Below w.heap.size w w' := by
  have hA : Below w.heap.size w (w.alloc (.cells #[.string r.path, .int .i64 r.num, .int .i64 r.chg, .int .i64 r.act, .int .i64 r.ty.base, .bool r.ty.k, .bool r.ty.l, .bool r.ty.x, .int .u64 r.sum, .int .i64 r.size, .string r.frm, .int .i64 r.fnum] 40)) := (Below.refl _ _).alloc (Nat.le_refl _) _
  by_cases h3 : r.act = 3
  · have q : (r.act == 3) = true := by simpa using h3
    have HL : Hid ((!liveA r.act) = true) := Lib.hid (by rw [h3]; rfl)
    clear h3
    go_enter Tryz.func36, Tryz.ntmps36
    go_wp2_with fail
    go_ret
    exact ⟨ret_bool HL.out.symm, hA⟩
  · have q : (r.act == 3) = false := by simpa using h3
    by_cases h5 : r.act = 5
    · have q5 : (r.act == 5) = true := by simpa using h5
      have HL : Hid ((!liveA r.act) = true) := Lib.hid (by rw [h5]; rfl)
      clear h3 h5
      go_enter Tryz.func36, Tryz.ntmps36
      go_wp2_with fail
      go_ret
      exact ⟨ret_bool HL.out.symm, hA⟩
    · have q5 : (r.act == 5) = false := by simpa using h5
      have HL : Hid ((!liveA r.act) = false) := Lib.hid (by unfold liveA; simp [h3, h5])
      clear h3 h5
      go_enter Tryz.func36, Tryz.ntmps36
      go_wp2_with fail
      go_ret
      exact ⟨ret_bool HL.out.symm, hA⟩

set_option maxRecDepth 100000 in
set_option maxHeartbeats 4000000 in
theorem refPrev_any (revs : List Rev) (v : Rev) (dv dr : Value) (w : World) (hR : Revs w dv revs) (hl : revs.length ≤ 1000000) (hn : 0 ≤ v.num ∧ v.num ≤ 1000000) :
    Calls Tryz.prog 125 #[.agg #[dv, dr], .agg #[.string v.path, .int .i64 v.num, .int .i64 v.chg, .int .i64 v.act, .int .i64 v.ty.base, .bool v.ty.k, .bool v.ty.l, .bool v.ty.x, .int .u64 v.sum, .int .i64 v.size, .string v.frm, .int .i64 v.fnum]] w (RevPost w (rPrev revs v)) := by
  obtain ⟨Ar, cr, rfl, -⟩ := id hR
  have HR := Lib.hid hR
  clear hR
  have hb0 : Below w.heap.size w (((w.alloc (.cells #[.slice Ar revs.length cr, dr] 31)).alloc (.cells #[.string v.path, .int .i64 v.num, .int .i64 v.chg, .int .i64 v.act, .int .i64 v.ty.base, .bool v.ty.k, .bool v.ty.l, .bool v.ty.x, .int .u64 v.sum, .int .i64 v.size, .string v.frm, .int .i64 v.fnum] 40)).alloc (.cells #[.string ⟨#[]⟩, .int .i64 0, .int .i64 0, .int .i64 0, .int .i64 0, .bool false, .bool false, .bool false, .int .u64 0, .int .i64 0, .string ⟨#[]⟩, .int .i64 0] 40)) := (((Below.refl _ _).alloc (Nat.le_refl _) _).alloc (by simp) _).alloc (by simp; omega) _
  have hZ : Blk (((w.alloc (.cells #[.slice Ar revs.length cr, dr] 31)).alloc (.cells #[.string v.path, .int .i64 v.num, .int .i64 v.chg, .int .i64 v.act, .int .i64 v.ty.base, .bool v.ty.k, .bool v.ty.l, .bool v.ty.x, .int .u64 v.sum, .int .i64 v.size, .string v.frm, .int .i64 v.fnum] 40)).alloc (.cells #[.string ⟨#[]⟩, .int .i64 0, .int .i64 0, .int .i64 0, .int .i64 0, .bool false, .bool false, .bool false, .int .u64 0, .int .i64 0, .string ⟨#[]⟩, .int .i64 0] 40)) (w.heap.size + 1 + 1) 40 [.string ⟨#[]⟩, .int .i64 0, .int .i64 0, .int .i64 0, .int .i64 0, .bool false, .bool false, .bool false, .int .u64 0, .int .i64 0, .string ⟨#[]⟩, .int .i64 0] := by
    have h1 := blk_new ((w.alloc (.cells #[.slice Ar revs.length cr, dr] 31)).alloc (.cells #[.string v.path, .int .i64 v.num, .int .i64 v.chg, .int .i64 v.act, .int .i64 v.ty.base, .bool v.ty.k, .bool v.ty.l, .bool v.ty.x, .int .u64 v.sum, .int .i64 v.size, .string v.frm, .int .i64 v.fnum] 40)) [.string ⟨#[]⟩, .int .i64 0, .int .i64 0, .int .i64 0, .int .i64 0, .bool false, .bool false, .bool false, .int .u64 0, .int .i64 0, .string ⟨#[]⟩, .int .i64 0] 40
    simp only [World.size_alloc] at h1
    exact h1
  have hV : Blk (((w.alloc (.cells #[.slice Ar revs.length cr, dr] 31)).alloc (.cells #[.string v.path, .int .i64 v.num, .int .i64 v.chg, .int .i64 v.act, .int .i64 v.ty.base, .bool v.ty.k, .bool v.ty.l, .bool v.ty.x, .int .u64 v.sum, .int .i64 v.size, .string v.frm, .int .i64 v.fnum] 40)).alloc (.cells #[.string ⟨#[]⟩, .int .i64 0, .int .i64 0, .int .i64 0, .int .i64 0, .bool false, .bool false, .bool false, .int .u64 0, .int .i64 0, .string ⟨#[]⟩, .int .i64 0] 40)) (w.heap.size + 1) 40 [.string v.path, .int .i64 v.num, .int .i64 v.chg, .int .i64 v.act, .int .i64 v.ty.base, .bool v.ty.k, .bool v.ty.l, .bool v.ty.x, .int .u64 v.sum, .int .i64 v.size, .string v.frm, .int .i64 v.fnum] := by
    have h1 := (blk_new (w.alloc (.cells #[.slice Ar revs.length cr, dr] 31)) [.string v.path, .int .i64 v.num, .int .i64 v.chg, .int .i64 v.act, .int .i64 v.ty.base, .bool v.ty.k, .bool v.ty.l, .bool v.ty.x, .int .u64 v.sum, .int .i64 v.size, .string v.frm, .int .i64 v.fnum] 40).alloc (.cells #[.string ⟨#[]⟩, .int .i64 0, .int .i64 0, .int .i64 0, .int .i64 0, .bool false, .bool false, .bool false, .int .u64 0, .int .i64 0, .string ⟨#[]⟩, .int .i64 0] 40)
    simp only [World.size_alloc] at h1
    exact h1
  have hB : Blk (((w.alloc (.cells #[.slice Ar revs.length cr, dr] 31)).alloc (.cells #[.string v.path, .int .i64 v.num, .int .i64 v.chg, .int .i64 v.act, .int .i64 v.ty.base, .bool v.ty.k, .bool v.ty.l, .bool v.ty.x, .int .u64 v.sum, .int .i64 v.size, .string v.frm, .int .i64 v.fnum] 40)).alloc (.cells #[.string ⟨#[]⟩, .int .i64 0, .int .i64 0, .int .i64 0, .int .i64 0, .bool false, .bool false, .bool false, .int .u64 0, .int .i64 0, .string ⟨#[]⟩, .int .i64 0] 40)) w.heap.size 31 [.slice Ar revs.length cr, dr] := ((blk_new w _ _).alloc _).alloc _
  have n0 : 0 ≤ v.num := hn.1
  have n1 : v.num ≤ 1000000 := hn.2
  clear hn
  have HG := Lib.hid (fun p m X (hX : Below w.heap.size w X) => refGet_any revs p m (.slice Ar revs.length cr) dr X (HR.out.below hX) hl)
  go_enter Tryz.func125, Tryz.ntmps125
  go_upto_region 1 with fail
  generalize ((w.alloc (.cells #[.slice Ar revs.length cr, dr] 31)).alloc (.cells #[.string v.path, .int .i64 v.num, .int .i64 v.chg, .int .i64 v.act, .int .i64 v.ty.base, .bool v.ty.k, .bool v.ty.l, .bool v.ty.x, .int .u64 v.sum, .int .i64 v.size, .string v.frm, .int .i64 v.fnum] 40)).alloc (.cells #[.string ⟨#[]⟩, .int .i64 0, .int .i64 0, .int .i64 0, .int .i64 0, .bool false, .bool false, .bool false, .int .u64 0, .int .i64 0, .string ⟨#[]⟩, .int .i64 0] 40) = W1 at hb0 hZ hV hB ⊢
  obtain ⟨d0, d1, -, -⟩ := box2 hB
  obtain ⟨c0, c1, c2, c3, c4, c5, c6, c7, c8, c9, c10, c11⟩ := box12 hV
  have Hb0 := Lib.hid hb0
  have HZ := Lib.hid hZ
  have HG1 := Lib.hid (fun p m => HG.out p m W1 Hb0.out)
  clear hb0 hZ hV hB
  by_cases h1 : v.act = 1
  · have q : (v.act == 1) = true := by simpa using h1
    have HN : Hid (rPrev revs v = none) := Lib.hid (by unfold rPrev; rw [if_pos h1])
    obtain ⟨z0, z1, z2, z3, z4, z5, z6, z7, z8, z9, z10, z11⟩ := box12 HZ.out
    obtain ⟨y0, y1, y2, y3, y4, y5, y6, y7, y8, y9, y10, y11⟩ := frz12 HZ.out
    clear h1
    go_wp2_with fail
    have hZ9 : Blk ((((((((((((W1.setCell ⟨w.heap.size + 1 + 1, 0, none⟩ (.string ⟨#[]⟩)).setCell ⟨w.heap.size + 1 + 1, 1, none⟩ (.int .i64 0)).setCell ⟨w.heap.size + 1 + 1, 2, none⟩ (.int .i64 0)).setCell ⟨w.heap.size + 1 + 1, 3, none⟩ (.int .i64 0)).setCell ⟨w.heap.size + 1 + 1, 4, none⟩ (.int .i64 0)).setCell ⟨w.heap.size + 1 + 1, 5, none⟩ (.bool false)).setCell ⟨w.heap.size + 1 + 1, 6, none⟩ (.bool false)).setCell ⟨w.heap.size + 1 + 1, 7, none⟩ (.bool false)).setCell ⟨w.heap.size + 1 + 1, 8, none⟩ (.int .u64 0)).setCell ⟨w.heap.size + 1 + 1, 9, none⟩ (.int .i64 0)).setCell ⟨w.heap.size + 1 + 1, 10, none⟩ (.string ⟨#[]⟩)).setCell ⟨w.heap.size + 1 + 1, 11, none⟩ (.int .i64 0)) (w.heap.size + 1 + 1) 40 [.string ⟨#[]⟩, .int .i64 0, .int .i64 0, .int .i64 0, .int .i64 0, .bool false, .bool false, .bool false, .int .u64 0, .int .i64 0, .string ⟨#[]⟩, .int .i64 0] := set12 HZ.out zeroRev
    have hB9 : Below w.heap.size w ((((((((((((W1.setCell ⟨w.heap.size + 1 + 1, 0, none⟩ (.string ⟨#[]⟩)).setCell ⟨w.heap.size + 1 + 1, 1, none⟩ (.int .i64 0)).setCell ⟨w.heap.size + 1 + 1, 2, none⟩ (.int .i64 0)).setCell ⟨w.heap.size + 1 + 1, 3, none⟩ (.int .i64 0)).setCell ⟨w.heap.size + 1 + 1, 4, none⟩ (.int .i64 0)).setCell ⟨w.heap.size + 1 + 1, 5, none⟩ (.bool false)).setCell ⟨w.heap.size + 1 + 1, 6, none⟩ (.bool false)).setCell ⟨w.heap.size + 1 + 1, 7, none⟩ (.bool false)).setCell ⟨w.heap.size + 1 + 1, 8, none⟩ (.int .u64 0)).setCell ⟨w.heap.size + 1 + 1, 9, none⟩ (.int .i64 0)).setCell ⟨w.heap.size + 1 + 1, 10, none⟩ (.string ⟨#[]⟩)).setCell ⟨w.heap.size + 1 + 1, 11, none⟩ (.int .i64 0)) := below12 Hb0.out (show w.heap.size ≤ w.heap.size + 1 + 1 by omega) zeroRev
    generalize ((((((((((((W1.setCell ⟨w.heap.size + 1 + 1, 0, none⟩ (.string ⟨#[]⟩)).setCell ⟨w.heap.size + 1 + 1, 1, none⟩ (.int .i64 0)).setCell ⟨w.heap.size + 1 + 1, 2, none⟩ (.int .i64 0)).setCell ⟨w.heap.size + 1 + 1, 3, none⟩ (.int .i64 0)).setCell ⟨w.heap.size + 1 + 1, 4, none⟩ (.int .i64 0)).setCell ⟨w.heap.size + 1 + 1, 5, none⟩ (.bool false)).setCell ⟨w.heap.size + 1 + 1, 6, none⟩ (.bool false)).setCell ⟨w.heap.size + 1 + 1, 7, none⟩ (.bool false)).setCell ⟨w.heap.size + 1 + 1, 8, none⟩ (.int .u64 0)).setCell ⟨w.heap.size + 1 + 1, 9, none⟩ (.int .i64 0)).setCell ⟨w.heap.size + 1 + 1, 10, none⟩ (.string ⟨#[]⟩)).setCell ⟨w.heap.size + 1 + 1, 11, none⟩ (.int .i64 0)) = W9 at hZ9 hB9 ⊢
    obtain ⟨e0, e1, e2, e3, e4, e5, e6, e7, e8, e9, e10, e11⟩ := box12 hZ9
    exact bodyPost_ret (v := .tuple #[.agg #[.string ⟨#[]⟩, .int .i64 0, .int .i64 0, .int .i64 0, .int .i64 0, .bool false, .bool false, .bool false, .int .u64 0, .int .i64 0, .string ⟨#[]⟩, .int .i64 0], .bool false]) (by simp [results, Tryz.results125, go_sem, e0, e1, e2, e3, e4, e5, e6, e7, e8, e9, e10, e11]) rfl ⟨by rw [HN.out]; rfl, hB9⟩
  · have q : (v.act == 1) = false := by simpa using h1
    by_cases h4 : v.act = 4
    · have q4 : (v.act == 4) = true := by simpa using h4
      have HN : Hid (rPrev revs v = rGet revs v.frm v.fnum) := Lib.hid (by unfold rPrev; rw [if_neg h1, if_pos h4])
      have HG2 := Lib.hid (HG1.out v.frm v.fnum)
      clear h1 h4
      go_wp2_with fail
      refine HG2.out.mono ?_
      rintro e w2 ⟨rfl, hb2⟩
      have hZ2 := HZ.out.below hb2 HZ.out.lt
      obtain ⟨z0, z1, z2, z3, z4, z5, z6, z7, z8, z9, z10, z11⟩ := box12 hZ2
      obtain ⟨y0, y1, y2, y3, y4, y5, y6, y7, y8, y9, y10, y11⟩ := frz12 hZ2
      have HB2 := Lib.hid hb2
      clear hb2 d0 d1 c0 c1 c2 c3 c4 c5 c6 c7 c8 c9 c10 c11
      generalize rGet revs v.frm v.fnum = o at HN ⊢
      generalize hso : someR o = r
      have HSO := Lib.hid hso
      clear hso
      go_wp2_with fail
      have hZ9 := set12 hZ2 r
      have hB9 := below12 (below_next Hb0.out HB2.out) (show w.heap.size ≤ w.heap.size + 1 + 1 by omega) r
      generalize ((((((((((((w2.setCell ⟨w.heap.size + 1 + 1, 0, none⟩ (.string r.path)).setCell ⟨w.heap.size + 1 + 1, 1, none⟩ (.int .i64 r.num)).setCell ⟨w.heap.size + 1 + 1, 2, none⟩ (.int .i64 r.chg)).setCell ⟨w.heap.size + 1 + 1, 3, none⟩ (.int .i64 r.act)).setCell ⟨w.heap.size + 1 + 1, 4, none⟩ (.int .i64 r.ty.base)).setCell ⟨w.heap.size + 1 + 1, 5, none⟩ (.bool r.ty.k)).setCell ⟨w.heap.size + 1 + 1, 6, none⟩ (.bool r.ty.l)).setCell ⟨w.heap.size + 1 + 1, 7, none⟩ (.bool r.ty.x)).setCell ⟨w.heap.size + 1 + 1, 8, none⟩ (.int .u64 r.sum)).setCell ⟨w.heap.size + 1 + 1, 9, none⟩ (.int .i64 r.size)).setCell ⟨w.heap.size + 1 + 1, 10, none⟩ (.string r.frm)).setCell ⟨w.heap.size + 1 + 1, 11, none⟩ (.int .i64 r.fnum)) = W9 at hZ9 hB9 ⊢
      obtain ⟨e0, e1, e2, e3, e4, e5, e6, e7, e8, e9, e10, e11⟩ := box12 hZ9
      exact bodyPost_ret (v := .tuple #[.agg #[.string r.path, .int .i64 r.num, .int .i64 r.chg, .int .i64 r.act, .int .i64 r.ty.base, .bool r.ty.k, .bool r.ty.l, .bool r.ty.x, .int .u64 r.sum, .int .i64 r.size, .string r.frm, .int .i64 r.fnum], .bool o.isSome]) (by simp [results, Tryz.results125, go_sem, e0, e1, e2, e3, e4, e5, e6, e7, e8, e9, e10, e11]) rfl ⟨by rw [HN.out, HSO.out], hB9⟩
    · have q4 : (v.act == 4) = false := by simpa using h4
      have HN : Hid (rPrev revs v = rGet revs v.path (v.num - 1)) := Lib.hid (by unfold rPrev; rw [if_neg h1, if_neg h4])
      have HG2 := Lib.hid (HG1.out v.path (v.num - 1))
      clear h1 h4
      go_wp2_with fail
      refine HG2.out.mono ?_
      rintro e w2 ⟨rfl, hb2⟩
      have hZ2 := HZ.out.below hb2 HZ.out.lt
      obtain ⟨z0, z1, z2, z3, z4, z5, z6, z7, z8, z9, z10, z11⟩ := box12 hZ2
      obtain ⟨y0, y1, y2, y3, y4, y5, y6, y7, y8, y9, y10, y11⟩ := frz12 hZ2
      have HB2 := Lib.hid hb2
      clear hb2 d0 d1 c0 c1 c2 c3 c4 c5 c6 c7 c8 c9 c10 c11
      generalize rGet revs v.path (v.num - 1) = o at HN ⊢
      generalize hso : someR o = r
      have HSO := Lib.hid hso
      clear hso
      go_wp2_with fail
      have hZ9 := set12 hZ2 r
      have hB9 := below12 (below_next Hb0.out HB2.out) (show w.heap.size ≤ w.heap.size + 1 + 1 by omega) r
      generalize ((((((((((((w2.setCell ⟨w.heap.size + 1 + 1, 0, none⟩ (.string r.path)).setCell ⟨w.heap.size + 1 + 1, 1, none⟩ (.int .i64 r.num)).setCell ⟨w.heap.size + 1 + 1, 2, none⟩ (.int .i64 r.chg)).setCell ⟨w.heap.size + 1 + 1, 3, none⟩ (.int .i64 r.act)).setCell ⟨w.heap.size + 1 + 1, 4, none⟩ (.int .i64 r.ty.base)).setCell ⟨w.heap.size + 1 + 1, 5, none⟩ (.bool r.ty.k)).setCell ⟨w.heap.size + 1 + 1, 6, none⟩ (.bool r.ty.l)).setCell ⟨w.heap.size + 1 + 1, 7, none⟩ (.bool r.ty.x)).setCell ⟨w.heap.size + 1 + 1, 8, none⟩ (.int .u64 r.sum)).setCell ⟨w.heap.size + 1 + 1, 9, none⟩ (.int .i64 r.size)).setCell ⟨w.heap.size + 1 + 1, 10, none⟩ (.string r.frm)).setCell ⟨w.heap.size + 1 + 1, 11, none⟩ (.int .i64 r.fnum)) = W9 at hZ9 hB9 ⊢
      obtain ⟨e0, e1, e2, e3, e4, e5, e6, e7, e8, e9, e10, e11⟩ := box12 hZ9
      exact bodyPost_ret (v := .tuple #[.agg #[.string r.path, .int .i64 r.num, .int .i64 r.chg, .int .i64 r.act, .int .i64 r.ty.base, .bool r.ty.k, .bool r.ty.l, .bool r.ty.x, .int .u64 r.sum, .int .i64 r.size, .string r.frm, .int .i64 r.fnum], .bool o.isSome]) (by simp [results, Tryz.results125, go_sem, e0, e1, e2, e3, e4, e5, e6, e7, e8, e9, e10, e11]) rfl ⟨by rw [HN.out, HSO.out], hB9⟩

/-- The state of First's loop: the line is still to be followed from v'. -/
structure FiSt (revs : List Rev) (v : Rev) (w wr : World) (dv dr : Value) (k : Nat) (v' : Rev) : Prop where
  bel : Below w.heap.size w wr
  boxD : Blk wr w.heap.size 31 [dv, dr]
  box3 : Blk wr (w.heap.size + 1) 40 [.string v'.path, .int .i64 v'.num, .int .i64 v'.chg, .int .i64 v'.act, .int .i64 v'.ty.base, .bool v'.ty.k, .bool v'.ty.l, .bool v'.ty.x, .int .u64 v'.sum, .int .i64 v'.size, .string v'.frm, .int .i64 v'.fnum]
  box4 : Blk wr (w.heap.size + 1 + 1) 90 [.string ⟨#[]⟩, .int .i64 0]
  eq : rFirst revs v' = rFirst revs v
  num : 0 ≤ v'.num ∧ v'.num ≤ 1000000
  left : revs.countP (fun x => decide (x.chg < v'.chg)) ≤ k
theorem FiSt.under {revs : List Rev} {v v' : Rev} {w wr X : World} {dv dr : Value} {k : Nat} (h : FiSt revs v w wr dv dr k v') (hX : Below wr.heap.size wr X) : FiSt revs v w X dv dr k v' :=
  ⟨below_next h.bel hX, h.boxD.below hX h.boxD.lt, h.box3.below hX h.box3.lt, h.box4.below hX h.box4.lt, h.eq, h.num, h.left⟩
set_option maxRecDepth 100000 in
set_option maxHeartbeats 4000000 in
theorem refFirst_any (revs : List Rev) (v : Rev) (dv dr : Value) (w : World) (hR : Revs w dv revs) (hl : revs.length ≤ 1000000) (hn : 0 ≤ v.num ∧ v.num ≤ 1000000) (hns : ∀ r ∈ revs, 0 ≤ r.num ∧ r.num ≤ 1000000) :
    Calls Tryz.prog 124 #[.agg #[dv, dr], .agg #[.string v.path, .int .i64 v.num, .int .i64 v.chg, .int .i64 v.act, .int .i64 v.ty.base, .bool v.ty.k, .bool v.ty.l, .bool v.ty.x, .int .u64 v.sum, .int .i64 v.size, .string v.frm, .int .i64 v.fnum]] w fun e w' => e = .returned (.agg #[.string (rFirst revs v).1, .int .i64 (rFirst revs v).2]) ∧ Below w.heap.size w w' := by
  obtain ⟨Ar, cr, rfl, -⟩ := id hR
  have HR := Lib.hid hR
  have HNS := Lib.hid hns
  clear hR hns
  have hb0 : Below w.heap.size w (((w.alloc (.cells #[.slice Ar revs.length cr, dr] 31)).alloc (.cells #[.string v.path, .int .i64 v.num, .int .i64 v.chg, .int .i64 v.act, .int .i64 v.ty.base, .bool v.ty.k, .bool v.ty.l, .bool v.ty.x, .int .u64 v.sum, .int .i64 v.size, .string v.frm, .int .i64 v.fnum] 40)).alloc (.cells #[.string ⟨#[]⟩, .int .i64 0] 90)) := (((Below.refl _ _).alloc (Nat.le_refl _) _).alloc (by simp) _).alloc (by simp; omega) _
  have hZ : Blk (((w.alloc (.cells #[.slice Ar revs.length cr, dr] 31)).alloc (.cells #[.string v.path, .int .i64 v.num, .int .i64 v.chg, .int .i64 v.act, .int .i64 v.ty.base, .bool v.ty.k, .bool v.ty.l, .bool v.ty.x, .int .u64 v.sum, .int .i64 v.size, .string v.frm, .int .i64 v.fnum] 40)).alloc (.cells #[.string ⟨#[]⟩, .int .i64 0] 90)) (w.heap.size + 1 + 1) 90 [.string ⟨#[]⟩, .int .i64 0] := by
    have h1 := blk_new ((w.alloc (.cells #[.slice Ar revs.length cr, dr] 31)).alloc (.cells #[.string v.path, .int .i64 v.num, .int .i64 v.chg, .int .i64 v.act, .int .i64 v.ty.base, .bool v.ty.k, .bool v.ty.l, .bool v.ty.x, .int .u64 v.sum, .int .i64 v.size, .string v.frm, .int .i64 v.fnum] 40)) [.string ⟨#[]⟩, .int .i64 0] 90
    simp only [World.size_alloc] at h1
    exact h1
  have hV : Blk (((w.alloc (.cells #[.slice Ar revs.length cr, dr] 31)).alloc (.cells #[.string v.path, .int .i64 v.num, .int .i64 v.chg, .int .i64 v.act, .int .i64 v.ty.base, .bool v.ty.k, .bool v.ty.l, .bool v.ty.x, .int .u64 v.sum, .int .i64 v.size, .string v.frm, .int .i64 v.fnum] 40)).alloc (.cells #[.string ⟨#[]⟩, .int .i64 0] 90)) (w.heap.size + 1) 40 [.string v.path, .int .i64 v.num, .int .i64 v.chg, .int .i64 v.act, .int .i64 v.ty.base, .bool v.ty.k, .bool v.ty.l, .bool v.ty.x, .int .u64 v.sum, .int .i64 v.size, .string v.frm, .int .i64 v.fnum] := by
    have h1 := (blk_new (w.alloc (.cells #[.slice Ar revs.length cr, dr] 31)) [.string v.path, .int .i64 v.num, .int .i64 v.chg, .int .i64 v.act, .int .i64 v.ty.base, .bool v.ty.k, .bool v.ty.l, .bool v.ty.x, .int .u64 v.sum, .int .i64 v.size, .string v.frm, .int .i64 v.fnum] 40).alloc (.cells #[.string ⟨#[]⟩, .int .i64 0] 90)
    simp only [World.size_alloc] at h1
    exact h1
  have hB : Blk (((w.alloc (.cells #[.slice Ar revs.length cr, dr] 31)).alloc (.cells #[.string v.path, .int .i64 v.num, .int .i64 v.chg, .int .i64 v.act, .int .i64 v.ty.base, .bool v.ty.k, .bool v.ty.l, .bool v.ty.x, .int .u64 v.sum, .int .i64 v.size, .string v.frm, .int .i64 v.fnum] 40)).alloc (.cells #[.string ⟨#[]⟩, .int .i64 0] 90)) w.heap.size 31 [.slice Ar revs.length cr, dr] := ((blk_new w _ _).alloc _).alloc _
  have HS0 : Hid (FiSt revs v w (((w.alloc (.cells #[.slice Ar revs.length cr, dr] 31)).alloc (.cells #[.string v.path, .int .i64 v.num, .int .i64 v.chg, .int .i64 v.act, .int .i64 v.ty.base, .bool v.ty.k, .bool v.ty.l, .bool v.ty.x, .int .u64 v.sum, .int .i64 v.size, .string v.frm, .int .i64 v.fnum] 40)).alloc (.cells #[.string ⟨#[]⟩, .int .i64 0] 90)) (.slice Ar revs.length cr) dr (revs.countP (fun x => decide (x.chg < v.chg))) v) := Lib.hid ⟨hb0, hB, hV, hZ, rfl, hn, Nat.le_refl _⟩
  clear hb0 hZ hV hB hn
  go_enter Tryz.func124, Tryz.ntmps124
  go_wp2_with fail
  generalize ((w.alloc (.cells #[.slice Ar revs.length cr, dr] 31)).alloc (.cells #[.string v.path, .int .i64 v.num, .int .i64 v.chg, .int .i64 v.act, .int .i64 v.ty.base, .bool v.ty.k, .bool v.ty.l, .bool v.ty.x, .int .u64 v.sum, .int .i64 v.size, .string v.frm, .int .i64 v.fnum] 40)).alloc (.cells #[.string ⟨#[]⟩, .int .i64 0] 90) = W1 at HS0 ⊢
  go_loopg [] (revs.countP (fun x => decide (x.chg < v.chg))) (fun k wr => ∃ v', Hid (FiSt revs v w wr (.slice Ar revs.length cr) dr k v'))
  case atStart => exact ⟨v, HS0.out⟩
  case round =>
    obtain ⟨v', HS⟩ := hrel
    clear HS0
    have HPV := Lib.hid (refPrev_any revs v' (.slice Ar revs.length cr) dr wr (HR.out.below HS.out.bel) hl HS.out.num)
    obtain ⟨d0, d1, -, -⟩ := box2 HS.out.boxD
    obtain ⟨c0, c1, c2, c3, c4, c5, c6, c7, c8, c9, c10, c11⟩ := box12 HS.out.box3
    have HP1 : Hid (rPrev revs v' = none → rFirst revs v' = (v'.path, v'.num)) := Lib.hid rFirst_none
    have HP2 : Hid (∀ u, rPrev revs v' = some u → (u ∈ revs ∧ (u.chg < v'.chg → rFirst revs v' = rFirst revs u) ∧ (¬ u.chg < v'.chg → rFirst revs v' = (v'.path, v'.num)))) := Lib.hid (fun u hu => ⟨rPrev_mem hu, fun h => rFirst_some hu h, fun h => rFirst_stop hu h⟩)
    go_wp2_with fail
    refine HPV.out.mono ?_
    rintro e w2 ⟨rfl, hb2⟩
    clear d0 d1 c0 c1 c2 c3 c4 c5 c6 c7 c8 c9 c10 c11 HPV
    have HB2 := Lib.hid hb2
    clear hb2
    generalize rPrev revs v' = o at HP1 HP2 ⊢
    cases o with
    | none =>
      have HFI : Hid (rFirst revs v = (v'.path, v'.num)) := Lib.hid (by rw [← HS.out.eq]; exact HP1.out rfl)
      have hY := blk_new w2 [.string (someR none).path, .int .i64 (someR none).num, .int .i64 (someR none).chg, .int .i64 (someR none).act, .int .i64 (someR none).ty.base, .bool (someR none).ty.k, .bool (someR none).ty.l, .bool (someR none).ty.x, .int .u64 (someR none).sum, .int .i64 (someR none).size, .string (someR none).frm, .int .i64 (someR none).fnum] 40
      have hA5 : Below wr.heap.size wr (w2.alloc (.cells #[.string (someR none).path, .int .i64 (someR none).num, .int .i64 (someR none).chg, .int .i64 (someR none).act, .int .i64 (someR none).ty.base, .bool (someR none).ty.k, .bool (someR none).ty.l, .bool (someR none).ty.x, .int .u64 (someR none).sum, .int .i64 (someR none).size, .string (someR none).frm, .int .i64 (someR none).fnum] 40)) := below_alloc' HB2.out _
      go_upto_region 2 with fail
      generalize w2.alloc (.cells #[.string (someR none).path, .int .i64 (someR none).num, .int .i64 (someR none).chg, .int .i64 (someR none).act, .int .i64 (someR none).ty.base, .bool (someR none).ty.k, .bool (someR none).ty.l, .bool (someR none).ty.x, .int .u64 (someR none).sum, .int .i64 (someR none).size, .string (someR none).frm, .int .i64 (someR none).fnum] 40) = V3 at hY hA5 ⊢
      have HS3 := Lib.hid (HS.out.under hA5)
      obtain ⟨c0, c1, c2, c3, c4, c5, c6, c7, c8, c9, c10, c11⟩ := box12 HS3.out.box3
      obtain ⟨z0, z1, y0, y1⟩ := box2 HS3.out.box4
      clear hY hA5
      go_wp2_with fail
      have hZ9 := (HS3.out.box4.set_ 0 (.string v'.path)).set_ 1 (.int .i64 v'.num)
      have hB9 := (HS3.out.bel.setCell (p := ⟨w.heap.size + 1 + 1, 0, none⟩) (by simp; omega) (.string v'.path)).setCell (p := ⟨w.heap.size + 1 + 1, 1, none⟩) (by simp; omega) (.int .i64 v'.num)
      generalize (V3.setCell ⟨w.heap.size + 1 + 1, 0, none⟩ (.string v'.path)).setCell ⟨w.heap.size + 1 + 1, 1, none⟩ (.int .i64 v'.num) = W9 at hZ9 hB9 ⊢
      obtain ⟨e0, e1, -, -⟩ := box2 hZ9
      exact bodyPost_ret (v := .agg #[.string v'.path, .int .i64 v'.num]) (by simp [results, Tryz.results124, go_sem, e0, e1]) rfl ⟨by rw [HFI.out], hB9⟩
    | some u =>
      obtain ⟨hum, hu1, hu2⟩ := HP2.out u rfl
      have HUM := Lib.hid (HNS.out u hum)
      have HCN := Lib.hid (fun h : u.chg < v'.chg => chg_count hum h)
      have hY := blk_new w2 [.string u.path, .int .i64 u.num, .int .i64 u.chg, .int .i64 u.act, .int .i64 u.ty.base, .bool u.ty.k, .bool u.ty.l, .bool u.ty.x, .int .u64 u.sum, .int .i64 u.size, .string u.frm, .int .i64 u.fnum] 40
      have hA5 : Below wr.heap.size wr (w2.alloc (.cells #[.string u.path, .int .i64 u.num, .int .i64 u.chg, .int .i64 u.act, .int .i64 u.ty.base, .bool u.ty.k, .bool u.ty.l, .bool u.ty.x, .int .u64 u.sum, .int .i64 u.size, .string u.frm, .int .i64 u.fnum] 40)) := below_alloc' HB2.out _
      have hsu : someR (some u) = u := rfl
      go_upto_region 2 with fail
      clear hsu
      generalize w2.alloc (.cells #[.string u.path, .int .i64 u.num, .int .i64 u.chg, .int .i64 u.act, .int .i64 u.ty.base, .bool u.ty.k, .bool u.ty.l, .bool u.ty.x, .int .u64 u.sum, .int .i64 u.size, .string u.frm, .int .i64 u.fnum] 40) = V3 at hY hA5 ⊢
      have HS3 := Lib.hid (HS.out.under hA5)
      obtain ⟨c0, c1, c2, c3, c4, c5, c6, c7, c8, c9, c10, c11⟩ := box12 HS3.out.box3
      obtain ⟨b0, b1, b2, b3, b4, b5, b6, b7, b8, b9, b10, b11⟩ := box12 hY
      by_cases hc : u.chg < v'.chg
      · have q : decide (v'.chg ≤ u.chg) = false := by simp; omega
        have HE : Hid (rFirst revs u = rFirst revs v) := Lib.hid (by rw [← hu1 hc]; exact HS.out.eq)
        have HLT := Lib.hid (HCN.out hc)
        obtain ⟨f0, f1, f2, f3, f4, f5, f6, f7, f8, f9, f10, f11⟩ := frz12 HS3.out.box3
        clear hY hA5 hu1 hu2 hum hc
        go_wp2_with fail
        have hV9 := set12 HS3.out.box3 u
        have hB9 := below12 HS3.out.bel (show w.heap.size ≤ w.heap.size + 1 by omega) u
        have hD9 := far12 HS3.out.boxD (show w.heap.size + 1 ≠ w.heap.size by omega) u
        have hF9 := far12 HS3.out.box4 (show w.heap.size + 1 ≠ w.heap.size + 1 + 1 by omega) u
        go_roundg (gk - 1)
        case measure => have h1 := HLT.out; have h2 := HS3.out.left; omega
        case rel => exact ⟨u, hB9, hD9, hV9, hF9, HE.out, HUM.out, by have h1 := HLT.out; have h2 := HS3.out.left; omega⟩
      · have q : decide (v'.chg ≤ u.chg) = true := by simp; omega
        have HFI : Hid (rFirst revs v = (v'.path, v'.num)) := Lib.hid (by rw [← HS.out.eq]; exact hu2 (by omega))
        obtain ⟨z0, z1, y0, y1⟩ := box2 HS3.out.box4
        clear hY hA5 hu1 hu2 hum hc
        go_wp2_with fail
        have hZ9 := (HS3.out.box4.set_ 0 (.string v'.path)).set_ 1 (.int .i64 v'.num)
        have hB9 := (HS3.out.bel.setCell (p := ⟨w.heap.size + 1 + 1, 0, none⟩) (by simp; omega) (.string v'.path)).setCell (p := ⟨w.heap.size + 1 + 1, 1, none⟩) (by simp; omega) (.int .i64 v'.num)
        generalize (V3.setCell ⟨w.heap.size + 1 + 1, 0, none⟩ (.string v'.path)).setCell ⟨w.heap.size + 1 + 1, 1, none⟩ (.int .i64 v'.num) = W9 at hZ9 hB9 ⊢
        obtain ⟨e0, e1, -, -⟩ := box2 hZ9
        exact bodyPost_ret (v := .agg #[.string v'.path, .int .i64 v'.num]) (by simp [results, Tryz.results124, go_sem, e0, e1]) rfl ⟨by rw [HFI.out], hB9⟩
end Go.Proofs.YtnblfaagchflaaaGreatDoor
