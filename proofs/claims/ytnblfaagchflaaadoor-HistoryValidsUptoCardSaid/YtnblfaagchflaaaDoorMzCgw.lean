/- The reference's Changes: the walk. -/
import Derived.Test.YtnblfaagchflaaaDoorMzChn
import Derived.Test.YtnblfaagchflaaaDoorMgw19
namespace Go.Proofs.YtnblfaagchflaaaDoor
open Go.RowKit
set_option linter.unusedVariables false
set_option linter.unusedSimpArgs false

/-- The changes gathered of the first k revisions, in memory. -/
def CgSt (D : Dep) (k : Nat) (w wr : World) (v : Value) : Prop := Below w.heap.size w wr ∧ (chgsL D k = none ∧ v = .slice none 0 0 ∨
  ∃ (c : Chg) (Q : List ChV) (ev rv : Value) (g cap : Nat), chgsL D k = some (Q.map (·.1), c) ∧ v = .slice (some ⟨g, 0, none⟩) (Q.length + 1) cap ∧ Q.length + 1 ≤ k ∧ c.edits.length ≤ k ∧ c.recs.length ≤ k * 60 ∧ ChO wr w.heap.size v Q (c, ev, rv))
/-- What Changes leaves. -/
def CgPost (D : Dep) (w : World) (e : Ending) (w' : World) : Prop := ∃ A c ps, e = .returned (.slice A ps.length c) ∧ Below w.heap.size w w' ∧ Chgs w' (.slice A ps.length c) ps ∧ ps.map (·.1) = listO (chgsL D D.revs.length) ∧ Fresh w.heap.size (.slice A ps.length c) ∧ ∀ p ∈ ps, Fresh w.heap.size p.2.1 ∧ Fresh w.heap.size p.2.2
theorem cgSt_post {D : Dep} {w wr : World} {A : Option Addr} {n c : Nat} (h : CgSt D D.revs.length w wr (.slice A n c)) : CgPost D w (.returned (.slice A n c)) wr := by
  obtain ⟨hb, ⟨h1, h2⟩ | ⟨ch, Q, ev, rv, g, cap, h1, h2, -, -, -, hO⟩⟩ := h
  · injection h2 with e1 e2 e3
    subst e1 e2 e3
    refine ⟨none, 0, [], rfl, hb, ⟨?_, fun p hp => by cases hp⟩, by rw [h1]; rfl, (fun x e => by cases e), fun p hp => by cases hp⟩
    exact Row.of_own (World.ownsRow_nil _ 0 42 5)
  · injection h2 with e1 e2 e3
    subst e1 e2 e3
    refine ⟨some ⟨g, 0, none⟩, c, Q ++ [(ch, ev, rv)], by rw [List.length_append, List.length_singleton], hb, ?_, by rw [h1]; simp [listO], fun x e => (hO.own.lt x e).1, fun p hp => ⟨fun x e => ((hO.rows p hp).1.lt x e).1, fun x e => ((hO.rows p hp).2.lt x e).1⟩⟩
    have := hO.chgs
    rw [List.length_append, List.length_singleton]
    exact this
theorem own_ptr {w : World} {base : Nat} {e : TypeId} {size n c : Nat} {A : Option Addr} {xs : List Value} (h : w.ownsRow base e size (.slice A n c) n xs) (hn : 0 < n) : ∃ g, A = some ⟨g, 0, none⟩ := by
  obtain ⟨h1, h2 | ⟨g', cap, cur, e1, h3, h4, h5, h6, h7, h8⟩⟩ := h
  · have := h2.1; injection this with _ e2 _; omega
  · injection e1 with e1 _ _
    exact ⟨g', e1⟩
theorem cgSt_one {D : Dep} {k : Nat} {w w' : World} {Q : List ChV} {ch : Chg} {ev rv : Value} {g c : Nat} {r : Rev} (hb : Below w.heap.size w w') (h1 : chgsL D (k + 1) = some (Q.map (·.1), chAdd D r ch)) (hQ : Q.length ≤ k) (he : ch.edits.length ≤ k) (hr : ch.recs.length ≤ k * 60) (hd : D.recs.length ≤ 60) (h : ChO w' w.heap.size (.slice (some ⟨g, 0, none⟩) (Q.length + 1) c) Q (chAdd D r ch, ev, rv)) :
    CgSt D (k + 1) w w' (.slice (some ⟨g, 0, none⟩) (Q.length + 1) c) := by
  refine ⟨hb, .inr ⟨_, Q, ev, rv, g, c, h1, rfl, by omega, ?_, ?_, h⟩⟩
  · show (ch.edits ++ [edtW r]).length ≤ k + 1
    rw [List.length_append, List.length_singleton]; omega
  · show (ch.recs ++ D.recs.filter _).length ≤ (k + 1) * 60
    rw [List.length_append]
    have := List.length_filter_le (fun x : Rcd => decide (x.to = r.path) && decide (x.num = r.num)) D.recs
    omega
set_option maxRecDepth 100000 in
set_option maxHeartbeats 8000000 in
theorem changes_any (D : Dep) (dv dr : Value) (w : World) (hR : Revs w dv D.revs) (hQ : Rcds w dr D.recs) (h60 : D.revs.length ≤ 60) (h61 : D.recs.length ≤ 60) :
    Calls Tryd.prog 12 #[.agg #[dv, dr]] w (CgPost D w) := by
  obtain ⟨Ar, cr, rfl, -⟩ := id hR
  obtain ⟨Aq, cq, rfl, -⟩ := id hQ
  have hB0 := blk_new w [.slice Ar D.revs.length cr, .slice Aq D.recs.length cq] 25
  have hb0 : Below w.heap.size w (w.alloc (.cells #[.slice Ar D.revs.length cr, .slice Aq D.recs.length cq] 25)) := (Below.refl _ _).alloc (Nat.le_refl _) _
  go_enter Tryd.func12, Tryd.ntmps12
  go_upto_region 2 with fail
  generalize w.alloc (.cells #[.slice Ar D.revs.length cr, .slice Aq D.recs.length cq] 25) = W1 at hB0 hb0 ⊢
  generalize hg1 : w.heap.size = g1 at hB0 ⊢
  have HB0 := Lib.hid hB0
  have Hb0 := Lib.hid hb0
  have HR := Lib.hid (hR.below hb0)
  have HQ := Lib.hid (hQ.below hb0)
  have HG1 := Lib.hid hg1
  obtain ⟨d0, d1, -, -⟩ := box2 hB0
  clear hR hQ hB0 hb0 hg1
  go_wp2_with fail
  clear d0 d1
  go_loopw [3, 12] (fun u s wr => ∃ (k : Nat) (A : Option Addr) (n c : Nat), s = .int .i64 k ∧ u = .slice A n c ∧ k ≤ D.revs.length ∧ Hid (CgSt D k W1 wr (.slice A n c))) (fun _ s _ => D.revs.length - (intOf s).toNat)
  case atStart => exact ⟨0, none, 0, 0, rfl, rfl, Nat.zero_le _, Below.refl _ _, .inl ⟨by unfold chgsL; rw [List.take_zero]; rfl, rfl⟩⟩
  case round =>
    obtain ⟨k, A, n, c, rfl, rfl, hk, HI⟩ := hrel
    by_cases hlt : k < D.revs.length
    · obtain ⟨ad, rfl, hab, hld⟩ := Revs.at_ (HR.out.below HI.out.1) hlt
      have HNX := Lib.hid (chgsL_next D k hlt)
      generalize D.revs[k] = r at hld HNX
      obtain ⟨x0, x1, x2, x3, x4, x5, x6, x7, x8, x9, x10, x11⟩ := hld
      have hX := blk_new wr [.string r.path, .int .i64 r.num, .int .i64 r.chg, .int .i64 r.act, .int .i64 r.ty.base, .bool r.ty.k, .bool r.ty.l, .bool r.ty.x, .int .u64 r.sum, .int .i64 r.size, .string r.frm, .int .i64 r.fnum] 33
      have hA1 : Below wr.heap.size wr (wr.alloc (.cells #[.string r.path, .int .i64 r.num, .int .i64 r.chg, .int .i64 r.act, .int .i64 r.ty.base, .bool r.ty.k, .bool r.ty.l, .bool r.ty.x, .int .u64 r.sum, .int .i64 r.size, .string r.frm, .int .i64 r.fnum] 33)) := (Below.refl _ _).alloc (Nat.le_refl _) _
      go_upto_region 5 with fail
      clear x0 x1 x2 x3 x4 x5 x6 x7 x8 x9 x10 x11
      generalize wr.alloc (.cells #[.string r.path, .int .i64 r.num, .int .i64 r.chg, .int .i64 r.act, .int .i64 r.ty.base, .bool r.ty.k, .bool r.ty.l, .bool r.ty.x, .int .u64 r.sum, .int .i64 r.size, .string r.frm, .int .i64 r.fnum] 33) = V1 at hX hA1 ⊢
      generalize hg5 : wr.heap.size = g5 at hX ⊢
      have HG5 := Lib.hid hg5
      have HX := Lib.hid hX
      have HA1 := Lib.hid hA1
      rename ∀ (a : Act) (w : World), Code.wp _ (Code.seq (Code.region 7 _ _) _) _ a w → _ => hk7
      have HK7 := Lib.hid hk7
      clear hk7
      obtain ⟨hb1, ⟨h1, h2⟩ | ⟨ch, Q, ev, rv, g, cap, h1, h2, hQk, hek, hrk, hO⟩⟩ := id HI.out
      · -- no change yet
        injection h2 with e1 e2 e3
        subst e1 e2 e3
        have HB1 := Lib.hid (below_next hb1 hA1)
        have H1 : Hid (chgsL D (k + 1) = some ([], chAdd D r (chNew r))) := Lib.hid (by rw [HNX.out, h1]; rfl)
        obtain ⟨x0, x1, x2, x3, x4, x5, x6, x7, x8, x9, x10, x11⟩ := box12 hX
        clear hX hA1 hb1 h1 hg5 HNX
        go_quiet (fail)
        have HXd : Hid (Blk (V1.drewN nq) g5 33 [.string r.path, .int .i64 r.num, .int .i64 r.chg, .int .i64 r.act, .int .i64 r.ty.base, .bool r.ty.k, .bool r.ty.l, .bool r.ty.x, .int .u64 r.sum, .int .i64 r.size, .string r.frm, .int .i64 r.fnum]) := Lib.hid (HX.out.below' (below_dN (Below.refl _ _) nq))
        have HBd : Hid (Below W1.heap.size W1 (V1.drewN nq)) := Lib.hid (below_dN HB1.out nq)
        clear x0 x1 x2 x3 x4 x5 x6 x7 x8 x9 x10 x11
        generalize V1.drewN nq = V2 at HXd HBd ⊢
        obtain ⟨x0, x1, x2, x3, x4, x5, x6, x7, x8, x9, x10, x11⟩ := box12 HXd.out
        go_wp2_with (at_builtin; refine wpList_app (base := W1.heap.size) (n := 0) (xs := []) rfl rfl chgElem (World.ownsRow_nil _ _ _ _) rfl (row_new V2 [.int .i64 r.chg, .string ⟨#[]⟩, .string ⟨#[]⟩, .slice none 0 0, .slice none 0 0] _ 5 1 rfl (by decide) _ rfl) rfl (by simp [Value.oneCell']) (by omega) (by unfold maxLen; omega) (below_alloc' HBd.out _).size ?_; intro A6 c6 w6 hO6 hG6 hw6; have hXB := below_alloc' (Below.refl V2.heap.size V2) (.cells #[.int .i64 r.chg, .string ⟨#[]⟩, .string ⟨#[]⟩, .slice none 0 0, .slice none 0 0] 42))
        rw [Nat.zero_add, List.nil_append] at hO6
        obtain ⟨g6, rfl⟩ := own_ptr hO6 (by omega)
        have hgg : g6 ≠ g5 := fun e => by
          rcases hw6 with h | h
          · cases h
          · injection h with h; have := HXd.out.lt; simp at h; omega
        clear x0 x1 x2 x3 x4 x5 x6 x7 x8 x9 x10 x11
        refine HK7.out _ _ (cgT7 _ (by kernel_rfl) _ W1 g6 c6 g1 g5 D (some ad) Aq cr cq [] (chNew r) (.slice none 0 0) (.slice none 0 0) r w6 _ rfl (ChO.first ⟨rfl, rfl⟩ hO6) ((below_alloc' HBd.out _).grown hG6 (below_alloc' HBd.out _).size (fun k e => by cases e)) ((HXd.out.alloc _).grown hG6 (fun e => by cases e)) HB0.out HQ.out (fun e => by cases e) (fun e => by cases e) hgg (by simp) (by simp [chNew]) (by simp [chNew]) (by omega) _ _ _ _ _ _ _ _ _ _ _ _ _ _ _ _ _ _ _ _ _ _ _ _ _ _ _ _ _ _ _ _ _ _ _ _ _ _ _ _ _ _ _ _ _ _ _ _ _ _ _ _ _ _ _ _ _ _ _ _ _ _ _ _ _ _ _ _ _ _ _ _ _ _ _ _ _ _ _ _ _ _ _ _ _ _ _ _ _ _ _ _ _ _ _ _ ?_)
        intro t6 t8 t37 t38 t39 t40 t41 t42 t43 t44 t45 t46 t47 t48 t49 t50 t51 t52 t53 t54 t55 t56 t57 t58 t59 t60 t61 t62 t63 t64 t65 t66 t67 t68 t69 t70 t71 t72 t73 t74 t75 t76 t77 t78 t79 t80 t81 t82 t83 t84 t85 t86 t87 t88 t89 t90 t91 t92 t93 t94 t95 t96 ev' rv' w7 H7
        have HN := Lib.hid (cgSt_one H7.out.2 H1.out (Nat.zero_le _) (Nat.zero_le _) (Nat.zero_le _) h61 H7.out.1)
        clear H7
        go_wp2_with fail
        go_roundw
        case rel => exact ⟨k + 1, _, _, _, by go_num, rfl, by omega, HN.out⟩
        case measure => simp [intOf]; omega
      · injection h2 with e1 e2 e3
        subst e1 e2 e3
        have hlast : (ch, ev, rv) ∈ Q ++ [(ch, ev, rv)] := List.mem_append_right _ (List.mem_cons_self ..)
        have hgg : g ≠ g5 := fun e => by have := hO.lt.2; omega
        have hne : ev.ownBlock ≠ some g5 := fun e => by have := ((hO.rows _ hlast).1.lt _ e).2; omega
        have hnr : rv.ownBlock ≠ some g5 := fun e => by have := ((hO.rows _ hlast).2.lt _ e).2; omega
        have HO := Lib.hid (hO.below hA1)
        have HB1 := Lib.hid (below_next hb1 hA1)
        have H1 := Lib.hid h1
        clear hX hA1 hb1 hO h1 hg5 hlast
        by_cases hc : ch.num = r.chg
        · have HH : Hid (chgsL D (k + 1) = some (Q.map (·.1), chAdd D r ch)) := Lib.hid (by rw [HNX.out, H1.out]; exact chStep_same hc)
          have hf : (!decide (ch.num = r.chg)) = false := by simp [hc]
          refine cgR5 _ (by kernel_rfl) _ W1.heap.size g c g5 Q ch ev rv r V1 HO.out (by omega) HX.out _ _ _ _ _ _ _ _ _ _ _ _ _ _ _ _ _ _ _ _ _ _ _ _ _ _ _ _ _ _ _ _ _ _ _ _ _ _ _ _ _ _ _ _ _ _ _ _ _ _ _ _ _ _ _ _ _ _ _ _ _ _ _ _ _ _ _ _ _ _ _ _ _ _ _ _ _ _ _ _ _ _ _ _ _ _ _ _ _ _ _ _ _ _ _ _ _ ?_
          intro t16 t17 t18 t19 t20 t21 t22 t23 t24 t25 t26 t27 t28 t29 V2 HB2
          rw [hf]
          clear hf hc
          go_wp2_with fail
          refine HK7.out _ _ (cgT7 _ (by kernel_rfl) _ W1 g c g1 g5 D (some ad) Aq cr cq Q ch ev rv r V2 _ rfl (HO.out.below HB2.out) (below_next HB1.out HB2.out) (HX.out.below' HB2.out) HB0.out HQ.out hne hnr hgg (by omega) (by omega) (by omega) (by omega) _ _ _ _ _ _ _ _ _ _ _ _ _ _ _ _ _ _ _ _ _ _ _ _ _ _ _ _ _ _ _ _ _ _ _ _ _ _ _ _ _ _ _ _ _ _ _ _ _ _ _ _ _ _ _ _ _ _ _ _ _ _ _ _ _ _ _ _ _ _ _ _ _ _ _ _ _ _ _ _ _ _ _ _ _ _ _ _ _ _ _ _ _ _ _ _ ?_)
          intro t6 t8 t37 t38 t39 t40 t41 t42 t43 t44 t45 t46 t47 t48 t49 t50 t51 t52 t53 t54 t55 t56 t57 t58 t59 t60 t61 t62 t63 t64 t65 t66 t67 t68 t69 t70 t71 t72 t73 t74 t75 t76 t77 t78 t79 t80 t81 t82 t83 t84 t85 t86 t87 t88 t89 t90 t91 t92 t93 t94 t95 t96 ev' rv' w7 H7
          have HN := Lib.hid (cgSt_one H7.out.2 HH.out (by omega) hek hrk h61 H7.out.1)
          clear H7
          go_wp2_with fail
          go_roundw
          case rel => exact ⟨k + 1, _, _, _, by go_num, rfl, by omega, HN.out⟩
          case measure => simp [intOf]; omega
        · have HH : Hid (chgsL D (k + 1) = some ((Q ++ [(ch, ev, rv)]).map (·.1), chAdd D r (chNew r))) := Lib.hid (by rw [HNX.out, H1.out, chStep_other hc, List.map_append]; rfl)
          have hf : (!decide (ch.num = r.chg)) = true := by simp [hc]
          refine cgR5 _ (by kernel_rfl) _ W1.heap.size g c g5 Q ch ev rv r V1 HO.out (by omega) HX.out _ _ _ _ _ _ _ _ _ _ _ _ _ _ _ _ _ _ _ _ _ _ _ _ _ _ _ _ _ _ _ _ _ _ _ _ _ _ _ _ _ _ _ _ _ _ _ _ _ _ _ _ _ _ _ _ _ _ _ _ _ _ _ _ _ _ _ _ _ _ _ _ _ _ _ _ _ _ _ _ _ _ _ _ _ _ _ _ _ _ _ _ _ _ _ _ _ ?_
          intro t16 t17 t18 t19 t20 t21 t22 t23 t24 t25 t26 t27 t28 t29 V2 HB2
          rw [hf]
          clear hf hc
          have HXd : Hid (Blk V2 g5 33 [.string r.path, .int .i64 r.num, .int .i64 r.chg, .int .i64 r.act, .int .i64 r.ty.base, .bool r.ty.k, .bool r.ty.l, .bool r.ty.x, .int .u64 r.sum, .int .i64 r.size, .string r.frm, .int .i64 r.fnum]) := Lib.hid (HX.out.below' HB2.out)
          have HBd := Lib.hid (below_next HB1.out HB2.out)
          have HO2 := Lib.hid (HO.out.below HB2.out)
          obtain ⟨x0, x1, x2, x3, x4, x5, x6, x7, x8, x9, x10, x11⟩ := box12 HXd.out
          go_wp2_with (at_builtin; refine wpList_app (base := W1.heap.size) rfl rfl chgElem (own_below HO2.out.own ((Below.refl _ _).alloc (Nat.le_refl _) _)) rfl (row_new V2 [.int .i64 r.chg, .string ⟨#[]⟩, .string ⟨#[]⟩, .slice none 0 0, .slice none 0 0] _ 5 1 rfl (by decide) _ rfl) rfl (by simp [Value.oneCell']) (by omega) (by unfold maxLen; omega) (below_alloc' HBd.out _).size ?_; intro A6 c6 w6 hO6 hG6 hw6; have hXB := below_alloc' (Below.refl V2.heap.size V2) (.cells #[.int .i64 r.chg, .string ⟨#[]⟩, .string ⟨#[]⟩, .slice none 0 0, .slice none 0 0] 42))
          obtain ⟨g6, rfl⟩ := own_ptr hO6 (by omega)
          have HNX2 := Lib.hid (HO2.out.next (ch := chNew r) hXB ⟨rfl, rfl⟩ hO6 hG6 hw6)
          have hG5 : (Value.slice (some ⟨g, 0, none⟩) (Q.length + 1) c).ownBlock ≠ some g5 := fun e => by injection e with e; exact hgg e
          have hgg6 : g6 ≠ g5 := fun e => by
            rcases hw6 with h | h
            · rw [← h] at hG5; exact hG5 (by rw [← e]; rfl)
            · injection h with h; have := HXd.out.lt; simp at h; omega
          have HBW := Lib.hid ((below_alloc' HBd.out (.cells #[.int .i64 r.chg, .string ⟨#[]⟩, .string ⟨#[]⟩, .slice none 0 0, .slice none 0 0] 42)).grown hG6 (below_alloc' HBd.out _).size (fun k e => (HO2.out.own.lt k e).1))
          have HXW := Lib.hid ((HXd.out.alloc (.cells #[.int .i64 r.chg, .string ⟨#[]⟩, .string ⟨#[]⟩, .slice none 0 0, .slice none 0 0] 42)).grown hG6 (fun e => hG5 e.symm))
          clear x0 x1 x2 x3 x4 x5 x6 x7 x8 x9 x10 x11 hO6 hG6 hw6 hXB
          refine HK7.out _ _ (cgT7 _ (by kernel_rfl) _ W1 g6 c6 g1 g5 D (some ad) Aq cr cq (Q ++ [(ch, ev, rv)]) (chNew r) (.slice none 0 0) (.slice none 0 0) r w6 _ (by rw [List.length_append, List.length_singleton]) (by rw [List.length_append, List.length_singleton]; exact HNX2.out) HBW.out HXW.out HB0.out HQ.out (fun e => by cases e) (fun e => by cases e) hgg6 (by rw [List.length_append, List.length_singleton]; omega) (by simp [chNew]) (by simp [chNew]) (by omega) _ _ _ _ _ _ _ _ _ _ _ _ _ _ _ _ _ _ _ _ _ _ _ _ _ _ _ _ _ _ _ _ _ _ _ _ _ _ _ _ _ _ _ _ _ _ _ _ _ _ _ _ _ _ _ _ _ _ _ _ _ _ _ _ _ _ _ _ _ _ _ _ _ _ _ _ _ _ _ _ _ _ _ _ _ _ _ _ _ _ _ _ _ _ _ _ ?_)
          intro t6 t8 t37 t38 t39 t40 t41 t42 t43 t44 t45 t46 t47 t48 t49 t50 t51 t52 t53 t54 t55 t56 t57 t58 t59 t60 t61 t62 t63 t64 t65 t66 t67 t68 t69 t70 t71 t72 t73 t74 t75 t76 t77 t78 t79 t80 t81 t82 t83 t84 t85 t86 t87 t88 t89 t90 t91 t92 t93 t94 t95 t96 ev' rv' w7 H7
          have HN := Lib.hid (cgSt_one H7.out.2 HH.out (by rw [List.length_append, List.length_singleton]; omega) (Nat.zero_le _) (Nat.zero_le _) h61 H7.out.1)
          rw [List.length_append, List.length_singleton] at HN
          clear H7
          go_wp2_with fail
          go_roundw
          case rel => exact ⟨k + 1, _, _, _, by go_num, rfl, by omega, HN.out⟩
          case measure => simp [intOf]; omega
    · have hkk : k = D.revs.length := by omega
      have HF := Lib.hid (cgSt_post (hkk ▸ HI.out))
      have HBI := Lib.hid HI.out.1
      clear hkk
      go_wp2_with fail
      go_ret
      obtain ⟨A', c', ps, h1, h2, h3, h4, h5, h6⟩ := HF.out
      have hs := Hb0.out.size
      exact ⟨A', c', ps, h1, below_next Hb0.out h2, h3, h4, fun x e => Nat.le_trans hs (h5 x e), fun p hp => ⟨fun x e => Nat.le_trans hs ((h6 p hp).1 x e), fun x e => Nat.le_trans hs ((h6 p hp).2 x e)⟩⟩
end Go.Proofs.YtnblfaagchflaaaDoor
