/- The reference's Append: the walk. -/
import Derived.Test.YtnblfaagchflaaaDoorMgw28
import Derived.Test.YtnblfaagchflaaaDoorMzCgw
import Derived.Test.YtnblfaagchflaaaDoorMgw21
import Derived.Test.YtnblfaagchflaaaDoorMgw12
import Derived.Test.YtnblfaagchflaaaDoorMzValW
import Derived.Test.YtnblfaagchflaaaDoorMgw19
import Derived.Test.YtnblfaagchflaaaDoorMzOpU
import Derived.Deep.CutBlock
namespace Go.Proofs.YtnblfaagchflaaaDoor
open Go.RowKit
set_option linter.unusedVariables false
set_option linter.unusedSimpArgs false

theorem made_take (f : Edt → Rev) (es : List Edt) (k : Nat) (h : k < es.length) : ((es.take (k + 1)).map f).flatMap Rev.cells = ((es.take k).map f).flatMap Rev.cells ++ (f es[k]).cells := by
  rw [List.take_succ_eq_append_getElem h, List.map_append, List.flatMap_append, List.map_cons, List.map_nil, List.flatMap_cons, List.flatMap_nil, List.append_nil]
theorem newRevs_cells (d : Dep) (c : Chg) : (newRevs d c).flatMap Rev.cells = d.revs.flatMap Rev.cells ++ (c.edits.map (madeR (lastOf d.revs) c.num)).flatMap Rev.cells := by
  unfold newRevs; rw [List.flatMap_append]
theorem newRevs_len (d : Dep) (c : Chg) : (newRevs d c).length = d.revs.length + c.edits.length := by
  unfold newRevs; rw [List.length_append, List.length_map]
/-- What the reference's Append stands on. -/
structure RaB (d : Dep) (c : Chg) : Prop where
  ck : CkB d c
  fd : ∀ r ∈ d.recs, r.frm.size ≤ 2000000 ∧ r.to.size ≤ 2000000
/-- The result while it is made. -/
def RaI (V wr : World) (g7 : Nat) (d : Dep) (c : Chg) (k : Nat) : Prop := ∃ v1, ApR V wr g7 v1 (.slice none 0 0) (d.revs.length + k) 0 (d.revs.flatMap Rev.cells ++ ((c.edits.take k).map (madeR (lastOf d.revs) c.num)).flatMap Rev.cells) []
set_option maxRecDepth 100000 in
set_option maxHeartbeats 8000000 in
theorem refAppend_any (d : Dep) (c : Chg) (dv dr ev rv : Value) (w : World) (hb : RaB d c) (he : Env w) (hR : Revs w dv d.revs) (hQ : Rcds w dr d.recs) (hE : Edts w ev c.edits) (hC : Rcds w rv c.recs) :
    Calls Tryd.prog 13 #[.agg #[dv, dr], .agg #[.int .i64 c.num, .string c.client, .string c.text, ev, rv]] w (ApPost w d c) := by
  obtain ⟨Ar, cr, rfl, -⟩ := id hR
  obtain ⟨Aq, cq, rfl, -⟩ := id hQ
  obtain ⟨Ae, ce, rfl, -⟩ := id hE
  obtain ⟨Ac, cc, rfl, -⟩ := id hC
  have HEN := Lib.hid he
  have HR := Lib.hid hR
  have HQ := Lib.hid hQ
  have HE := Lib.hid hE
  have HC := Lib.hid hC
  have HB := Lib.hid hb
  have bl1 := hb.ck.el
  have bl2 := hb.ck.rl
  have bl3 : d.revs.length ≤ 512 := hb.ck.dw.len
  have bl4 : d.recs.length ≤ 512 := hb.ck.dw.rlen
  clear he hR hQ hE hC hb
  obtain ⟨W1, hW1⟩ : ∃ W, W = ((w.alloc (.cells #[.slice Ar d.revs.length cr, .slice Aq d.recs.length cq] 25)).alloc (.cells #[.int .i64 c.num, .string c.client, .string c.text, .slice Ae c.edits.length ce, .slice Ac c.recs.length cc] 42)).alloc (.cells #[.slice none 0 0, .slice none 0 0] 25) := ⟨_, rfl⟩
  have hb1 : Below w.heap.size w W1 := by rw [hW1]; exact (((Below.refl _ _).alloc (Nat.le_refl _) _).alloc (by simp) _).alloc (by simp; omega) _
  have hD1 : Blk W1 w.heap.size 25 [.slice Ar d.revs.length cr, .slice Aq d.recs.length cq] := by rw [hW1]; exact ((blk_new w _ _).alloc _).alloc _
  have hC1 : Blk W1 (w.heap.size + 1) 42 [.int .i64 c.num, .string c.client, .string c.text, .slice Ae c.edits.length ce, .slice Ac c.recs.length cc] := by
    rw [hW1]
    have := blk_new (w.alloc (.cells #[.slice Ar d.revs.length cr, .slice Aq d.recs.length cq] 25)) [.int .i64 c.num, .string c.client, .string c.text, .slice Ae c.edits.length ce, .slice Ac c.recs.length cc] 42
    simp only [World.size_alloc] at this
    exact this.alloc _
  have hZ1 : Blk W1 (w.heap.size + 1 + 1) 25 [.slice none 0 0, .slice none 0 0] := by
    rw [hW1]
    have := blk_new ((w.alloc (.cells #[.slice Ar d.revs.length cr, .slice Aq d.recs.length cq] 25)).alloc (.cells #[.int .i64 c.num, .string c.client, .string c.text, .slice Ae c.edits.length ce, .slice Ac c.recs.length cc] 42)) [.slice none 0 0, .slice none 0 0] 25
    simp only [World.size_alloc] at this
    exact this
  have HW1 := Lib.hid hW1
  have Hb1 := Lib.hid hb1
  have HD1 := Lib.hid hD1
  have HC1 := Lib.hid hC1
  have HZ1 := Lib.hid hZ1
  have HCK := Lib.hid (refCheckD_any d c Ar Aq Ae Ac cr cq ce cc W1 HB.out.ck (HEN.out.below hb1) (HR.out.below hb1) (HE.out.below hb1) (HC.out.below hb1))
  clear hW1 hb1 hD1 hC1 hZ1
  go_enter Tryd.func13, Tryd.ntmps13
  go_upto_region 1 with fail
  rw [← HW1.out]
  obtain ⟨d0, d1, -, -⟩ := box2 HD1.out
  obtain ⟨k0, k1, k2, k3, k4⟩ := box5 HC1.out
  go_wp2_with fail
  refine HCK.out.mono ?_
  rintro e w2 ⟨rfl, hb2⟩
  have HB2 := Lib.hid hb2
  clear hb2 d0 d1 k0 k1 k2 k3 k4 HCK
  have HF := Lib.hid (fun (W : World) (n : Int) (hb : Below w.heap.size w W) (hn : n ≠ 0) (he : appE d c = n) => (⟨hb, .inl ⟨by rw [he]; exact hn, by rw [he]⟩⟩ : ApPost w d c (.returned (.tuple #[.agg #[.slice none 0 0, .slice none 0 0], .int .i64 n])) W))
  by_cases h0 : appE d c = 0
  case neg =>
    obtain ⟨e0, he0⟩ : ∃ x, appE d c = x := ⟨_, rfl⟩
    rw [he0] at h0 ⊢
    have HA := Lib.hid he0
    have q : (e0 != 0) = true := by simpa using h0
    have HN := Lib.hid h0
    clear h0 he0
    have hR4 := HZ1.out.below HB2.out HZ1.out.lt
    obtain ⟨r0, r1, f0, f1⟩ := box2 hR4
    have HBX := Lib.hid (below_next Hb1.out HB2.out)
    go_wp2_with fail
    have hR5 := (hR4.set_ 0 (.slice none 0 0)).set_ 1 (.slice none 0 0)
    have hB5 := (HBX.out.setCell (p := ⟨w.heap.size + 1 + 1, 0, none⟩) (by simp; omega) (.slice none 0 0)).setCell (p := ⟨w.heap.size + 1 + 1, 1, none⟩) (by simp; omega) (.slice none 0 0)
    clear r0 r1 f0 f1 hR4
    generalize (w2.setCell ⟨w.heap.size + 1 + 1, 0, none⟩ (.slice none 0 0)).setCell ⟨w.heap.size + 1 + 1, 1, none⟩ (.slice none 0 0) = W5 at hR5 hB5 ⊢
    obtain ⟨r0, r1, -, -⟩ := box2 hR5
    refine bodyPost_ret (v := .tuple #[.agg #[.slice none 0 0, .slice none 0 0], .int .i64 e0]) (by simp [results, Tryd.results13, go_sem, r0, r1]) rfl (HF.out W5 e0 hB5 HN.out HA.out)
  have H0 := Lib.hid h0
  rw [h0]
  have hel : c.edits.length ≤ 64 := (sizeE_zero (appE_zero h0).1).2.1
  clear h0 HF
  have hO7 := blk_new w2 [.slice none 0 0, .slice none 0 0] 25
  have hA3 : Below w2.heap.size w2 (w2.alloc (.cells #[.slice none 0 0, .slice none 0 0] 25)) := (Below.refl _ _).alloc (Nat.le_refl _) _
  go_upto_region 5 with fail
  generalize w2.alloc (.cells #[.slice none 0 0, .slice none 0 0] 25) = w3 at hO7 hA3 ⊢
  have hW3 := below_next HB2.out hA3
  obtain ⟨d0, d1, -, -⟩ := box2 (HD1.out.below hW3 HD1.out.lt)
  obtain ⟨p0, p1, p2, p3⟩ := box2 hO7
  have hRW := HR.out.below (below_next Hb1.out hW3)
  have HO7 := Lib.hid hO7
  have HA3 := Lib.hid hA3
  have HRW := Lib.hid hRW
  clear hO7 hA3 hW3 hRW
  go_upto_region 6 with (at_builtin; refine wpList_app (base := w3.heap.size) (n := 0) (xs := []) rfl rfl revElem (World.ownsRow_nil _ _ _ _) rfl HRW.out rfl (rev_ones _) (by omega) (by unfold maxLen; omega) (Nat.le_refl _) ?_; intro A5 c5 w5 hO5 hG5 hw5; have hX5 := nogrow hG5 rfl; obtain ⟨t0, t1, t2, t3⟩ := box2 (HO7.out.below hX5 HO7.out.lt))
  rw [Nat.zero_add, List.nil_append] at hO5
  have hAP : RaI w2 (w5.setCell ⟨w2.heap.size, 0, none⟩ (.slice A5 d.revs.length c5)) w2.heap.size d c 0 := by
    have hlt := HO7.out.lt
    have n5 : (Value.slice A5 d.revs.length c5).ownBlock ≠ some w2.heap.size := fun e => by have := (hO5.lt _ e).1; omega
    refine ⟨.slice A5 d.revs.length c5, (below_next HA3.out hX5).setCell (p := ⟨w2.heap.size, 0, none⟩) (Nat.le_refl _) _, Nat.le_refl _, (HO7.out.below hX5 hlt).set_ 0 _, ?_, World.ownsRow_nil _ _ _ _, n5, (fun e => by cases e), fun x _ e => by cases e⟩
    rw [List.take_zero, List.map_nil, List.flatMap_nil, List.append_nil]
    exact own_mono (own_setCell hO5 (p := ⟨w2.heap.size, 0, none⟩) n5 _) (Nat.le_of_lt hlt)
  generalize w5.setCell ⟨w2.heap.size, 0, none⟩ (.slice A5 d.revs.length c5) = w6 at hAP ⊢
  have HAP := Lib.hid hAP
  have HW6 : Hid (Below W1.heap.size W1 w6) := Lib.hid (by obtain ⟨v1, h⟩ := hAP; exact below_next HB2.out h.bel)
  clear t0 t1 t2 t3 d0 d1 p0 p1 p2 p3 hO5 hG5 hw5 hX5 hAP
  obtain ⟨k0, k1, k2, k3, k4⟩ := box5 (HC1.out.below HW6.out HC1.out.lt)
  have HEV : Hid (everyE (lastOf d.revs) emptyS c.edits = 0) := Lib.hid (appE_zero H0.out).2.1
  have HMD := Lib.hid (fun x (hx : x ∈ c.edits) X => (show Calls Tryd.prog 25 #[.agg #[.int .i64 c.num, .string c.client, .string c.text, .slice Ae c.edits.length ce, .slice Ac c.recs.length cc], .agg #[.string x.path, .int .i64 x.act, .int .i64 x.ty.base, .bool x.ty.k, .bool x.ty.l, .bool x.ty.x, .int .u64 x.sum, .int .i64 x.size, .int .i64 x.base, .string x.frm, .int .i64 x.fnum, .int .i64 x.fence]] X (fun e w' => e = .returned (.agg #[.string (madeR (lastOf d.revs) c.num x).path, .int .i64 (madeR (lastOf d.revs) c.num x).num, .int .i64 (madeR (lastOf d.revs) c.num x).chg, .int .i64 (madeR (lastOf d.revs) c.num x).act, .int .i64 (madeR (lastOf d.revs) c.num x).ty.base, .bool (madeR (lastOf d.revs) c.num x).ty.k, .bool (madeR (lastOf d.revs) c.num x).ty.l, .bool (madeR (lastOf d.revs) c.num x).ty.x, .int .u64 (madeR (lastOf d.revs) c.num x).sum, .int .i64 (madeR (lastOf d.revs) c.num x).size, .string (madeR (lastOf d.revs) c.num x).frm, .int .i64 (madeR (lastOf d.revs) c.num x).fnum]) ∧ Below X.heap.size X w') from by
    have h := refMade_any c.num c.client c.text Ae Ac c.edits.length c.recs.length ce cc x X (by have := edit_bounds HB.out.ck HEV.out x hx; omega)
    rw [madeX_eq HEV.out c.num hx] at h
    exact h))
  go_upto_block 0 with fail
  clear k0 k1 k2 k3 k4
  go_cut [] (fun wx => Hid (RaI w2 wx w2.heap.size d c c.edits.length))
  case first =>
    go_wp2_with fail
    go_loopw [26] (fun s wr => ∃ k : Nat, s = .int .i64 k ∧ k ≤ c.edits.length ∧ Hid (RaI w2 wr w2.heap.size d c k)) (fun s _ => c.edits.length - (intOf s).toNat)
    case atStart => exact ⟨0, rfl, Nat.zero_le _, HAP.out⟩
    case round =>
      obtain ⟨k, rfl, hk, HI⟩ := hrel
      by_cases hlt : k < c.edits.length
      · obtain ⟨v1, hAP⟩ := HI.out
        obtain ⟨ad, rfl, hab, hld⟩ := Edts.at_ (HE.out.below (below_next (below_next Hb1.out HB2.out) hAP.bel)) hlt
        have HNX : Hid (∀ v3 w', ApR w2 w' w2.heap.size v3 (.slice none 0 0) (d.revs.length + k + 1) 0 (d.revs.flatMap Rev.cells ++ ((c.edits.take k).map (madeR (lastOf d.revs) c.num)).flatMap Rev.cells ++ (madeR (lastOf d.revs) c.num c.edits[k]).cells) [] → RaI w2 w' w2.heap.size d c (k + 1)) := Lib.hid (fun v3 w' h => ⟨v3, by rw [made_take _ _ _ hlt, ← List.append_assoc]; exact h⟩)
        have HM1 := Lib.hid (HMD.out c.edits[k] (List.getElem_mem hlt))
        have HKB : Hid (d.revs.length + k ≤ 100000) := Lib.hid (by omega)
        generalize c.edits[k] = x at hld HNX HM1
        generalize madeR (lastOf d.revs) c.num x = r at HNX HM1
        generalize d.revs.flatMap Rev.cells ++ ((c.edits.take k).map (madeR (lastOf d.revs) c.num)).flatMap Rev.cells = xs at hAP HNX
        obtain ⟨x0, x1, x2, x3, x4, x5, x6, x7, x8, x9, x10, x11⟩ := hld
        have hX := blk_new wr [.string x.path, .int .i64 x.act, .int .i64 x.ty.base, .bool x.ty.k, .bool x.ty.l, .bool x.ty.x, .int .u64 x.sum, .int .i64 x.size, .int .i64 x.base, .string x.frm, .int .i64 x.fnum, .int .i64 x.fence] 39
        have hA1 : Below wr.heap.size wr (wr.alloc (.cells #[.string x.path, .int .i64 x.act, .int .i64 x.ty.base, .bool x.ty.k, .bool x.ty.l, .bool x.ty.x, .int .u64 x.sum, .int .i64 x.size, .int .i64 x.base, .string x.frm, .int .i64 x.fnum, .int .i64 x.fence] 39)) := (Below.refl _ _).alloc (Nat.le_refl _) _
        have HAP1 := Lib.hid hAP
        clear hAP
        go_upto_region 9 with fail
        clear x0 x1 x2 x3 x4 x5 x6 x7 x8 x9 x10 x11
        generalize wr.alloc (.cells #[.string x.path, .int .i64 x.act, .int .i64 x.ty.base, .bool x.ty.k, .bool x.ty.l, .bool x.ty.x, .int .u64 x.sum, .int .i64 x.size, .int .i64 x.base, .string x.frm, .int .i64 x.fnum, .int .i64 x.fence] 39) = V1 at hX hA1 ⊢
        generalize wr.heap.size = g9 at hX ⊢
        have HX := Lib.hid hX
        have HA1 := Lib.hid (HAP1.out.under hA1)
        clear hX hA1
        refine raR9 _ (by kernel_rfl) _ (w.heap.size + 1) w2.heap.size g9 (d.revs.length + k) 0 c.num c.client c.text (some ad) Ac c.edits.length c.recs.length ce cc x r v1 (.slice none 0 0) xs [] w2 V1 HA1.out HX.out (HC1.out.below (below_next HB2.out HA1.out.bel) HC1.out.lt) HKB.out (fun X _ => HM1.out X) _ _ _ _ _ _ _ _ _ _ _ _ _ _ _ _ _ _ _ _ _ _ _ _ _ _ _ _ _ _ _ _ _ _ _ _ _ _ _ _ _ _ _ _ _ _ _ ?_
        intro t30 t31 t32 t33 t34 t35 t36 t37 v3 w7 H7
        have HR7 := Lib.hid (HNX.out v3 w7 H7.out)
        clear H7
        go_wp2_with fail
        go_roundw
        case rel => exact ⟨k + 1, by go_num, by omega, HR7.out⟩
        case measure => simp [intOf]; omega
      · have hke : k = c.edits.length := by omega
        have q : decide ((k : Int) < (c.edits.length : Int)) = false := by simp; omega
        have q' : decide (k < c.edits.length) = false := by simp; omega
        have HZ : Hid (RaI w2 wr w2.heap.size d c c.edits.length) := Lib.hid (by rw [← hke]; exact HI.out)
        clear hke
        go_wp2_with fail
        go_meet
        exact HZ.out
  case rest =>
    obtain ⟨v1, hAP⟩ := hcut.out
    rw [List.take_length, ← newRevs_cells, ← newRevs_len] at hAP
    have HAP2 := Lib.hid hAP
    have HWC : Hid (Below W1.heap.size W1 wc) := Lib.hid (below_next HB2.out hAP.bel)
    have HFI : Hid (∀ r ∈ d.recs ++ c.recs, r.fine) := Lib.hid (fun r hr => by
      rcases List.mem_append.1 hr with hr | hr
      · exact ⟨HB.out.ck.ok.rec_.val_ r hr, HB.out.fd r hr⟩
      · have := HB.out.ck.rcd r hr
        exact ⟨(app_recs HB.out.ck.ok.rec_.path H0.out r hr).1, this.2, this.1⟩)
    have hcl : c.recs.length ≤ 1000 := by have := (sizeE_zero (appE_zero H0.out).1).2.2.1; omega
    clear hAP hcut
    go_upto_region 11 with fail
    refine raR11 _ (by kernel_rfl) _ w.heap.size (w.heap.size + 1) w2.heap.size (newRevs d c).length c.num c.client c.text Aq Ac Ae c.edits.length cq cc ce d.recs c.recs (.slice Ar d.revs.length cr) v1 ((newRevs d c).flatMap Rev.cells) w2 wc HAP2.out (HD1.out.below HWC.out HD1.out.lt) (HC1.out.below HWC.out HC1.out.lt) (HQ.out.below (below_next Hb1.out HWC.out)) (HC.out.below (below_next Hb1.out HWC.out)) HFI.out (HEN.out.below (below_next Hb1.out HWC.out)) (by omega) hcl _ _ _ _ _ _ _ _ _ _ _ _ _ _ _ _ _ _ _ _ _ _ _ _ _ _ _ _ _ _ _ _ _ _ _ _ _ _ _ _ _ _ _ _ _ _ _ ?_
    intro t39 t40 t41 t42 t43 t44 t45 t46 t47 t48 v3 l w7 H7
    obtain ⟨A8, c8, hv1⟩ := own_slice H7.out.1.one
    obtain ⟨A9, c9, hv3⟩ := own_slice H7.out.1.two
    subst hv1 hv3
    have hB7 := below_next HB2.out H7.out.1.bel
    have hR4 := HZ1.out.below hB7 HZ1.out.lt
    obtain ⟨r0, r1, f0, f1⟩ := box2 hR4
    obtain ⟨p0, p1, -, -⟩ := box2 H7.out.1.box
    have HB7 := Lib.hid (below_next Hb1.out hB7)
    have HLT := Lib.hid HZ1.out.lt
    have HSZ := Lib.hid HB2.out.size
    clear hB7
    go_wp2_with fail
    have hR5 := (hR4.set_ 0 (Value.slice A8 (newRevs d c).length c8)).set_ 1 (Value.slice A9 (d.recs.length + c.recs.length) c9)
    have hB5 := (HB7.out.setCell (p := ⟨w.heap.size + 1 + 1, 0, none⟩) (by simp; omega) (Value.slice A8 (newRevs d c).length c8)).setCell (p := ⟨w.heap.size + 1 + 1, 1, none⟩) (by simp; omega) (Value.slice A9 (d.recs.length + c.recs.length) c9)
    have n1 : (Value.slice A8 (newRevs d c).length c8).ownBlock ≠ some (w.heap.size + 1 + 1) := fun e => by have := (H7.out.1.one.lt _ e).1; have := HLT.out; have := HSZ.out; omega
    have n3 : (Value.slice A9 (d.recs.length + c.recs.length) c9).ownBlock ≠ some (w.heap.size + 1 + 1) := fun e => by have := (H7.out.1.two.lt _ e).1; have := HLT.out; have := HSZ.out; omega
    have k1 := Row.of_own (own_setCell (own_setCell H7.out.1.one (p := ⟨w.heap.size + 1 + 1, 0, none⟩) n1 (Value.slice A8 (newRevs d c).length c8)) (p := ⟨w.heap.size + 1 + 1, 1, none⟩) n1 (Value.slice A9 (d.recs.length + c.recs.length) c9))
    have k3 := Row.of_own (own_setCell (own_setCell H7.out.1.two (p := ⟨w.heap.size + 1 + 1, 0, none⟩) n3 (Value.slice A8 (newRevs d c).length c8)) (p := ⟨w.heap.size + 1 + 1, 1, none⟩) n3 (Value.slice A9 (d.recs.length + c.recs.length) c9))
    have hw2 : w.heap.size ≤ w2.heap.size := by have := Hb1.out.size; have := HSZ.out; omega
    clear r0 r1 f0 f1 hR4 p0 p1
    generalize (w7.setCell ⟨w.heap.size + 1 + 1, 0, none⟩ (Value.slice A8 (newRevs d c).length c8)).setCell ⟨w.heap.size + 1 + 1, 1, none⟩ (Value.slice A9 (d.recs.length + c.recs.length) c9) = W5 at hR5 hB5 k1 k3 ⊢
    obtain ⟨r0, r1, -, -⟩ := box2 hR5
    have k4 : Rcds W5 (Value.slice A9 (d.recs.length + c.recs.length) c9) l := by
      have hle := H7.out.2.1.length_eq
      rw [List.length_append] at hle
      show Row W5 6 _ l.length _
      rw [hle]
      exact k3
    refine bodyPost_ret (v := .tuple #[.agg #[(Value.slice A8 (newRevs d c).length c8), (Value.slice A9 (d.recs.length + c.recs.length) c9)], .int .i64 0]) (by simp [results, Tryd.results13, go_sem, r0, r1]) rfl ?_
    exact ⟨hB5, .inr ⟨H0.out, (Value.slice A8 (newRevs d c).length c8), (Value.slice A9 (d.recs.length + c.recs.length) c9), l, rfl, k1, k4, H7.out.2.1, H7.out.2.2, own_fresh H7.out.1.one hw2, own_fresh H7.out.1.two hw2⟩⟩
end Go.Proofs.YtnblfaagchflaaaDoor
/- The reference's Valid: the walk. -/
namespace Go.Proofs.YtnblfaagchflaaaDoor
open Go.RowKit
set_option linter.unusedVariables false
set_option linter.unusedSimpArgs false

theorem recsR_mem {D : Dep} {g : List Rev} {r : Rcd} (h : r ∈ recsR D g) : r ∈ D.recs := by
  obtain ⟨v, -, hv⟩ := List.mem_flatMap.1 h
  exact (List.mem_filter.1 hv).1
theorem recsR_len (D : Dep) : ∀ g : List Rev, (recsR D g).length ≤ g.length * D.recs.length
  | [] => by simp [recsR]
  | v :: g => by
    have h1 := recsR_len D g
    have h2 := List.length_filter_le (fun r : Rcd => decide (r.to = v.path) && decide (r.num = v.num)) D.recs
    have h3 : recsR D (v :: g) = (D.recs.filter fun r : Rcd => decide (r.to = v.path) && decide (r.num = v.num)) ++ recsR D g := by unfold recsR; rw [List.flatMap_cons]
    rw [h3, List.length_append, List.length_cons, Nat.succ_mul]
    omega
theorem run_len {revs : List Rev} {k : Nat} {n : Int} : (runAt revs k n).length ≤ revs.length := by
  unfold runAt
  have h1 : ((revs.drop k).takeWhile fun r => decide (r.chg = n)).length ≤ (revs.drop k).length := (List.takeWhile_sublist _).length_le
  rw [List.length_drop] at h1
  omega
theorem replR_recs {D : Dep} {k : Nat} {d : Dep} (h : ReplR D k d) : ∀ r ∈ d.recs, r ∈ D.recs := by
  induction h with
  | start => intro r hr; cases hr
  | @step k d rs hk hr h0 h1 h2 ih =>
    intro r hr
    rcases List.mem_append.1 (h1.mem_iff.1 hr) with hr | hr
    · exact ih r hr
    · exact recsR_mem hr
/-- The bounds on the texts of a depot. -/
structure TxB (D : Dep) : Prop where
  l1 : D.revs.length ≤ 60
  l2 : D.recs.length ≤ 60
  path : ∀ r ∈ D.revs, r.path.size ≤ 1000
  rec_ : ∀ r ∈ D.recs, r.frm.size ≤ 2000000 ∧ r.to.size ≤ 2000000 ∧ r.last ≤ 9223372036854775807
theorem chgR_recs {D : Dep} (h : TxB D) (k : Nat) (n : Int) : (chgR D k n).recs.length ≤ 3600 := by
  have h1 := recsR_len D (runAt D.revs k n)
  have h2 := run_len (revs := D.revs) (k := k) (n := n)
  have h3 := h.l1
  have h4 := h.l2
  have h5 : (runAt D.revs k n).length * D.recs.length ≤ 60 * 60 := Nat.mul_le_mul (by omega) h4
  show (recsR D (runAt D.revs k n)).length ≤ 3600
  omega
theorem chgR_edits {D : Dep} (h : TxB D) (k : Nat) (n : Int) : (chgR D k n).edits.length ≤ 60 := by
  have h2 := run_len (revs := D.revs) (k := k) (n := n)
  have h3 := h.l1
  show ((runAt D.revs k n).map edtW).length ≤ 60
  rw [List.length_map]; omega
theorem chgR_path {D : Dep} (h : TxB D) (k : Nat) (n : Int) : ∀ e ∈ (chgR D k n).edits, e.path.size ≤ 1000 := by
  intro e he
  obtain ⟨v, hv, rfl⟩ := List.mem_map.1 he
  exact h.path v (run_mem hv).1
theorem raB_repl {D : Dep} {k : Nat} {d : Dep} (hD : TxB D) (hr : ReplR D k d) (hd : DepW d) (m : Nat) (n : Int) : RaB d (chgR D m n) := by
  obtain ⟨l, hl⟩ := replR_plays hr
  have h1 := chgR_edits hD m n
  have h2 := chgR_recs hD m n
  exact ⟨⟨plays_depOk hl, hd, by omega, by omega, fun e he => by have := chgR_path hD m n e he; omega, fun r hr => by have := hD.rec_ r (recsR_mem hr); omega⟩,
    fun r hx => by have := hD.rec_ r (replR_recs hr r hx); omega⟩
theorem chgW_repl {D d : Dep} (hD : TxB D) (m : Nat) (n : Int) (h0 : appE d (chgR D m n) = 0) : ChgW (chgR D m n) := by
  have h1 := chgR_edits hD m n
  have h2 := (sizeE_zero (appE_zero h0).1).2.2.1
  exact ⟨by omega, by omega, chgR_path hD m n, fun r hr => by
    have := hD.rec_ r (recsR_mem hr)
    exact ⟨⟨by omega, by omega⟩, this.2.2⟩⟩
theorem grp_cons {D : Dep} {k : Nat} {c : Chg} {l : List Chg} (h : Grp D k (c :: l)) : ∃ hk : k < D.revs.length, c = chgR D k (D.revs[k]).chg ∧ Grp D (k + (runAt D.revs k (D.revs[k]).chg).length) l := by
  cases h with
  | cons hk h2 => exact ⟨hk, rfl, h2⟩
theorem grp_nil {D : Dep} {k : Nat} (h : Grp D k []) : k = D.revs.length := by cases h; rfl
/-- The state of Valid's loop. -/
structure VrSt (w wr : World) (D : Dep) (k : Nat) (Ar Aq : Option Addr) (cr cq : Nat) (dv dr : Value) (d : Dep) : Prop where
  bel : Below w.heap.size w wr
  box1 : Blk wr w.heap.size 25 [.slice Ar D.revs.length cr, .slice Aq D.recs.length cq]
  box3 : Blk wr (w.heap.size + 1) 25 [dv, dr]
  dep : DepAt wr dv dr d
  far : Fresh (w.heap.size + 1 + 1) dv ∧ Fresh (w.heap.size + 1 + 1) dr
  repl : ReplR D k d
theorem VrSt.under {w wr X : World} {D : Dep} {k : Nat} {Ar Aq : Option Addr} {cr cq : Nat} {dv dr : Value} {d : Dep} (h : VrSt w wr D k Ar Aq cr cq dv dr d) (hX : Below wr.heap.size wr X) : VrSt w X D k Ar Aq cr cq dv dr d :=
  ⟨below_next h.bel hX, h.box1.below' hX, h.box3.below' hX, h.dep.below hX, h.far, h.repl⟩
theorem Chgs.setCell_far {w : World} {v u : Value} {ps : List ChV} {g i : Nat} (h : Chgs w v ps) (h1 : v.ownBlock ≠ some g) (h2 : ∀ p ∈ ps, p.2.1.ownBlock ≠ some g ∧ p.2.2.ownBlock ≠ some g) : Chgs (w.setCell ⟨g, i, none⟩ u) v ps :=
  ⟨Row.setCell_far h.1 h1, fun p hp => ⟨Row.setCell_far (h.2 p hp).1 (h2 p hp).1, Row.setCell_far (h.2 p hp).2 (h2 p hp).2⟩⟩
def RVPost (w : World) (D : Dep) (e : Ending) (w' : World) : Prop := ∃ b, e = .returned (.bool b) ∧ Below w.heap.size w w' ∧ (b = true → ReplR D D.revs.length D) ∧ (b = false → BadR D)
set_option maxRecDepth 100000 in
set_option maxHeartbeats 8000000 in
theorem refValid_any (D : Dep) (dv dr : Value) (w : World) (henv : Env w) (hR : Revs w dv D.revs) (hQ : Rcds w dr D.recs) (hD : TxB D) :
    Calls Tryd.prog 6 #[.agg #[dv, dr]] w (RVPost w D) := by
  obtain ⟨Ar, cr, rfl, -⟩ := id hR
  obtain ⟨Aq, cq, rfl, -⟩ := id hQ
  have HR := Lib.hid hR
  have HQ := Lib.hid hQ
  have HTX := Lib.hid hD
  have HEN := Lib.hid henv
  clear hR hQ hD henv
  go_enter Tryd.func6, Tryd.ntmps6
  have hst : VrSt w ((w.alloc (.cells #[.slice Ar D.revs.length cr, .slice Aq D.recs.length cq] 25)).alloc (.cells #[.slice none 0 0, .slice none 0 0] 25)) D 0 Ar Aq cr cq (.slice none 0 0) (.slice none 0 0) ⟨[], []⟩ := by
    refine ⟨((Below.refl _ _).alloc (Nat.le_refl _) _).alloc (by simp) _, (blk_new w _ _).alloc _, ?_, ⟨Revs.nil_ _, Rcds.nil_ _, depW_nil⟩, ⟨fun x e => (by cases e), fun x e => (by cases e)⟩, ReplR.start⟩
    have h1 := blk_new (w.alloc (.cells #[.slice Ar D.revs.length cr, .slice Aq D.recs.length cq] 25)) [.slice none 0 0, .slice none 0 0] 25
    simp only [World.size_alloc] at h1
    exact h1
  go_upto_region 2 with fail
  generalize (w.alloc (.cells #[.slice Ar D.revs.length cr, .slice Aq D.recs.length cq] 25)).alloc (.cells #[.slice none 0 0, .slice none 0 0] 25) = W1 at hst ⊢
  obtain ⟨d0, d1, -, -⟩ := box2 hst.box1
  have HCG := Lib.hid (changes_any D (.slice Ar D.revs.length cr) (.slice Aq D.recs.length cq) W1 (HR.out.below hst.bel) (HQ.out.below hst.bel) HTX.out.l1 HTX.out.l2)
  have HST := Lib.hid hst
  clear hst
  go_wp2_with fail
  refine HCG.out.mono ?_
  rintro e W2 ⟨A, c, ps, rfl, hb2, hP, hps, hfa, hfb⟩
  clear d0 d1
  obtain ⟨A', c', e', hc, hm, -⟩ := id hP.1
  injection e' with e1 e2 e3
  subst e1 e3
  unfold maxLen at hm
  have hsz := HST.out.box3.lt
  have HFR : Hid ((Value.slice A ps.length c).ownBlock ≠ some (w.heap.size + 1) ∧ ∀ p ∈ ps, p.2.1.ownBlock ≠ some (w.heap.size + 1) ∧ p.2.2.ownBlock ≠ some (w.heap.size + 1)) := Lib.hid ⟨fun e => by have := hfa _ e; omega, fun p hp => ⟨fun e => by have := (hfb p hp).1 _ e; omega, fun e => by have := (hfb p hp).2 _ e; omega⟩⟩
  have HP := Lib.hid hP
  clear hfa hfb hsz
  have HS2 : Hid (VrSt w W2 D 0 Ar Aq cr cq (.slice none 0 0) (.slice none 0 0) ⟨[], []⟩ ∧ Grp D 0 ((ps.drop 0).map (·.1))) := Lib.hid ⟨HST.out.under hb2, by rw [List.drop_zero, hps]; exact chgs_grp D⟩
  clear hP hps hb2 e2 HST HCG
  go_wp2_with fail
  go_loopw [11] (fun s wr => ∃ (j k : Nat) (dv dr : Value) (d : Dep), s = .int .i64 j ∧ j ≤ ps.length ∧ Hid (VrSt w wr D k Ar Aq cr cq dv dr d ∧ Grp D k ((ps.drop j).map (·.1)) ∧ Chgs wr (.slice A ps.length c) ps)) (fun s _ => ps.length - (intOf s).toNat)
  case atStart => exact ⟨0, 0, _, _, _, rfl, Nat.zero_le _, HS2.out.1, HS2.out.2, HP.out⟩
  case round =>
    obtain ⟨j, k, dv, dr, d, rfl, hj, HI⟩ := hrel
    by_cases hlt : j < ps.length
    · have hPr := HI.out.2.2
      obtain ⟨ad, rfl, hab, hld⟩ := Chgs.at_ hPr hlt
      have hok := hPr.2 ps[j] (List.getElem_mem _)
      have hgr := HI.out.2.1
      rw [List.drop_eq_getElem_cons hlt, List.map_cons] at hgr
      obtain ⟨hk, hch, hg2⟩ := grp_cons hgr
      have HG : Hid (∃ hk : k < D.revs.length, (ps[j]).1 = chgR D k (D.revs[k]).chg ∧ Grp D (k + (runAt D.revs k (D.revs[k]).chg).length) ((ps.drop (j + 1)).map (·.1))) := Lib.hid ⟨hk, hch, hg2⟩
      have HRB : Hid (RaB d (ps[j]).1 ∧ (appE d (ps[j]).1 = 0 → ChgW (ps[j]).1)) := Lib.hid (by rw [hch]; exact ⟨raB_repl HTX.out HI.out.1.repl HI.out.1.dep.2.2 _ _, chgW_repl HTX.out _ _⟩)
      clear hgr hk hch hg2 hPr
      generalize ps[j] = p at hld hok HG HRB
      obtain ⟨ch, ev, rv⟩ := p
      obtain ⟨Ae, ce, he, -⟩ := id hok.1
      obtain ⟨Ac, cc, hc2, -⟩ := id hok.2
      change ev = .slice Ae ch.edits.length ce at he
      change rv = .slice Ac ch.recs.length cc at hc2
      subst he hc2
      change Hid (RaB d ch ∧ (appE d ch = 0 → ChgW ch)) at HRB
      change Hid (∃ hk : k < D.revs.length, ch = chgR D k (D.revs[k]).chg ∧ Grp D (k + (runAt D.revs k (D.revs[k]).chg).length) ((ps.drop (j + 1)).map (·.1))) at HG
      obtain ⟨x0, x1, x2, x3, x4⟩ := hld
      change wr.cell? (ad.add (j * 5)) = some (.int .i64 ch.num) at x0
      change wr.cell? ⟨(ad.add (j * 5)).block, (ad.add (j * 5)).off + 1, none⟩ = some (.string ch.client) at x1
      change wr.cell? ⟨(ad.add (j * 5)).block, (ad.add (j * 5)).off + 2, none⟩ = some (.string ch.text) at x2
      change wr.cell? ⟨(ad.add (j * 5)).block, (ad.add (j * 5)).off + 3, none⟩ = some (.slice Ae ch.edits.length ce) at x3
      change wr.cell? ⟨(ad.add (j * 5)).block, (ad.add (j * 5)).off + 4, none⟩ = some (.slice Ac ch.recs.length cc) at x4
      have HOK : Hid (Edts wr (.slice Ae ch.edits.length ce) ch.edits ∧ Rcds wr (.slice Ac ch.recs.length cc) ch.recs) := Lib.hid hok
      clear hok
      have hX1 := blk_new wr [.int .i64 ch.num, .string ch.client, .string ch.text, .slice Ae ch.edits.length ce, .slice Ac ch.recs.length cc] 42
      have hA1 : Below wr.heap.size wr (wr.alloc (.cells #[.int .i64 ch.num, .string ch.client, .string ch.text, .slice Ae ch.edits.length ce, .slice Ac ch.recs.length cc] 42)) := (Below.refl _ _).alloc (Nat.le_refl _) _
      go_upto_region 5 with fail
      clear x0 x1 x2 x3 x4
      generalize wr.alloc (.cells #[.int .i64 ch.num, .string ch.client, .string ch.text, .slice Ae ch.edits.length ce, .slice Ac ch.recs.length cc] 42) = V1 at hX1 hA1 ⊢
      obtain ⟨y0, y1, y2, y3, y4⟩ := box5 hX1
      have hS1 := HI.out.1.under hA1
      obtain ⟨z0, z1, -, -⟩ := box2 hS1.box3
      have HAP := Lib.hid (refAppend_any d ch dv dr (.slice Ae ch.edits.length ce) (.slice Ac ch.recs.length cc) V1 HRB.out.1 (HEN.out.below hS1.bel) hS1.dep.1 hS1.dep.2.1 (HOK.out.1.below hA1) (HOK.out.2.below hA1))
      have HA1 := Lib.hid hA1
      have HS1 := Lib.hid hS1
      clear hS1 hX1 hA1
      go_wp2_with fail
      refine HAP.out.mono ?_
      rintro e V2 ⟨hb2, ⟨hn0, rfl⟩ | ⟨h0, dv', dr', rs, rfl, hR', hQ', hpm', hpw', hf1, hf2⟩⟩
      · clear y0 y1 y2 y3 y4 z0 z1
        have HB2 := Lib.hid hb2
        have HBD : Hid (BadR D) := Lib.hid (by
          obtain ⟨hk, rfl, -⟩ := HG.out
          exact .stuck k d hk HI.out.1.repl hn0)
        have q : (appE d ch != 0) = true := by simpa using hn0
        clear hb2 hn0
        go_wp2_with fail
        go_ret
        exact ⟨false, rfl, (below_next HS1.out.bel HB2.out).alloc (below_next HS1.out.bel HB2.out).size _, fun h => (by cases h), fun _ => HBD.out⟩
      · clear y0 y1 y2 y3 y4 z0 z1
        obtain ⟨A5, c5, rfl, -⟩ := id hR'
        obtain ⟨A6, c6, rfl, -⟩ := id hQ'
        have HS2' := Lib.hid (HS1.out.under hb2)
        have hsz1 : V1.heap.size ≤ V2.heap.size := hb2.size
        have hsz0 : w.heap.size + 1 < V1.heap.size := HS1.out.box3.lt
        have HBW := Lib.hid (below_next HA1.out hb2)
        have HN : Hid (DepAt V2 (.slice A5 (newRevs d ch).length c5) (.slice A6 rs.length c6) ⟨newRevs d ch, rs⟩ ∧ (∃ k', ReplR D k' ⟨newRevs d ch, rs⟩ ∧ Grp D k' ((ps.drop (j + 1)).map (·.1))) ∧ Fresh V1.heap.size (.slice A5 (newRevs d ch).length c5) ∧ Fresh V1.heap.size (.slice A6 rs.length c6)) := Lib.hid (by
          refine ⟨⟨hR', hQ', appE_keeps HI.out.1.dep.2.2 (HRB.out.2 h0) h0 rs hpm'⟩, ?_, hf1, hf2⟩
          obtain ⟨hk, rfl, hg⟩ := HG.out
          exact ⟨_, ReplR.step hk HI.out.1.repl h0 hpm' hpw', hg⟩)
        have q : ((0 : Int) != 0) = false := rfl
        have hx6 := blk_new V2 [.slice A5 (newRevs d ch).length c5, .slice A6 rs.length c6] 25
        have hba : Below V2.heap.size V2 (V2.alloc (.cells #[.slice A5 (newRevs d ch).length c5, .slice A6 rs.length c6] 25)) := (Below.refl _ _).alloc (Nat.le_refl _) _
        clear hR' hQ' hpm' hpw' hf1 hf2 hb2 h0
        go_upto_region 8 with fail
        generalize V2.alloc (.cells #[.slice A5 (newRevs d ch).length c5, .slice A6 rs.length c6] 25) = V3 at hba hx6 ⊢
        have HS3 := Lib.hid (HS2'.out.under hba)
        have HD3 := Lib.hid (HN.out.1.below hba)
        have HBV := Lib.hid (below_next HBW.out hba)
        obtain ⟨z0, z1, f0, f1⟩ := box2 HS3.out.box3
        obtain ⟨w0, w1, -, -⟩ := box2 hx6
        clear hba hx6
        go_wp2_with fail
        go_roundw
        case rel =>
          have n1 : (Value.slice A5 (newRevs d ch).length c5).ownBlock ≠ some (w.heap.size + 1) := fun e => by have := HN.out.2.2.1 _ e; omega
          have n2 : (Value.slice A6 rs.length c6).ownBlock ≠ some (w.heap.size + 1) := fun e => by have := HN.out.2.2.2 _ e; omega
          obtain ⟨k', hrp, hg'⟩ := HN.out.2.1
          refine ⟨j + 1, k', _, _, _, by go_num, by omega, ⟨(HS3.out.bel.setCell (p := ⟨w.heap.size + 1, 0, none⟩) (by simp) _).setCell (p := ⟨w.heap.size + 1, 1, none⟩) (by simp) _, (HS3.out.box1.far (p := ⟨w.heap.size + 1, 0, none⟩) (by simp) _).far (p := ⟨w.heap.size + 1, 1, none⟩) (by simp) _, (HS3.out.box3.set_ 0 _).set_ 1 _, (HD3.out.setCell n1 n2).setCell n1 n2, ⟨fun x e => by have := HN.out.2.2.1 _ e; omega, fun x e => by have := HN.out.2.2.2 _ e; omega⟩, hrp⟩, hg', ((HI.out.2.2.below HBV.out).setCell_far HFR.out.1 HFR.out.2).setCell_far HFR.out.1 HFR.out.2⟩
        case measure => simp [intOf]; omega
    · have hkk : j = ps.length := by omega
      have HK : Hid (ReplR D D.revs.length d) := Lib.hid (by
        have h1 := HI.out.2.1
        rw [hkk, List.drop_length] at h1
        have h2 := grp_nil h1
        rw [← h2]; exact HI.out.1.repl)
      clear hkk
      obtain ⟨A5, c5, rfl, -⟩ := id HI.out.1.dep.1
      obtain ⟨A6, c6, rfl, -⟩ := id HI.out.1.dep.2.1
      obtain ⟨z0, z1, -, -⟩ := box2 HI.out.1.box3
      obtain ⟨d0, d1, -, -⟩ := box2 HI.out.1.box1
      have HSA := Lib.hid (refSame_any d D (.slice A5 d.revs.length c5) (.slice A6 d.recs.length c6) (.slice Ar D.revs.length cr) (.slice Aq D.recs.length cq) wr HI.out.1.dep.1 HI.out.1.dep.2.1 (HR.out.below HI.out.1.bel) (HQ.out.below HI.out.1.bel))
      go_wp2_with fail
      refine HSA.out.mono ?_
      rintro e w9 ⟨rfl, hb9⟩
      have HB9 := Lib.hid hb9
      clear d0 d1 z0 z1 hb9
      go_wp2_with fail
      go_ret
      refine ⟨_, rfl, below_next HI.out.1.bel HB9.out, fun h => ?_, fun h => ?_⟩
      · unfold sameD at h
        simp only [Bool.and_eq_true, decide_eq_true_eq] at h
        have : d = D := by cases d; cases D; simp_all
        rw [← this]
        exact this ▸ HK.out
      · refine .other d HK.out fun hh => ?_
        rw [same_yes hh.1 hh.2] at h
        cases h
end Go.Proofs.YtnblfaagchflaaaDoor
/- HistoryValids: the walk. -/
namespace Go.Proofs.YtnblfaagchflaaaDoor
open Go.RowKit
set_option linter.unusedVariables false
set_option linter.unusedSimpArgs false

set_option maxRecDepth 100000 in
set_option maxHeartbeats 8000000 in
theorem valids_any (D : Dep) (dv dr : Value) (w : World) (henv : Env w) (hR : Revs w dv D.revs) (hQ : Rcds w dr D.recs) (hz : ∀ r ∈ D.revs, r.path.size ≤ 1048576 ∧ r.frm.size ≤ 1048576) (hq : ∀ r ∈ D.recs, r.frm.size ≤ 1048576 ∧ r.to.size ≤ 1048576 ∧ r.last ≤ 9223372036854775807) :
    Calls Tryd.prog 3 #[.agg #[dv, dr]] w fun e w' => e = .returned (.bool true) ∧ Below w.heap.size w w' := by
  obtain ⟨Ar, cr, rfl, hcr, hmr, -⟩ := id hR
  obtain ⟨Aq, cq, rfl, hcq, hmq, -⟩ := id hQ
  unfold maxLen at hmr hmq
  have HR := Lib.hid hR
  have HQ := Lib.hid hQ
  have HZ := Lib.hid hz
  have HQZ := Lib.hid hq
  have HEN := Lib.hid henv
  have HAW := Lib.hid (fun X => awake_any X)
  clear hR hQ hz hq henv
  have hB0 := blk_new w [.slice Ar D.revs.length cr, .slice Aq D.recs.length cq] 25
  have hb0 : Below w.heap.size w (w.alloc (.cells #[.slice Ar D.revs.length cr, .slice Aq D.recs.length cq] 25)) := (Below.refl _ _).alloc (Nat.le_refl _) _
  go_enter Tryd.func3, Tryd.ntmps3
  go_upto_region 1 with fail
  generalize w.alloc (.cells #[.slice Ar D.revs.length cr, .slice Aq D.recs.length cq] 25) = W1 at hB0 hb0 ⊢
  have HB0 := Lib.hid hB0
  have Hb0 := Lib.hid hb0
  obtain ⟨d0, d1, -, -⟩ := box2 hB0
  clear hB0 hb0
  by_cases hl1 : 60 < D.revs.length
  · have q1 : decide ((60 : Int) < (D.revs.length : Int)) = true := by simp; omega
    go_wp2_with fail
    refine (HAW.out W1).mono ?_
    rintro e w3 ⟨rfl, hb3⟩
    have HB3 := Lib.hid hb3
    clear hb3 d0 d1
    go_wp2_with fail
    go_ret
    exact ⟨rfl, below_next Hb0.out HB3.out⟩
  have q1 : decide ((60 : Int) < (D.revs.length : Int)) = false := by simp; omega
  by_cases hl2 : 60 < D.recs.length
  · have q2 : decide ((60 : Int) < (D.recs.length : Int)) = true := by simp; omega
    go_wp2_with fail
    refine (HAW.out W1).mono ?_
    rintro e w3 ⟨rfl, hb3⟩
    have HB3 := Lib.hid hb3
    clear hb3 d0 d1
    go_wp2_with fail
    go_ret
    exact ⟨rfl, below_next Hb0.out HB3.out⟩
  have q2 : decide ((60 : Int) < (D.recs.length : Int)) = false := by simp; omega
  have HL : Hid (D.revs.length ≤ 60 ∧ D.recs.length ≤ 60) := Lib.hid ⟨by omega, by omega⟩
  clear hl1 hl2
  go_wp2_with fail
  clear d0 d1 q1 q2
  go_loopw [19] (fun s wr => ∃ k : Nat, s = .int .i64 k ∧ k ≤ D.revs.length ∧ Hid (Below W1.heap.size W1 wr ∧ ∀ r ∈ D.revs.take k, r.path.size + r.frm.size ≤ 500)) (fun s _ => D.revs.length - (intOf s).toNat)
  case atStart => exact ⟨0, rfl, Nat.zero_le _, Below.refl _ _, fun r hr => by rw [List.take_zero] at hr; cases hr⟩
  case round =>
    obtain ⟨k, rfl, hk, HI⟩ := hrel
    by_cases hlt : k < D.revs.length
    · obtain ⟨ad, rfl, hab, hld⟩ := Revs.at_ (HR.out.below (below_next Hb0.out HI.out.1)) hlt
      have HT : Hid ((D.revs[k]).path.size + (D.revs[k]).frm.size ≤ 500 → ∀ r ∈ D.revs.take (k + 1), r.path.size + r.frm.size ≤ 500) := Lib.hid (fun h r hr => by
        rw [List.take_succ_eq_append_getElem hlt] at hr
        rcases List.mem_append.1 hr with hr | hr
        · exact HI.out.2 r hr
        · rw [List.mem_singleton] at hr; subst hr; exact h)
      have hzz := HZ.out _ (List.getElem_mem hlt)
      generalize D.revs[k] = x at hld HT hzz
      obtain ⟨z1, z2⟩ := hzz
      obtain ⟨x0, x1, x2, x3, x4, x5, x6, x7, x8, x9, x10, x11⟩ := hld
      have hX := blk_new wr [.string x.path, .int .i64 x.num, .int .i64 x.chg, .int .i64 x.act, .int .i64 x.ty.base, .bool x.ty.k, .bool x.ty.l, .bool x.ty.x, .int .u64 x.sum, .int .i64 x.size, .string x.frm, .int .i64 x.fnum] 33
      have hA1 := HI.out.1.alloc HI.out.1.size (.cells #[.string x.path, .int .i64 x.num, .int .i64 x.chg, .int .i64 x.act, .int .i64 x.ty.base, .bool x.ty.k, .bool x.ty.l, .bool x.ty.x, .int .u64 x.sum, .int .i64 x.size, .string x.frm, .int .i64 x.fnum] 33)
      go_upto_region 6 with fail
      clear x0 x1 x2 x3 x4 x5 x6 x7 x8 x9 x10 x11
      generalize wr.alloc (.cells #[.string x.path, .int .i64 x.num, .int .i64 x.chg, .int .i64 x.act, .int .i64 x.ty.base, .bool x.ty.k, .bool x.ty.l, .bool x.ty.x, .int .u64 x.sum, .int .i64 x.size, .string x.frm, .int .i64 x.fnum] 33) = V1 at hX hA1 ⊢
      obtain ⟨x0, x1, x2, x3, x4, x5, x6, x7, x8, x9, x10, x11⟩ := box12 hX
      have HA1 := Lib.hid hA1
      clear hX hA1
      have qw : IntKind.i64.wrap ((x.path.size : Int) + (x.frm.size : Int)) = (x.path.size : Int) + (x.frm.size : Int) := IntWalk.i64_in _ (by omega)
      by_cases h5 : 500 < x.path.size + x.frm.size
      · have q5 : decide ((500 : Int) < (x.path.size : Int) + (x.frm.size : Int)) = true := by simp; omega
        clear h5
        go_wp2_with fail
        refine (HAW.out V1).mono ?_
        rintro e w3 ⟨rfl, hb3⟩
        have HB3 := Lib.hid hb3
        clear hb3 x0 x1 x2 x3 x4 x5 x6 x7 x8 x9 x10 x11
        go_wp2_with fail
        go_ret
        exact ⟨rfl, below_next Hb0.out (below_next HA1.out HB3.out)⟩
      · have q5 : decide ((500 : Int) < (x.path.size : Int) + (x.frm.size : Int)) = false := by simp; omega
        have HT2 := Lib.hid (HT.out (by omega))
        clear h5
        go_wp2_with fail
        go_roundw
        case rel => exact ⟨k + 1, by go_num, by omega, HA1.out, HT2.out⟩
        case measure => simp [intOf]; omega
    · have hkk : k = D.revs.length := by omega
      have HTX : Hid (TxB D) := Lib.hid (by
        have h1 := HI.out.2
        rw [hkk, List.take_length] at h1
        exact ⟨HL.out.1, HL.out.2, fun r hr => by have := h1 r hr; omega, fun r hr => by have := HQZ.out r hr; omega⟩)
      have HBI := Lib.hid HI.out.1
      clear hkk HI
      have hq0 : Hid (∀ X, Below wr.heap.size wr X → X.cell? ⟨w.heap.size, 0, none⟩ = some (.slice Ar D.revs.length cr) ∧ X.cell? ⟨w.heap.size, 1, none⟩ = some (.slice Aq D.recs.length cq)) := Lib.hid (fun X hX => by
        obtain ⟨a, b, -, -⟩ := box2 (HB0.out.below (below_next HBI.out hX) HB0.out.lt)
        exact ⟨a, b⟩)
      have HVA := Lib.hid (fun X (hX : Below wr.heap.size wr X) => validD_any D (.slice Ar D.revs.length cr) (.slice Aq D.recs.length cq) X (HR.out.below (below_next Hb0.out (below_next HBI.out hX))) (HQ.out.below (below_next Hb0.out (below_next HBI.out hX))) HTX.out.path (fun r hr => by have := HTX.out.rec_ r hr; exact ⟨⟨by omega, by omega⟩, this.2.2⟩))
      have HRA := Lib.hid (fun X (hX : Below wr.heap.size wr X) => refValid_any D (.slice Ar D.revs.length cr) (.slice Aq D.recs.length cq) X (HEN.out.below (below_next Hb0.out (below_next HBI.out hX))) (HR.out.below (below_next Hb0.out (below_next HBI.out hX))) (HQ.out.below (below_next Hb0.out (below_next HBI.out hX))) HTX.out)
      obtain ⟨d0, d1⟩ := hq0.out wr (Below.refl _ _)
      have HEQ : Hid (∀ b1 b2 : Bool, (b1 = true → Good D) → (b1 = false → Bad D) → (b2 = true → ReplR D D.revs.length D) → (b2 = false → BadR D) → b1 = b2) := Lib.hid (fun b1 b2 g1 g2 r1 r2 => by
        cases b1 with
        | true => cases b2 with
          | true => rfl
          | false => exact absurd (r2 rfl) (valid_yes (g1 rfl))
        | false => cases b2 with
          | false => rfl
          | true => exact absurd (r1 rfl) (valid_no (g2 rfl) (by have := HL.out.1; omega) (by have := HL.out.2; omega)))
      go_upto_region 9 with fail
      refine wp_region_noPanic ?_
      first
        | go_region_law (first
          | (go_simp; go_at_call 5; refine (HVA.out _ (by first | exact Below.refl _ _ | exact (Below.refl _ _).drew)).mono ?_; rintro e w5 ⟨b1, rfl, hv5, hg1, hg2⟩; have hS5 : Below wr.heap.size wr w5 := below_next (by first | exact Below.refl _ _ | exact (Below.refl _ _).drew) hv5; obtain ⟨d5, d6⟩ := hq0.out w5 hS5)
          | (go_simp; go_at_call 6; refine (HRA.out _ (by first | exact hS5 | exact hS5.drew)).mono ?_; rintro e w6 ⟨b2, rfl, hv6, hr1, hr2⟩; obtain rfl : b1 = b2 := HEQ.out b1 b2 hg1 hg2 hr1 hr2; have hS6 : Below wr.heap.size wr w6 := below_next (by first | exact hS5 | exact hS5.drew) hv6)
          | (go_simp; go_at_call 4; refine (HAW.out _).mono ?_; rintro e w7 ⟨rfl, hv7⟩; have hS7 : Below wr.heap.size wr w7 := below_next hS6 hv7))
        | fail
      all_goals
        refine NoPanic.normal ?_
        go_wp2_with fail
        go_ret
        exact ⟨rfl, below_next Hb0.out (below_next HBI.out hS7)⟩
end Go.Proofs.YtnblfaagchflaaaDoor
/- The walk of HistoryValids at its argument as the Upto row reads it. -/
namespace Go.Proofs.YtnblfaagchflaaaDoor
open Go.RowKit Go.ChangeShapes Go.WideShapes Go.Deep
set_option linter.unusedVariables false

theorem historyValids_walk (D : Dep) (Ar Aq : Option Addr) (cr cq : Nat) (w : World) (he : Env w) (h0 : upto.DepRd w (D, .slice Ar D.revs.length cr, .slice Aq D.recs.length cq)) :
    Calls Tryd.prog 3 #[.agg #[.slice Ar D.revs.length cr, .slice Aq D.recs.length cq]] w fun e w' => e = .returned (.bool true) ∧ Below w.heap.size w w' :=
  valids_any D _ _ w he h0.1 h0.2.1 h0.2.2.2.2.1 h0.2.2.2.2.2
end Go.Proofs.YtnblfaagchflaaaDoor
