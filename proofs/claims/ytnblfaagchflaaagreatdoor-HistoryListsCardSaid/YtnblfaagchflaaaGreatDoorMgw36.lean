/- The reference's Append: the walk. -/
import Derived.Test.YtnblfaagchflaaaGreatDoorMgw35
import Derived.Test.YtnblfaagchflaaaGreatDoorMgw30
import Derived.Test.YtnblfaagchflaaaGreatDoorMgw27
import Derived.Test.YtnblfaagchflaaaGreatDoorMgw29
import Derived.Test.YtnblfaagchflaaaGreatDoorMgw31
import Derived.Test.YtnblfaagchflaaaGreatDoorMgw25
import Derived.Test.YtnblfaagchflaaaGreatDoorMgw17
namespace Go.Proofs.YtnblfaagchflaaaGreatDoor
open Go.RowKit
set_option linter.unusedVariables false
set_option linter.unusedSimpArgs false

theorem made_take (f : Edt → Rev) (es : List Edt) (k : Nat) (h : k < es.length) : ((es.take (k + 1)).map f).flatMap Rev.cells = ((es.take k).map f).flatMap Rev.cells ++ (f es[k]).cells := by
  rw [List.take_succ_eq_append_getElem h, List.map_append, List.flatMap_append, List.map_cons, List.map_nil, List.flatMap_cons, List.flatMap_nil, List.append_nil]
theorem newRevs_cells (d : Dep) (c : Chg) : (newRevs d c).flatMap Rev.cells = d.revs.flatMap Rev.cells ++ (c.edits.map (madeR (lastOf d.revs) c.num)).flatMap Rev.cells := by
  unfold newRevs; rw [List.flatMap_append]
theorem newRevs_len (d : Dep) (c : Chg) : (newRevs d c).length = d.revs.length + c.edits.length := by
  unfold newRevs; rw [List.length_append, List.length_map]
/-- What the reference's Append stands on. -/
structure RaB (d : Dep) (c : Chg) : Prop where
  ck : CkB d c
  fd : ∀ r ∈ d.recs, r.frm.size ≤ 2000000 ∧ r.to.size ≤ 2000000
/-- The result while it is made. -/
def RaI (V wr : World) (g7 : Nat) (d : Dep) (c : Chg) (k : Nat) : Prop := ∃ v1, ApR V wr g7 v1 (.slice none 0 0) (d.revs.length + k) 0 (d.revs.flatMap Rev.cells ++ ((c.edits.take k).map (madeR (lastOf d.revs) c.num)).flatMap Rev.cells) []
set_option maxRecDepth 100000 in
set_option maxHeartbeats 8000000 in
theorem refAppend_any (d : Dep) (c : Chg) (dv dr ev rv : Value) (w : World) (hb : RaB d c) (he : Env w) (hR : Revs w dv d.revs) (hQ : Rcds w dr d.recs) (hE : Edts w ev c.edits) (hC : Rcds w rv c.recs) :
    Calls Tryz.prog 32 #[.agg #[dv, dr], .agg #[.int .i64 c.num, .string c.client, .string c.text, ev, rv]] w (ApPost w d c) := by
  obtain ⟨Ar, cr, rfl, -⟩ := id hR
  obtain ⟨Aq, cq, rfl, -⟩ := id hQ
  obtain ⟨Ae, ce, rfl, -⟩ := id hE
  obtain ⟨Ac, cc, rfl, -⟩ := id hC
  have HEN := Lib.hid he
  have HR := Lib.hid hR
  have HQ := Lib.hid hQ
  have HE := Lib.hid hE
  have HC := Lib.hid hC
  have HB := Lib.hid hb
  have bl1 := hb.ck.el
  have bl2 := hb.ck.rl
  have bl3 : d.revs.length ≤ 512 := hb.ck.dw.len
  have bl4 : d.recs.length ≤ 512 := hb.ck.dw.rlen
  clear he hR hQ hE hC hb
  obtain ⟨W1, hW1⟩ : ∃ W, W = ((w.alloc (.cells #[.slice Ar d.revs.length cr, .slice Aq d.recs.length cq] 31)).alloc (.cells #[.int .i64 c.num, .string c.client, .string c.text, .slice Ae c.edits.length ce, .slice Ac c.recs.length cc] 53)).alloc (.cells #[.slice none 0 0, .slice none 0 0] 31) := ⟨_, rfl⟩
  have hb1 : Below w.heap.size w W1 := by rw [hW1]; exact (((Below.refl _ _).alloc (Nat.le_refl _) _).alloc (by simp) _).alloc (by simp; omega) _
  have hD1 : Blk W1 w.heap.size 31 [.slice Ar d.revs.length cr, .slice Aq d.recs.length cq] := by rw [hW1]; exact ((blk_new w _ _).alloc _).alloc _
  have hC1 : Blk W1 (w.heap.size + 1) 53 [.int .i64 c.num, .string c.client, .string c.text, .slice Ae c.edits.length ce, .slice Ac c.recs.length cc] := by
    rw [hW1]
    have := blk_new (w.alloc (.cells #[.slice Ar d.revs.length cr, .slice Aq d.recs.length cq] 31)) [.int .i64 c.num, .string c.client, .string c.text, .slice Ae c.edits.length ce, .slice Ac c.recs.length cc] 53
    simp only [World.size_alloc] at this
    exact this.alloc _
  have hZ1 : Blk W1 (w.heap.size + 1 + 1) 31 [.slice none 0 0, .slice none 0 0] := by
    rw [hW1]
    have := blk_new ((w.alloc (.cells #[.slice Ar d.revs.length cr, .slice Aq d.recs.length cq] 31)).alloc (.cells #[.int .i64 c.num, .string c.client, .string c.text, .slice Ae c.edits.length ce, .slice Ac c.recs.length cc] 53)) [.slice none 0 0, .slice none 0 0] 31
    simp only [World.size_alloc] at this
    exact this
  have HW1 := Lib.hid hW1
  have Hb1 := Lib.hid hb1
  have HD1 := Lib.hid hD1
  have HC1 := Lib.hid hC1
  have HZ1 := Lib.hid hZ1
  have HCK := Lib.hid (refCheckD_any d c Ar Aq Ae Ac cr cq ce cc W1 HB.out.ck (HEN.out.below hb1) (HR.out.below hb1) (HE.out.below hb1) (HC.out.below hb1))
  clear hW1 hb1 hD1 hC1 hZ1
  go_enter Tryz.func32, Tryz.ntmps32
  go_upto_region 1 with fail
  rw [← HW1.out]
  obtain ⟨d0, d1, -, -⟩ := box2 HD1.out
  obtain ⟨k0, k1, k2, k3, k4⟩ := box5 HC1.out
  go_wp2_with fail
  refine HCK.out.mono ?_
  rintro e w2 ⟨rfl, hb2⟩
  have HB2 := Lib.hid hb2
  clear hb2 d0 d1 k0 k1 k2 k3 k4 HCK
  have HF := Lib.hid (fun (W : World) (n : Int) (hb : Below w.heap.size w W) (hn : n ≠ 0) (he : appE d c = n) => (⟨hb, .inl ⟨by rw [he]; exact hn, by rw [he]⟩⟩ : ApPost w d c (.returned (.tuple #[.agg #[.slice none 0 0, .slice none 0 0], .int .i64 n])) W))
  by_cases h0 : appE d c = 0
  case neg =>
    obtain ⟨e0, he0⟩ : ∃ x, appE d c = x := ⟨_, rfl⟩
    rw [he0] at h0 ⊢
    have HA := Lib.hid he0
    have q : (e0 != 0) = true := by simpa using h0
    have HN := Lib.hid h0
    clear h0 he0
    have hR4 := HZ1.out.below HB2.out HZ1.out.lt
    obtain ⟨r0, r1, f0, f1⟩ := box2 hR4
    have HBX := Lib.hid (below_next Hb1.out HB2.out)
    go_wp2_with fail
    have hR5 := (hR4.set_ 0 (.slice none 0 0)).set_ 1 (.slice none 0 0)
    have hB5 := (HBX.out.setCell (p := ⟨w.heap.size + 1 + 1, 0, none⟩) (by simp; omega) (.slice none 0 0)).setCell (p := ⟨w.heap.size + 1 + 1, 1, none⟩) (by simp; omega) (.slice none 0 0)
    clear r0 r1 f0 f1 hR4
    generalize (w2.setCell ⟨w.heap.size + 1 + 1, 0, none⟩ (.slice none 0 0)).setCell ⟨w.heap.size + 1 + 1, 1, none⟩ (.slice none 0 0) = W5 at hR5 hB5 ⊢
    obtain ⟨r0, r1, -, -⟩ := box2 hR5
    refine bodyPost_ret (v := .tuple #[.agg #[.slice none 0 0, .slice none 0 0], .int .i64 e0]) (by simp [results, Tryz.results32, go_sem, r0, r1]) rfl (HF.out W5 e0 hB5 HN.out HA.out)
  have H0 := Lib.hid h0
  rw [h0]
  have hel : c.edits.length ≤ 64 := (sizeE_zero (appE_zero h0).1).2.1
  clear h0 HF
  have hO7 := blk_new w2 [.slice none 0 0, .slice none 0 0] 31
  have hA3 : Below w2.heap.size w2 (w2.alloc (.cells #[.slice none 0 0, .slice none 0 0] 31)) := (Below.refl _ _).alloc (Nat.le_refl _) _
  go_upto_region 5 with fail
  generalize w2.alloc (.cells #[.slice none 0 0, .slice none 0 0] 31) = w3 at hO7 hA3 ⊢
  have hW3 := below_next HB2.out hA3
  obtain ⟨d0, d1, -, -⟩ := box2 (HD1.out.below hW3 HD1.out.lt)
  obtain ⟨p0, p1, p2, p3⟩ := box2 hO7
  have hRW := HR.out.below (below_next Hb1.out hW3)
  have HO7 := Lib.hid hO7
  have HA3 := Lib.hid hA3
  have HRW := Lib.hid hRW
  clear hO7 hA3 hW3 hRW
  go_upto_region 6 with (at_builtin; refine wpList_app (base := w3.heap.size) (n := 0) (xs := []) rfl rfl revElem (World.ownsRow_nil _ _ _ _) rfl HRW.out rfl (rev_ones _) (by omega) (by unfold maxLen; omega) (Nat.le_refl _) ?_; intro A5 c5 w5 hO5 hG5 hw5; have hX5 := nogrow hG5 rfl; obtain ⟨t0, t1, t2, t3⟩ := box2 (HO7.out.below hX5 HO7.out.lt))
  rw [Nat.zero_add, List.nil_append] at hO5
  have hAP : RaI w2 (w5.setCell ⟨w2.heap.size, 0, none⟩ (.slice A5 d.revs.length c5)) w2.heap.size d c 0 := by
    have hlt := HO7.out.lt
    have n5 : (Value.slice A5 d.revs.length c5).ownBlock ≠ some w2.heap.size := fun e => by have := (hO5.lt _ e).1; omega
    refine ⟨.slice A5 d.revs.length c5, (below_next HA3.out hX5).setCell (p := ⟨w2.heap.size, 0, none⟩) (Nat.le_refl _) _, Nat.le_refl _, (HO7.out.below hX5 hlt).set_ 0 _, ?_, World.ownsRow_nil _ _ _ _, n5, (fun e => by cases e), fun x _ e => by cases e⟩
    rw [List.take_zero, List.map_nil, List.flatMap_nil, List.append_nil]
    exact own_mono (own_setCell hO5 (p := ⟨w2.heap.size, 0, none⟩) n5 _) (Nat.le_of_lt hlt)
  generalize w5.setCell ⟨w2.heap.size, 0, none⟩ (.slice A5 d.revs.length c5) = w6 at hAP ⊢
  have HAP := Lib.hid hAP
  have HW6 : Hid (Below W1.heap.size W1 w6) := Lib.hid (by obtain ⟨v1, h⟩ := hAP; exact below_next HB2.out h.bel)
  clear t0 t1 t2 t3 d0 d1 p0 p1 p2 p3 hO5 hG5 hw5 hX5 hAP
  obtain ⟨k0, k1, k2, k3, k4⟩ := box5 (HC1.out.below HW6.out HC1.out.lt)
  have HEV : Hid (everyE (lastOf d.revs) emptyS c.edits = 0) := Lib.hid (appE_zero H0.out).2.1
  have HMD := Lib.hid (fun x (hx : x ∈ c.edits) X => (show Calls Tryz.prog 61 #[.agg #[.int .i64 c.num, .string c.client, .string c.text, .slice Ae c.edits.length ce, .slice Ac c.recs.length cc], .agg #[.string x.path, .int .i64 x.act, .int .i64 x.ty.base, .bool x.ty.k, .bool x.ty.l, .bool x.ty.x, .int .u64 x.sum, .int .i64 x.size, .int .i64 x.base, .string x.frm, .int .i64 x.fnum, .int .i64 x.fence]] X (fun e w' => e = .returned (.agg #[.string (madeR (lastOf d.revs) c.num x).path, .int .i64 (madeR (lastOf d.revs) c.num x).num, .int .i64 (madeR (lastOf d.revs) c.num x).chg, .int .i64 (madeR (lastOf d.revs) c.num x).act, .int .i64 (madeR (lastOf d.revs) c.num x).ty.base, .bool (madeR (lastOf d.revs) c.num x).ty.k, .bool (madeR (lastOf d.revs) c.num x).ty.l, .bool (madeR (lastOf d.revs) c.num x).ty.x, .int .u64 (madeR (lastOf d.revs) c.num x).sum, .int .i64 (madeR (lastOf d.revs) c.num x).size, .string (madeR (lastOf d.revs) c.num x).frm, .int .i64 (madeR (lastOf d.revs) c.num x).fnum]) ∧ Below X.heap.size X w') from by
    have h := refMade_any c.num c.client c.text Ae Ac c.edits.length c.recs.length ce cc x X (by have := edit_bounds HB.out.ck HEV.out x hx; omega)
    rw [madeX_eq HEV.out c.num hx] at h
    exact h))
  go_upto_block 0 with fail
  clear k0 k1 k2 k3 k4
  go_cut [] (fun wx => Hid (RaI w2 wx w2.heap.size d c c.edits.length))
  case first =>
    go_wp2_with fail
    go_loopw [26] (fun s wr => ∃ k : Nat, s = .int .i64 k ∧ k ≤ c.edits.length ∧ Hid (RaI w2 wr w2.heap.size d c k)) (fun s _ => c.edits.length - (intOf s).toNat)
    case atStart => exact ⟨0, rfl, Nat.zero_le _, HAP.out⟩
    case round =>
      obtain ⟨k, rfl, hk, HI⟩ := hrel
      by_cases hlt : k < c.edits.length
      · obtain ⟨v1, hAP⟩ := HI.out
        obtain ⟨ad, rfl, hab, hld⟩ := Edts.at_ (HE.out.below (below_next (below_next Hb1.out HB2.out) hAP.bel)) hlt
        have HNX : Hid (∀ v3 w', ApR w2 w' w2.heap.size v3 (.slice none 0 0) (d.revs.length + k + 1) 0 (d.revs.flatMap Rev.cells ++ ((c.edits.take k).map (madeR (lastOf d.revs) c.num)).flatMap Rev.cells ++ (madeR (lastOf d.revs) c.num c.edits[k]).cells) [] → RaI w2 w' w2.heap.size d c (k + 1)) := Lib.hid (fun v3 w' h => ⟨v3, by rw [made_take _ _ _ hlt, ← List.append_assoc]; exact h⟩)
        have HM1 := Lib.hid (HMD.out c.edits[k] (List.getElem_mem hlt))
        have HKB : Hid (d.revs.length + k ≤ 100000) := Lib.hid (by omega)
        generalize c.edits[k] = x at hld HNX HM1
        generalize madeR (lastOf d.revs) c.num x = r at HNX HM1
        generalize d.revs.flatMap Rev.cells ++ ((c.edits.take k).map (madeR (lastOf d.revs) c.num)).flatMap Rev.cells = xs at hAP HNX
        obtain ⟨x0, x1, x2, x3, x4, x5, x6, x7, x8, x9, x10, x11⟩ := hld
        have hX := blk_new wr [.string x.path, .int .i64 x.act, .int .i64 x.ty.base, .bool x.ty.k, .bool x.ty.l, .bool x.ty.x, .int .u64 x.sum, .int .i64 x.size, .int .i64 x.base, .string x.frm, .int .i64 x.fnum, .int .i64 x.fence] 55
        have hA1 : Below wr.heap.size wr (wr.alloc (.cells #[.string x.path, .int .i64 x.act, .int .i64 x.ty.base, .bool x.ty.k, .bool x.ty.l, .bool x.ty.x, .int .u64 x.sum, .int .i64 x.size, .int .i64 x.base, .string x.frm, .int .i64 x.fnum, .int .i64 x.fence] 55)) := (Below.refl _ _).alloc (Nat.le_refl _) _
        have HAP1 := Lib.hid hAP
        clear hAP
        go_upto_region 9 with fail
        clear x0 x1 x2 x3 x4 x5 x6 x7 x8 x9 x10 x11
        generalize wr.alloc (.cells #[.string x.path, .int .i64 x.act, .int .i64 x.ty.base, .bool x.ty.k, .bool x.ty.l, .bool x.ty.x, .int .u64 x.sum, .int .i64 x.size, .int .i64 x.base, .string x.frm, .int .i64 x.fnum, .int .i64 x.fence] 55) = V1 at hX hA1 ⊢
        generalize wr.heap.size = g9 at hX ⊢
        have HX := Lib.hid hX
        have HA1 := Lib.hid (HAP1.out.under hA1)
        clear hX hA1
        refine raR9 _ (by kernel_rfl) _ (w.heap.size + 1) w2.heap.size g9 (d.revs.length + k) 0 c.num c.client c.text (some ad) Ac c.edits.length c.recs.length ce cc x r v1 (.slice none 0 0) xs [] w2 V1 HA1.out HX.out (HC1.out.below (below_next HB2.out HA1.out.bel) HC1.out.lt) HKB.out (fun X _ => HM1.out X) _ _ _ _ _ _ _ _ _ _ _ _ _ _ _ _ _ _ _ _ _ _ _ _ _ _ _ _ _ _ _ _ _ _ _ _ _ _ _ _ _ _ _ _ _ _ _ ?_
        intro t30 t31 t32 t33 t34 t35 t36 t37 v3 w7 H7
        have HR7 := Lib.hid (HNX.out v3 w7 H7.out)
        clear H7
        go_wp2_with fail
        go_roundw
        case rel => exact ⟨k + 1, by go_num, by omega, HR7.out⟩
        case measure => simp [intOf]; omega
      · have hke : k = c.edits.length := by omega
        have q : decide ((k : Int) < (c.edits.length : Int)) = false := by simp; omega
        have q' : decide (k < c.edits.length) = false := by simp; omega
        have HZ : Hid (RaI w2 wr w2.heap.size d c c.edits.length) := Lib.hid (by rw [← hke]; exact HI.out)
        clear hke
        go_wp2_with fail
        go_meet
        exact HZ.out
  case rest =>
    obtain ⟨v1, hAP⟩ := hcut.out
    rw [List.take_length, ← newRevs_cells, ← newRevs_len] at hAP
    have HAP2 := Lib.hid hAP
    have HWC : Hid (Below W1.heap.size W1 wc) := Lib.hid (below_next HB2.out hAP.bel)
    have HFI : Hid (∀ r ∈ d.recs ++ c.recs, r.fine) := Lib.hid (fun r hr => by
      rcases List.mem_append.1 hr with hr | hr
      · exact ⟨HB.out.ck.ok.rec_.val_ r hr, HB.out.fd r hr⟩
      · have := HB.out.ck.rcd r hr
        exact ⟨(app_recs HB.out.ck.ok.rec_.path H0.out r hr).1, this.2, this.1⟩)
    have hcl : c.recs.length ≤ 1000 := by have := (sizeE_zero (appE_zero H0.out).1).2.2.1; omega
    clear hAP hcut
    go_upto_region 11 with fail
    refine raR11 _ (by kernel_rfl) _ w.heap.size (w.heap.size + 1) w2.heap.size (newRevs d c).length c.num c.client c.text Aq Ac Ae c.edits.length cq cc ce d.recs c.recs (.slice Ar d.revs.length cr) v1 ((newRevs d c).flatMap Rev.cells) w2 wc HAP2.out (HD1.out.below HWC.out HD1.out.lt) (HC1.out.below HWC.out HC1.out.lt) (HQ.out.below (below_next Hb1.out HWC.out)) (HC.out.below (below_next Hb1.out HWC.out)) HFI.out (HEN.out.below (below_next Hb1.out HWC.out)) (by omega) hcl _ _ _ _ _ _ _ _ _ _ _ _ _ _ _ _ _ _ _ _ _ _ _ _ _ _ _ _ _ _ _ _ _ _ _ _ _ _ _ _ _ _ _ _ _ _ _ ?_
    intro t39 t40 t41 t42 t43 t44 t45 t46 t47 t48 v3 l w7 H7
    obtain ⟨A8, c8, hv1⟩ := own_slice H7.out.1.one
    obtain ⟨A9, c9, hv3⟩ := own_slice H7.out.1.two
    subst hv1 hv3
    have hB7 := below_next HB2.out H7.out.1.bel
    have hR4 := HZ1.out.below hB7 HZ1.out.lt
    obtain ⟨r0, r1, f0, f1⟩ := box2 hR4
    obtain ⟨p0, p1, -, -⟩ := box2 H7.out.1.box
    have HB7 := Lib.hid (below_next Hb1.out hB7)
    have HLT := Lib.hid HZ1.out.lt
    have HSZ := Lib.hid HB2.out.size
    clear hB7
    go_wp2_with fail
    have hR5 := (hR4.set_ 0 (Value.slice A8 (newRevs d c).length c8)).set_ 1 (Value.slice A9 (d.recs.length + c.recs.length) c9)
    have hB5 := (HB7.out.setCell (p := ⟨w.heap.size + 1 + 1, 0, none⟩) (by simp; omega) (Value.slice A8 (newRevs d c).length c8)).setCell (p := ⟨w.heap.size + 1 + 1, 1, none⟩) (by simp; omega) (Value.slice A9 (d.recs.length + c.recs.length) c9)
    have n1 : (Value.slice A8 (newRevs d c).length c8).ownBlock ≠ some (w.heap.size + 1 + 1) := fun e => by have := (H7.out.1.one.lt _ e).1; have := HLT.out; have := HSZ.out; omega
    have n3 : (Value.slice A9 (d.recs.length + c.recs.length) c9).ownBlock ≠ some (w.heap.size + 1 + 1) := fun e => by have := (H7.out.1.two.lt _ e).1; have := HLT.out; have := HSZ.out; omega
    have k1 := Row.of_own (own_setCell (own_setCell H7.out.1.one (p := ⟨w.heap.size + 1 + 1, 0, none⟩) n1 (Value.slice A8 (newRevs d c).length c8)) (p := ⟨w.heap.size + 1 + 1, 1, none⟩) n1 (Value.slice A9 (d.recs.length + c.recs.length) c9))
    have k3 := Row.of_own (own_setCell (own_setCell H7.out.1.two (p := ⟨w.heap.size + 1 + 1, 0, none⟩) n3 (Value.slice A8 (newRevs d c).length c8)) (p := ⟨w.heap.size + 1 + 1, 1, none⟩) n3 (Value.slice A9 (d.recs.length + c.recs.length) c9))
    have hw2 : w.heap.size ≤ w2.heap.size := by have := Hb1.out.size; have := HSZ.out; omega
    clear r0 r1 f0 f1 hR4 p0 p1
    generalize (w7.setCell ⟨w.heap.size + 1 + 1, 0, none⟩ (Value.slice A8 (newRevs d c).length c8)).setCell ⟨w.heap.size + 1 + 1, 1, none⟩ (Value.slice A9 (d.recs.length + c.recs.length) c9) = W5 at hR5 hB5 k1 k3 ⊢
    obtain ⟨r0, r1, -, -⟩ := box2 hR5
    have k4 : Rcds W5 (Value.slice A9 (d.recs.length + c.recs.length) c9) l := by
      have hle := H7.out.2.1.length_eq
      rw [List.length_append] at hle
      show Row W5 6 _ l.length _
      rw [hle]
      exact k3
    refine bodyPost_ret (v := .tuple #[.agg #[(Value.slice A8 (newRevs d c).length c8), (Value.slice A9 (d.recs.length + c.recs.length) c9)], .int .i64 0]) (by simp [results, Tryz.results32, go_sem, r0, r1]) rfl ?_
    exact ⟨hB5, .inr ⟨H0.out, (Value.slice A8 (newRevs d c).length c8), (Value.slice A9 (d.recs.length + c.recs.length) c9), l, rfl, k1, k4, H7.out.2.1, H7.out.2.2, own_fresh H7.out.1.one hw2, own_fresh H7.out.1.two hw2⟩⟩
end Go.Proofs.YtnblfaagchflaaaGreatDoor
/- HistoryPlays: the walk. -/
namespace Go.Proofs.YtnblfaagchflaaaGreatDoor
open Go.RowKit
set_option linter.unusedVariables false
set_option linter.unusedSimpArgs false

theorem plays_recsz {l : List Chg} {d : Dep} (h : Plays l d) (hs : ∀ c ∈ l, chgSm c) : ∀ r ∈ d.recs, rcdSm r := by
  induction h with
  | nil => intro r hr; cases hr
  | skip _ _ ih => exact ih fun c hc => hs c (List.mem_append_left _ hc)
  | step _ _ hp _ ih =>
    intro r hr
    rcases List.mem_append.1 (hp.mem_iff.1 hr) with hr | hr
    · exact ih (fun c hc => hs c (List.mem_append_left _ hc)) r hr
    · exact (hs _ (List.mem_append_right _ (List.mem_cons_self ..))).2 r hr
theorem raB_of {l : List Chg} {d : Dep} {c : Chg} (h : Plays l d) (hd : DepW d) (hs : ∀ c ∈ l, chgSm c) (hc : chgSm c) (hw : ChgW c) : RaB d c :=
  ⟨⟨plays_depOk h, hd, by have := hw.len; omega, by have := hw.rlen; omega, fun e he => by have := hw.path e he; omega, fun r hr => by have := hc.2 r hr; unfold rcdSm at this; omega⟩,
    fun r hr => by have := plays_recsz h hs r hr; unfold rcdSm at this; omega⟩
/-- The state of HistoryPlays's loop: both depots are the same. -/
structure PwSt (w wr : World) (l : List Chg) (g3 g4 B : Nat) (dv dr ev er : Value) (d : Dep) : Prop where
  bel : Below w.heap.size w wr
  box3 : Blk wr g3 31 [dv, dr]
  box4 : Blk wr g4 31 [ev, er]
  dep : DepAt wr dv dr d
  rep : DepAt wr ev er d
  far : Fresh B dv ∧ Fresh B dr ∧ Fresh B ev ∧ Fresh B er
  pl : Plays l d
theorem PwSt.under {w wr X : World} {l : List Chg} {g3 g4 B : Nat} {dv dr ev er : Value} {d : Dep} (h : PwSt w wr l g3 g4 B dv dr ev er d) (hX : Below wr.heap.size wr X) : PwSt w X l g3 g4 B dv dr ev er d :=
  ⟨below_next h.bel hX, h.box3.below hX h.box3.lt, h.box4.below hX h.box4.lt, h.dep.below hX, h.rep.below hX, h.far, h.pl⟩
/-- Both depots are put in the places of the old ones, in either order. -/
theorem PwSt.put {w V : World} {l l' : List Chg} {B n1 n2 : Nat} {dv dr ev er : Value} {d d' : Dep} {a b c e : Value} (h : PwSt w V l B (B + 1) (B + 1 + 1) dv dr ev er d) (hw : w.heap.size ≤ B)
    (h1 : DepAt V a b d') (h2 : DepAt V c e d') (fa : Fresh n1 a) (fb : Fresh n1 b) (fc : Fresh n2 c) (fe : Fresh n2 e) (hn1 : B + 1 + 1 ≤ n1) (hn2 : B + 1 + 1 ≤ n2) (hp : Plays l' d') :
    PwSt w ((((V.setCell ⟨B, 0, none⟩ a).setCell ⟨B, 1, none⟩ b).setCell ⟨B + 1, 0, none⟩ c).setCell ⟨B + 1, 1, none⟩ e) l' B (B + 1) (B + 1 + 1) a b c e d' ∧
    PwSt w ((((V.setCell ⟨B + 1, 0, none⟩ c).setCell ⟨B + 1, 1, none⟩ e).setCell ⟨B, 0, none⟩ a).setCell ⟨B, 1, none⟩ b) l' B (B + 1) (B + 1 + 1) a b c e d' := by
  have k1 : a.ownBlock ≠ some B ∧ a.ownBlock ≠ some (B + 1) := ⟨fun h => by have := fa _ h; omega, fun h => by have := fa _ h; omega⟩
  have k2 : b.ownBlock ≠ some B ∧ b.ownBlock ≠ some (B + 1) := ⟨fun h => by have := fb _ h; omega, fun h => by have := fb _ h; omega⟩
  have k3 : c.ownBlock ≠ some B ∧ c.ownBlock ≠ some (B + 1) := ⟨fun h => by have := fc _ h; omega, fun h => by have := fc _ h; omega⟩
  have k4 : e.ownBlock ≠ some B ∧ e.ownBlock ≠ some (B + 1) := ⟨fun h => by have := fe _ h; omega, fun h => by have := fe _ h; omega⟩
  have hf : Fresh (B + 1 + 1) a ∧ Fresh (B + 1 + 1) b ∧ Fresh (B + 1 + 1) c ∧ Fresh (B + 1 + 1) e := ⟨fun x hx => Nat.le_trans hn1 (fa x hx), fun x hx => Nat.le_trans hn1 (fb x hx), fun x hx => Nat.le_trans hn2 (fc x hx), fun x hx => Nat.le_trans hn2 (fe x hx)⟩
  constructor
  · exact ⟨(((h.bel.setCell (p := ⟨B, 0, none⟩) hw _).setCell (p := ⟨B, 1, none⟩) hw _).setCell (p := ⟨B + 1, 0, none⟩) (by simp; omega) _).setCell (p := ⟨B + 1, 1, none⟩) (by simp; omega) _,
      (((h.box3.set_ 0 a).set_ 1 b).far (p := ⟨B + 1, 0, none⟩) (by simp) _).far (p := ⟨B + 1, 1, none⟩) (by simp) _,
      (((h.box4.far (p := ⟨B, 0, none⟩) (by simp) _).far (p := ⟨B, 1, none⟩) (by simp) _).set_ 0 c).set_ 1 e,
      (((h1.setCell k1.1 k2.1).setCell k1.1 k2.1).setCell k1.2 k2.2).setCell k1.2 k2.2,
      (((h2.setCell k3.1 k4.1).setCell k3.1 k4.1).setCell k3.2 k4.2).setCell k3.2 k4.2, hf, hp⟩
  · exact ⟨(((h.bel.setCell (p := ⟨B + 1, 0, none⟩) (by simp; omega) _).setCell (p := ⟨B + 1, 1, none⟩) (by simp; omega) _).setCell (p := ⟨B, 0, none⟩) hw _).setCell (p := ⟨B, 1, none⟩) hw _,
      (((h.box3.far (p := ⟨B + 1, 0, none⟩) (by simp) _).far (p := ⟨B + 1, 1, none⟩) (by simp) _).set_ 0 a).set_ 1 b,
      (((h.box4.set_ 0 c).set_ 1 e).far (p := ⟨B, 0, none⟩) (by simp) _).far (p := ⟨B, 1, none⟩) (by simp) _,
      (((h1.setCell k1.2 k2.2).setCell k1.2 k2.2).setCell k1.1 k2.1).setCell k1.1 k2.1,
      (((h2.setCell k3.2 k4.2).setCell k3.2 k4.2).setCell k3.1 k4.1).setCell k3.1 k4.1, hf, hp⟩
end Go.Proofs.YtnblfaagchflaaaGreatDoor
/- The reference's Build: the walk. -/
namespace Go.Proofs.YtnblfaagchflaaaGreatDoor
open Go.RowKit
set_option linter.unusedVariables false
set_option linter.unusedSimpArgs false

set_option maxRecDepth 100000 in
set_option maxHeartbeats 8000000 in
theorem build_any (ps : List ChV) (v : Value) (w : World) (henv : Env w) (hP : Chgs w v ps) (hs : smallL (ps.map (·.1))) (hr : ∀ p ∈ ps, ∀ r ∈ p.1.recs, r.last ≤ 9223372036854775807) :
    Calls Tryz.prog 12 #[v] w (PlayPost w (ps.map (·.1))) := by
  obtain ⟨A, c, rfl, hc, hm, -⟩ := id hP.1
  have HP := Lib.hid hP
  have HEN := Lib.hid henv
  have HSM := Lib.hid hs
  have hl40 : ps.length ≤ 40 := by have := hs.2.1; rwa [List.length_map] at this
  have HS := Lib.hid (fun (p : ChV) (hp : p ∈ ps) => small_chgW (hs.1 p.1 (List.mem_map_of_mem hp)) (Nat.le_trans (lenSum_mem (List.mem_map_of_mem hp)) hs.2.2) (hr p hp))
  unfold maxLen at hm
  clear hP hs hr henv
  go_enter Tryz.func12, Tryz.ntmps12
  go_wp2_with fail
  have hst : PlSt w ((w.alloc (.cells #[.slice none 0 0, .slice none 0 0] 31)).alloc (.cells #[.slice none 0 0, .slice none 0 0] 31)) [] w.heap.size (w.heap.size + 1) (w.heap.size + 1 + 1) (.slice none 0 0) (.slice none 0 0) ⟨[], []⟩ := by
    refine ⟨((Below.refl _ _).alloc (Nat.le_refl _) _).alloc (by simp) _, (blk_new w _ _).alloc _, blk_at (by simp), ⟨Revs.nil_ _, Rcds.nil_ _, depW_nil⟩, ⟨fun x e => (by cases e), fun x e => (by cases e)⟩, Plays.nil⟩
  generalize (w.alloc (.cells #[.slice none 0 0, .slice none 0 0] 31)).alloc (.cells #[.slice none 0 0, .slice none 0 0] 31) = W0 at hst ⊢
  go_loopw [10] (fun s wr => ∃ (k : Nat) (dv dr : Value) (d : Dep), s = .int .i64 k ∧ k ≤ ps.length ∧ Hid (PlSt w wr ((ps.take k).map (·.1)) w.heap.size (w.heap.size + 1) (w.heap.size + 1 + 1) dv dr d)) (fun s _ => ps.length - (intOf s).toNat)
  case atStart => exact ⟨0, _, _, _, rfl, Nat.zero_le _, hst⟩
  case round =>
    obtain ⟨k, dv, dr, d, rfl, hk, HI⟩ := hrel
    clear hst
    by_cases hlt : k < ps.length
    · have hPr := HP.out.below HI.out.bel
      obtain ⟨ad, rfl, hab, hld⟩ := Chgs.at_ hPr hlt
      have HT := Lib.hid (show ps.take (k + 1) = ps.take k ++ [ps[k]] from List.take_succ_eq_append_getElem hlt)
      have hpm : ps[k] ∈ ps := List.getElem_mem _
      have hok := hPr.2 ps[k] hpm
      have HPM := Lib.hid (HS.out ps[k] hpm)
      have HPS : Hid (RaB d (ps[k]).1) := Lib.hid (raB_of HI.out.pl HI.out.dep.2.2 (fun c hc => by
        obtain ⟨p, hp, rfl⟩ := List.mem_map.1 hc
        exact HSM.out.1 _ (List.mem_map_of_mem (List.mem_of_mem_take hp))) (HSM.out.1 _ (List.mem_map_of_mem hpm)) HPM.out)
      generalize ps[k] = p at hld HT hok HPM HPS
      clear hpm hPr
      obtain ⟨ch, ev, rv⟩ := p
      obtain ⟨Ae, ce, he, -⟩ := id hok.1
      obtain ⟨Ac, cc, hc2, -⟩ := id hok.2
      change ev = .slice Ae ch.edits.length ce at he
      change rv = .slice Ac ch.recs.length cc at hc2
      subst he hc2
      change Hid (RaB d ch) at HPS
      obtain ⟨x0, x1, x2, x3, x4⟩ := hld
      change wr.cell? (ad.add (k * 5)) = some (.int .i64 ch.num) at x0
      change wr.cell? ⟨(ad.add (k * 5)).block, (ad.add (k * 5)).off + 1, none⟩ = some (.string ch.client) at x1
      change wr.cell? ⟨(ad.add (k * 5)).block, (ad.add (k * 5)).off + 2, none⟩ = some (.string ch.text) at x2
      change wr.cell? ⟨(ad.add (k * 5)).block, (ad.add (k * 5)).off + 3, none⟩ = some (.slice Ae ch.edits.length ce) at x3
      change wr.cell? ⟨(ad.add (k * 5)).block, (ad.add (k * 5)).off + 4, none⟩ = some (.slice Ac ch.recs.length cc) at x4
      have HOK : Hid (Edts wr (.slice Ae ch.edits.length ce) ch.edits ∧ Rcds wr (.slice Ac ch.recs.length cc) ch.recs) := Lib.hid hok
      clear hok
      have hX1 := blk_new wr [.int .i64 ch.num, .string ch.client, .string ch.text, .slice Ae ch.edits.length ce, .slice Ac ch.recs.length cc] 53
      have hA1 : Below wr.heap.size wr (wr.alloc (.cells #[.int .i64 ch.num, .string ch.client, .string ch.text, .slice Ae ch.edits.length ce, .slice Ac ch.recs.length cc] 53)) := (Below.refl _ _).alloc (Nat.le_refl _) _
      go_upto_region 5 with fail
      clear x0 x1 x2 x3 x4
      generalize wr.alloc (.cells #[.int .i64 ch.num, .string ch.client, .string ch.text, .slice Ae ch.edits.length ce, .slice Ac ch.recs.length cc] 53) = V1 at hX1 hA1 ⊢
      obtain ⟨y0, y1, y2, y3, y4⟩ := box5 hX1
      have hb3 := HI.out.box3.below hA1 HI.out.box3.lt
      obtain ⟨z0, z1, -, -⟩ := box2 hb3
      have HB3 := Lib.hid hb3
      have hD1 := HI.out.dep.below hA1
      have HAP := Lib.hid (refAppend_any d ch dv dr (.slice Ae ch.edits.length ce) (.slice Ac ch.recs.length cc) V1 HPS.out (HEN.out.below (below_next HI.out.bel hA1)) hD1.1 hD1.2.1 (HOK.out.1.below hA1) (HOK.out.2.below hA1))
      have HA1 := Lib.hid hA1
      clear hb3 hD1 hX1 hA1
      go_wp2_with fail
      refine HAP.out.mono ?_
      rintro e V2 ⟨hb2, ⟨hn0, rfl⟩ | ⟨h0, dv', dr', rs, rfl, hR', hQ', hpm', hpw', hf1, hf2⟩⟩
      · clear y0 y1 y2 y3 y4 z0 z1
        have HB2 := Lib.hid hb2
        have HN0 := Lib.hid hn0
        have q : (appE d ch == 0) = false := by simpa using hn0
        clear hb2 hn0
        go_wp2_with fail
        go_roundw
        case rel =>
          have hbb : Below wr.heap.size wr (V2.alloc (.cells #[.slice none 0 0, .slice none 0 0] 31)) := (below_next HA1.out HB2.out).alloc (below_next HA1.out HB2.out).size _
          refine ⟨k + 1, dv, dr, d, by go_num, by omega, below_next HI.out.bel hbb, HI.out.box2.below hbb HI.out.box2.lt, HI.out.box3.below hbb HI.out.box3.lt, HI.out.dep.below hbb, HI.out.far, ?_⟩
          rw [HT.out, List.map_append, List.map_cons, List.map_nil]
          exact Plays.skip HI.out.pl HN0.out
        case measure => simp [intOf]; omega
      · clear y0 y1 y2 y3 y4 z0 z1
        obtain ⟨A5, c5, rfl, -⟩ := id hR'
        obtain ⟨A6, c6, rfl, -⟩ := id hQ'
        have hbb := below_next HA1.out hb2
        have hlen := HI.out.box3.lt
        have hlen2 := HI.out.box2.lt
        have hsz1 := hbb.size
        have hle1 : wr.heap.size ≤ V1.heap.size := HA1.out.size
        have HN : Hid (DepAt V2 (.slice A5 (newRevs d ch).length c5) (.slice A6 rs.length c6) ⟨newRevs d ch, rs⟩ ∧ Plays ((ps.take k).map (·.1) ++ [ch]) ⟨newRevs d ch, rs⟩ ∧ Fresh V1.heap.size (.slice A5 (newRevs d ch).length c5) ∧ Fresh V1.heap.size (.slice A6 rs.length c6)) := Lib.hid ⟨⟨hR', hQ', appE_keeps HI.out.dep.2.2 HPM.out h0 rs hpm'⟩, Plays.step HI.out.pl h0 hpm' hpw', hf1, hf2⟩
        have h3a := (HI.out.box3.below hbb hlen).alloc (.cells #[.slice A5 (newRevs d ch).length c5, .slice A6 rs.length c6] 31)
        have h2a := (HI.out.box2.below hbb hlen2).alloc (.cells #[.slice A5 (newRevs d ch).length c5, .slice A6 rs.length c6] 31)
        have hba : Below w.heap.size w (V2.alloc (.cells #[.slice A5 (newRevs d ch).length c5, .slice A6 rs.length c6] 31)) := (below_next HI.out.bel hbb).alloc (below_next HI.out.bel hbb).size _
        have hda := HN.out.1.below ((Below.refl _ _).alloc (Nat.le_refl _) (.cells #[.slice A5 (newRevs d ch).length c5, .slice A6 rs.length c6] 31))
        have hx6 := blk_new V2 [.slice A5 (newRevs d ch).length c5, .slice A6 rs.length c6] 31
        have q : (appE d ch == 0) = true := by simpa using h0
        clear hR' hQ' hpm' hpw' hf1 hf2 hb2 hbb h0
        go_upto_region 6 with fail
        generalize V2.alloc (.cells #[.slice A5 (newRevs d ch).length c5, .slice A6 rs.length c6] 31) = V3 at h3a h2a hba hda hx6 ⊢
        obtain ⟨z0, z1, f0, f1⟩ := box2 h3a
        obtain ⟨w0, w1, -, -⟩ := box2 hx6
        have HBA := Lib.hid hba
        have HDA := Lib.hid hda
        have H2A := Lib.hid h2a
        have H3A := Lib.hid h3a
        clear hba hda h2a h3a hx6
        go_wp2_with fail
        go_roundw
        case rel =>
          have n1 : (Value.slice A5 (newRevs d ch).length c5).ownBlock ≠ some (w.heap.size + 1) := fun e => by have := HN.out.2.2.1 _ e; omega
          have n2 : (Value.slice A6 rs.length c6).ownBlock ≠ some (w.heap.size + 1) := fun e => by have := HN.out.2.2.2 _ e; omega
          refine ⟨k + 1, _, _, _, by go_num, by omega, (HBA.out.setCell (p := ⟨w.heap.size + 1, 0, none⟩) (by simp) _).setCell (p := ⟨w.heap.size + 1, 1, none⟩) (by simp) _, (H2A.out.far (p := ⟨w.heap.size + 1, 0, none⟩) (by simp) _).far (p := ⟨w.heap.size + 1, 1, none⟩) (by simp) _, (H3A.out.set_ 0 _).set_ 1 _, (HDA.out.setCell n1 n2).setCell n1 n2, ⟨fun x e => by have := HN.out.2.2.1 _ e; omega, fun x e => by have := HN.out.2.2.2 _ e; omega⟩, ?_⟩
          rw [HT.out, List.map_append, List.map_cons, List.map_nil]
          exact HN.out.2.1
        case measure => simp [intOf]; omega
    · have hkk : k = ps.length := by omega
      subst hkk
      have HPL : Hid (Plays (ps.map (·.1)) d) := Lib.hid (by have := HI.out.pl; rwa [List.take_length] at this)
      obtain ⟨A5, c5, rfl, -⟩ := id HI.out.dep.1
      obtain ⟨A6, c6, rfl, -⟩ := id HI.out.dep.2.1
      obtain ⟨z0, z1, -, -⟩ := box2 HI.out.box3
      obtain ⟨r0, r1, f0, f1⟩ := box2 HI.out.box2
      go_wp2_with fail
      have n1 : (Value.slice A5 d.revs.length c5).ownBlock ≠ some w.heap.size := fun e => by have := HI.out.far.1 _ e; omega
      have n2 : (Value.slice A6 d.recs.length c6).ownBlock ≠ some w.heap.size := fun e => by have := HI.out.far.2 _ e; omega
      have hR5 := (HI.out.box2.set_ 0 (.slice A5 d.revs.length c5)).set_ 1 (.slice A6 d.recs.length c6)
      have hB5 := (HI.out.bel.setCell (p := ⟨w.heap.size, 0, none⟩) (Nat.le_refl _) (.slice A5 d.revs.length c5)).setCell (p := ⟨w.heap.size, 1, none⟩) (Nat.le_refl _) (.slice A6 d.recs.length c6)
      have hD5 := (HI.out.dep.setCell (g := w.heap.size) (i := 0) (u := .slice A5 d.revs.length c5) n1 n2).setCell (g := w.heap.size) (i := 1) (u := .slice A6 d.recs.length c6) n1 n2
      clear z0 z1 r0 r1 f0 f1
      generalize (wr.setCell ⟨w.heap.size, 0, none⟩ (.slice A5 d.revs.length c5)).setCell ⟨w.heap.size, 1, none⟩ (.slice A6 d.recs.length c6) = W5 at hR5 hB5 hD5 ⊢
      obtain ⟨r0, r1, -, -⟩ := box2 hR5
      refine bodyPost_ret (v := .agg #[.slice A5 d.revs.length c5, .slice A6 d.recs.length c6]) (by simp [results, Tryz.results12, go_sem, r0, r1]) rfl ?_
      exact ⟨_, _, d, rfl, hB5, hD5, HPL.out, fun x e => by have := HI.out.far.1 _ e; omega, fun x e => by have := HI.out.far.2 _ e; omega⟩
end Go.Proofs.YtnblfaagchflaaaGreatDoor
/- HistoryLists: the walk. -/
namespace Go.Proofs.YtnblfaagchflaaaGreatDoor
open Go.RowKit
set_option linter.unusedVariables false
set_option linter.unusedSimpArgs false

set_option maxRecDepth 100000 in
set_option maxHeartbeats 8000000 in
theorem lists_any (ps : List ChV) (p : Pat) (m : Int) (v : Value) (Ap : Option Addr) (cp : Nat) (w : World) (henv : Env w) (hP : Chgs w v ps) (hz : sizeOk ps) (hr : ∀ p ∈ ps, ∀ r ∈ p.1.recs, r.last ≤ 9223372036854775807)
    (hS : Strs w (.slice Ap p.parts.length cp) p.parts) (hpz : ∀ x ∈ p.parts, x.size ≤ maxLen) :
    Calls Tryz.prog 4 #[v, .agg #[.slice Ap p.parts.length cp, .bool p.rest], .int .i64 m] w fun e w' => e = .returned (.bool true) ∧ Below w.heap.size w w' := by
  have HAW := Lib.hid (fun X => awake_any X)
  obtain ⟨W1, hW1⟩ : ∃ W1, W1 = w.alloc (.cells #[.slice Ap p.parts.length cp, .bool p.rest] 25) := ⟨_, rfl⟩
  have hA1 : Below w.heap.size w W1 := by rw [hW1]; exact (Below.refl _ _).alloc (Nat.le_refl _) _
  have hB1 : Blk W1 w.heap.size 25 [.slice Ap p.parts.length cp, .bool p.rest] := by rw [hW1]; exact blk_new w _ _
  have HSM := Lib.hid (small_both ps v W1 (hP.below hA1) (by have := hz.1; omega) hz.2.1 hz.2.2)
  have HPL := Lib.hid (fun X (hX : Below w.heap.size w X) (hs : smallL (ps.map (·.1))) => build_any ps v X (henv.below hX) (hP.below hX) hs hr)
  have HSP := Lib.hid (fun X (hX : Below w.heap.size w X) => hS.below hX)
  have HPZ := Lib.hid hpz
  have HEN := Lib.hid henv
  obtain ⟨A', c', e', hcc, hmm, -⟩ := id hS
  injection e' with e1 e2 e3
  subst e1 e3
  unfold maxLen at hmm
  clear hP hz hr henv hS hpz e2
  go_enter Tryz.func4, Tryz.ntmps4
  go_upto_region 1 with fail
  rw [← hW1]
  clear hW1
  have HB1 := Lib.hid hB1
  have HA1 := Lib.hid hA1
  clear hB1 hA1
  go_wp2_with fail
  refine HSM.out.mono ?_
  rintro e w2 ⟨b, rfl, hb2, hsm, -⟩
  have HA2 := Lib.hid (below_next HA1.out hb2)
  have HB2 := Lib.hid (HB1.out.below hb2 HB1.out.lt)
  clear hb2 HSM
  obtain ⟨p0, p1⟩ := pat_boxes HB2.out
  cases b with
  | false =>
    clear hsm
    go_wp2_with fail
    refine (HAW.out w2).mono ?_
    rintro e w3 ⟨rfl, hb3⟩
    have HB3 := Lib.hid hb3
    clear hb3 p0 p1
    go_wp2_with fail
    go_ret
    exact ⟨rfl, below_next HA2.out HB3.out⟩
  | true =>
  have HP2 := Lib.hid (HPL.out w2 HA2.out (hsm rfl))
  clear hsm HPL
  by_cases h20 : 20 < p.parts.length
  · have q20 : decide ((20 : Int) < (p.parts.length : Int)) = true := by simp; omega
    clear h20
    go_wp2_with fail
    refine (HAW.out w2).mono ?_
    rintro e w3 ⟨rfl, hb3⟩
    have HB3 := Lib.hid hb3
    clear hb3 p0 p1
    go_wp2_with fail
    go_ret
    exact ⟨rfl, below_next HA2.out HB3.out⟩
  have q20 : decide ((20 : Int) < (p.parts.length : Int)) = false := by simp; omega
  clear h20
  go_wp2_with fail
  refine HP2.out.mono ?_
  rintro e w3 ⟨dv, dr, d, rfl, hb3, hd, hpl, -, -⟩
  obtain ⟨Ar, cr, rfl, hcr, hmr, -⟩ := id hd.1
  obtain ⟨Aq, cq, rfl, -⟩ := id hd.2.1
  unfold maxLen at hmr
  have HPP := Lib.hid (plays_paths hpl)
  have HLO := Lib.hid (fun q => plays_log hpl q)
  have hB4 := blk_new w3 [.slice Ar d.revs.length cr, .slice Aq d.recs.length cq] 31
  have hb4 : Below w.heap.size w (w3.alloc (.cells #[.slice Ar d.revs.length cr, .slice Aq d.recs.length cq] 31)) := below_next HA2.out (below_alloc' hb3 _)
  have hd4 := hd.below ((Below.refl _ _).alloc (Nat.le_refl _) (.cells #[.slice Ar d.revs.length cr, .slice Aq d.recs.length cq] 31))
  have hp4 := (HB2.out.below hb3 HB2.out.lt).alloc (.cells #[.slice Ar d.revs.length cr, .slice Aq d.recs.length cq] 31)
  have hlen : d.revs.length ≤ 512 := hd.2.2.len
  clear hb3 hd hpl HP2 p0 p1 q20
  go_upto_region 4 with fail
  generalize w3.heap.size = g7 at hB4 ⊢
  generalize hg4 : w.heap.size = g4 at hp4 ⊢
  generalize w3.alloc (.cells #[.slice Ar d.revs.length cr, .slice Aq d.recs.length cq] 31) = W4 at hB4 hb4 hd4 hp4 ⊢
  have Hb4 := Lib.hid hb4
  have HD4 := Lib.hid hd4.1
  have HLS := Lib.hid (fun X (hX : Below W4.heap.size W4 X) => list_any d.revs p m (.slice Ar d.revs.length cr) (.slice Aq d.recs.length cq) Ap cp X (HEN.out.below (below_next hb4 hX)) (HD4.out.below hX) (by omega) HPP.out (HSP.out X (below_next hb4 hX)) HPZ.out)
  have HRL := Lib.hid (fun X (hX : Below W4.heap.size W4 X) => refList_any d.revs p m (.slice Ar d.revs.length cr) (.slice Aq d.recs.length cq) Ap cp X (HEN.out.below (below_next hb4 hX)) (HD4.out.below hX) (by omega) HPP.out HLO.out (HSP.out X (below_next hb4 hX)) HPZ.out)
  have HCC : Hid (∀ w', Below W4.heap.size W4 w' → w'.cell? ⟨g7, 0, none⟩ = some (.slice Ar d.revs.length cr) ∧ w'.cell? ⟨g7, 1, none⟩ = some (.slice Aq d.recs.length cq) ∧ w'.cell? ⟨g4, 0, none⟩ = some (.slice Ap p.parts.length cp) ∧ w'.cell? ⟨g4, 1, none⟩ = some (.bool p.rest)) := Lib.hid fun w' hb => by
    obtain ⟨c0, c1, -, -⟩ := box2 (hB4.below' hb)
    obtain ⟨c2, c3⟩ := pat_boxes (hp4.below' hb)
    exact ⟨c0, c1, c2, c3⟩
  have HG4 := Lib.hid hg4
  clear hB4 hb4 hd4 hp4 hg4
  go_region_held3 (fun w' => Below W4.heap.size W4 w' ∧ w'.cell? ⟨g7, 0, none⟩ = some (.slice Ar d.revs.length cr) ∧ w'.cell? ⟨g7, 1, none⟩ = some (.slice Aq d.recs.length cq) ∧ w'.cell? ⟨g4, 0, none⟩ = some (.slice Ap p.parts.length cp) ∧ w'.cell? ⟨g4, 1, none⟩ = some (.bool p.rest))
    ((refine and_of ?_ (HCC.out _); first | with_reducible exact Below.refl _ _ | with_reducible exact (Below.refl _ _).drew | with_reducible assumption))
    (first
      | (go_at_call 8; refine (HLS.out _ (by first | exact Below.refl _ _ | exact (Below.refl _ _).drew)).mono ?_; rintro e w5 ⟨v5, L, rfl, hb5, hL5, hok5, -⟩; obtain ⟨A1, c1, rfl, -⟩ := id hL5; have hS5 : Below W4.heap.size W4 w5 := below_next (by first | exact Below.refl _ _ | exact (Below.refl _ _).drew) hb5)
      | (go_at_call 14; refine (HRL.out _ (by first | exact hS5 | exact hS5.drew)).mono ?_; rintro e w6 ⟨v6, L2, rfl, hb6, hL6, hok6⟩; obtain rfl : L = L2 := hok5.unique hok6; obtain ⟨A2, c2, rfl, -⟩ := id hL6; have hL56 := hL5.below (by first | exact hb6 | exact below_next (Below.refl _ _).drew hb6); have hS6 : Below W4.heap.size W4 w6 := below_next (by first | exact hS5 | exact hS5.drew) hb6)
      | (go_at_call 13; refine (same_any L A1 A2 c1 c2 w6 hL56 hL6).mono ?_; rintro e w7 ⟨rfl, hb7⟩; have hS7 : Below W4.heap.size W4 w7 := below_next hS6 hb7)
      | (go_at_call 6; refine (HAW.out _).mono ?_; rintro e w8 ⟨rfl, hb8⟩; have hS8 : Below W4.heap.size W4 w8 := below_next hS7 hb8))
  all_goals
    go_wp2_with fail
    go_ret
    exact ⟨rfl, below_next Hb4.out hS8⟩
end Go.Proofs.YtnblfaagchflaaaGreatDoor
/- The walk of HistoryLists at its arguments as the row reads them. -/
namespace Go.Proofs.YtnblfaagchflaaaGreatDoor
open Go.RowKit Go.ChangeShapes Go.WideShapes Go.Deep
set_option linter.unusedVariables false

theorem historyLists_walk (ps : List ChV) (v : Value) (p : Pat) (A : Option Addr) (c : Nat) (m : Int) (w : World) (he : Env w) (h0 : ChgsRd w v ps) (hS : Strs w (.slice A p.parts.length c) p.parts) (hz : ∀ x ∈ p.parts, x.size ≤ maxLen) :
    Calls Tryz.prog 4 #[v, .agg #[.slice A p.parts.length c, .bool p.rest], .int .i64 m] w fun e w' => e = .returned (.bool true) ∧ Below w.heap.size w w' :=
  lists_any ps p m v A c w he h0.1 (rd_sizeOk' h0) (fun p hp => rd_last (h0.2.2 p hp)) hS hz
end Go.Proofs.YtnblfaagchflaaaGreatDoor
