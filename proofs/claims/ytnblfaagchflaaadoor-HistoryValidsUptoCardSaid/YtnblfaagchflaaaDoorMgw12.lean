/- history.Append. -/
import Derived.Test.YtnblfaagchflaaaDoorMgw11
namespace Go.Proofs.YtnblfaagchflaaaDoor
open Go.RowKit
set_option linter.unusedVariables false
set_option linter.unusedSimpArgs false

set_option maxRecDepth 100000 in
set_option maxHeartbeats 8000000 in
theorem append_any (d : Dep) (c : Chg) (dv dr ev rv : Value) (w : World) (hR : Revs w dv d.revs) (hQ : Rcds w dr d.recs) (hE : Edts w ev c.edits) (hC : Rcds w rv c.recs) (hD : DepW d) (hW : ChgW c) :
    Calls Tryd.prog 7 #[.agg #[dv, dr], .agg #[.int .i64 c.num, .string c.client, .string c.text, ev, rv]] w (ApPost w d c) := by
  obtain ⟨Av, cv, rfl, -⟩ := id hR
  obtain ⟨Aq, cq, rfl, -⟩ := id hQ
  obtain ⟨Ae, ce, rfl, -⟩ := id hE
  obtain ⟨Ac, cc, rfl, -⟩ := id hC
  obtain ⟨dv, hdv⟩ : ∃ v, v = Value.slice Av d.revs.length cv := ⟨_, rfl⟩
  obtain ⟨dr, hdr⟩ : ∃ v, v = Value.slice Aq d.recs.length cq := ⟨_, rfl⟩
  obtain ⟨ev, hev⟩ : ∃ v, v = Value.slice Ae c.edits.length ce := ⟨_, rfl⟩
  obtain ⟨rv, hrv⟩ : ∃ v, v = Value.slice Ac c.recs.length cc := ⟨_, rfl⟩
  rw [← hdv] at hR ⊢
  rw [← hdr] at hQ ⊢
  rw [← hev] at hE ⊢
  rw [← hrv] at hC ⊢
  have HDV := Lib.hid hdv
  have HDR := Lib.hid hdr
  have HEV := Lib.hid hev
  have HRV := Lib.hid hrv
  clear hdv hdr hev hrv
  obtain ⟨W1, hW1⟩ : ∃ W, W = ((w.alloc (.cells #[dv, dr] 25)).alloc (.cells #[.int .i64 c.num, .string c.client, .string c.text, ev, rv] 42)).alloc (.cells #[.slice none 0 0, .slice none 0 0] 25) := ⟨_, rfl⟩
  have hb1 : Below w.heap.size w W1 := by rw [hW1]; exact (((Below.refl _ _).alloc (Nat.le_refl _) _).alloc (by simp) _).alloc (by simp; omega) _
  have hs1 : W1.heap.size = w.heap.size + 1 + 1 + 1 := by rw [hW1]; simp
  have hB1 : Blk W1 w.heap.size 25 [dv, dr] := by rw [hW1]; exact ((blk_new w _ _).alloc _).alloc _
  have hB2 : Blk W1 (w.heap.size + 1) 42 [.int .i64 c.num, .string c.client, .string c.text, ev, rv] := by
    rw [hW1]
    have := blk_new (w.alloc (.cells #[dv, dr] 25)) [.int .i64 c.num, .string c.client, .string c.text, ev, rv] 42
    simp only [World.size_alloc] at this
    exact this.alloc _
  have hB3 : Blk W1 (w.heap.size + 1 + 1) 25 [.slice none 0 0, .slice none 0 0] := by
    rw [hW1]
    have := blk_new ((w.alloc (.cells #[dv, dr] 25)).alloc (.cells #[.int .i64 c.num, .string c.client, .string c.text, ev, rv] 42)) [.slice none 0 0, .slice none 0 0] 25
    simp only [World.size_alloc] at this
    exact this
  have HW1 := Lib.hid hW1
  have HNC := Lib.hid (newCheck_any d.revs c dv dr ev rv W1 (hR.below hb1) (by have := hD.len; omega) (fun r hr => by have := hD.num r hr; have := hD.len; omega))
  have HNR := Lib.hid (show Revs w dv d.revs ∧ Rcds w dr d.recs ∧ Edts w ev c.edits ∧ Rcds w rv c.recs from ⟨hR, hQ, hE, hC⟩)
  have HD := Lib.hid hD
  have HW := Lib.hid hW
  clear hW1 hR hQ hE hC hD hW
  go_enter Tryd.func7, Tryd.ntmps7
  obtain ⟨c0, c1, -, -⟩ := box2 hB1
  obtain ⟨d0, d1, d2, d3, d4⟩ := box5 hB2
  go_upto_region 1 with fail
  rw [← HW1.out]
  go_wp2_with fail
  refine HNC.out.mono ?_
  rintro e w2 ⟨g, b, rfl, hb2, hbb, hn⟩
  have hk2 : Hid _ := hn
  clear c0 c1 d0 d1 d2 d3 d4 hn
  go_wp2_with fail
  refine (steps_any g w2).mono ?_
  rintro e w3 ⟨rfl, hb3, hs3⟩
  have HST : Hid (ApSt w w3 d c dv dr ev rv g b w.heap.size (w.heap.size + 1) (w.heap.size + 1 + 1) w2.heap.size (some fun _ => none)) := Lib.hid (by
    obtain ⟨k1, k2, k3, k4⟩ := hk2.out
    have hb12 := hb2
    have hb13 : Below W1.heap.size W1 w3 := below_next hb12 hb3
    have hbw : Below w.heap.size w w3 := below_next hb1 hb13
    exact ⟨hbw, by omega, by omega, Blk.below k1 hb3 (Blk.lt k1), FMap.below k2 hb3, fun f e => by injection e with e; subst e; exact FMap.below k3 hb3, FMap.below k4 hb3, hB1.below hb13 hB1.lt, hB2.below hb13 hB2.lt, hB3.below hb13 hB3.lt, hs3, HNR.out.1.below hbw, HNR.out.2.1.below hbw, HNR.out.2.2.1.below hbw, HNR.out.2.2.2.below hbw⟩)
  clear hb2 hbb hk2 hb3 hs3 hB1 hB2 hB3 hb1 hs1
  generalize w2.heap.size = gs at HST ⊢
  go_wp2_with fail
  refine wp_loop_rounds 6 ?_
  rw [rounds_succ]
  have FAIL : ∀ (W : World) (n : Int), Below w.heap.size w W → n ≠ 0 → appE d c = n → ApPost w d c (.returned (.tuple #[.agg #[.slice none 0 0, .slice none 0 0], .int .i64 n])) W := fun W n hb hn he => ⟨hb, .inl ⟨by rw [he]; exact hn, by rw [he]⟩⟩
  have HF := Lib.hid FAIL
  clear FAIL
  have t0 : w3.cell? ⟨gs, 0, none⟩ = some (.func (.func 28) #[.pointer (some ⟨g, 0, none⟩)] #[]) := HST.out.stp.cell 0
  have HZ0 := Lib.hid (size_any d.revs c g dv dr ev rv b (b + 1) (b + 1 + 1) w3 HST.out.chk HST.out.revs HST.out.eds HST.out.rcs)
  obtain ⟨e0, he0⟩ : ∃ x, sizeE d.revs c = x := ⟨_, rfl⟩
  rw [he0] at HZ0
  have HE0 := Lib.hid he0
  clear he0
  go_wp2_with fail
  refine HZ0.out.mono ?_
  rintro e v0 ⟨rfl, hv⟩
  clear t0 HZ0
  by_cases h0 : e0 = 0
  case neg =>
    have q : (e0 != 0) = true := by simpa using h0
    have HA : Hid (appE d c = e0) := Lib.hid (by unfold appE; rw [ HE0.out, firstE_ne h0])
    have HN := Lib.hid h0
    have hbx := (HST.out.below hv).bel
    have hR4 := (HST.out.below hv).boxR
    have HBX := Lib.hid hbx
    clear h0 hbx hv HST
    obtain ⟨r0, r1, f0, f1⟩ := box2 hR4
    go_wp2_with fail
    have hR5 := (hR4.set_ 0 (.slice none 0 0)).set_ 1 (.slice none 0 0)
    have hB5 := (HBX.out.setCell (p := ⟨w.heap.size + 1 + 1, 0, none⟩) (by simp; omega) (.slice none 0 0)).setCell (p := ⟨w.heap.size + 1 + 1, 1, none⟩) (by simp; omega) (.slice none 0 0)
    clear r0 r1 f0 f1 hR4
    generalize (v0.setCell ⟨w.heap.size + 1 + 1, 0, none⟩ (.slice none 0 0)).setCell ⟨w.heap.size + 1 + 1, 1, none⟩ (.slice none 0 0) = W5 at hR5 hB5 ⊢
    obtain ⟨r0, r1, -, -⟩ := box2 hR5
    refine bodyPost_ret (v := .tuple #[.agg #[.slice none 0 0, .slice none 0 0], .int .i64 e0]) (by simp [results, Tryd.results7, go_sem, r0, r1]) rfl (HF.out W5 e0 hB5 HN.out HA.out)
  subst h0
  have HV0 : Hid ((0 : Int) = 0) := Lib.hid rfl
  have HS0 := Lib.hid (HST.out.below hv)
  clear hv HST HV0
  go_wp2_with fail
  rw [rounds_succ]
  have t1 : v0.cell? ⟨gs, 1, none⟩ = some (.func (.func 29) #[.pointer (some ⟨g, 0, none⟩)] #[]) := HS0.out.stp.cell 1
  have HZ1 := Lib.hid (everyEdit_any (lastOf d.revs) c.edits g dv dr ev rv c.num c.client c.text b (b + 1) (b + 1 + 1) v0 HS0.out.chk HS0.out.last (by omega) HS0.out.eds (HS0.out.edits _ rfl) (by have := HW.out.len; omega) (fun x hx => by have := HW.out.path x hx; omega))
  obtain ⟨e1, he1⟩ : ∃ x, everyE (lastOf d.revs) emptyS c.edits = x := ⟨_, rfl⟩
  rw [he1] at HZ1
  have HE1 := Lib.hid he1
  clear he1
  go_wp2_with fail
  refine HZ1.out.mono ?_
  rintro e v1 ⟨rfl, hv⟩
  clear t1 HZ1
  by_cases h1 : e1 = 0
  case neg =>
    have q : (e1 != 0) = true := by simpa using h1
    have HA : Hid (appE d c = e1) := Lib.hid (by unfold appE; rw [HE0.out, firstE_skip,  HE1.out, firstE_ne h1])
    have HN := Lib.hid h1
    have hbx := (HS0.out.every' hv).1
    have hR4 := (HS0.out.every' hv).2
    have HBX := Lib.hid hbx
    clear h1 hbx hv HS0
    obtain ⟨r0, r1, f0, f1⟩ := box2 hR4
    go_wp2_with fail
    have hR5 := (hR4.set_ 0 (.slice none 0 0)).set_ 1 (.slice none 0 0)
    have hB5 := (HBX.out.setCell (p := ⟨w.heap.size + 1 + 1, 0, none⟩) (by simp; omega) (.slice none 0 0)).setCell (p := ⟨w.heap.size + 1 + 1, 1, none⟩) (by simp; omega) (.slice none 0 0)
    clear r0 r1 f0 f1 hR4
    generalize (v1.setCell ⟨w.heap.size + 1 + 1, 0, none⟩ (.slice none 0 0)).setCell ⟨w.heap.size + 1 + 1, 1, none⟩ (.slice none 0 0) = W5 at hR5 hB5 ⊢
    obtain ⟨r0, r1, -, -⟩ := box2 hR5
    refine bodyPost_ret (v := .tuple #[.agg #[.slice none 0 0, .slice none 0 0], .int .i64 e1]) (by simp [results, Tryd.results7, go_sem, r0, r1]) rfl (HF.out W5 e1 hB5 HN.out HA.out)
  subst h1
  have HV1 : Hid ((0 : Int) = 0) := Lib.hid rfl
  have HS1 := Lib.hid (HS0.out.every hv HV1.out)
  clear hv HS0 HV1
  go_wp2_with fail
  rw [rounds_succ]
  have t2 : v1.cell? ⟨gs, 2, none⟩ = some (.func (.func 30) #[.pointer (some ⟨g, 0, none⟩)] #[]) := HS1.out.stp.cell 2
  have HZ2 := Lib.hid (moves_any c.edits g dv dr ev rv c.num c.client c.text b (b + 1) (b + 1 + 1) v1 HS1.out.chk HS1.out.eds (HS1.out.edits _ rfl) (by have := HW.out.len; omega))
  obtain ⟨e2, he2⟩ : ∃ x, movesE c.edits = x := ⟨_, rfl⟩
  rw [he2] at HZ2
  have HE2 := Lib.hid he2
  clear he2
  go_wp2_with fail
  refine HZ2.out.mono ?_
  rintro e v2 ⟨rfl, hv⟩
  clear t2 HZ2
  by_cases h2 : e2 = 0
  case neg =>
    have q : (e2 != 0) = true := by simpa using h2
    have HA : Hid (appE d c = e2) := Lib.hid (by unfold appE; rw [HE0.out, firstE_skip, HE1.out, firstE_skip,  HE2.out, firstE_ne h2])
    have HN := Lib.hid h2
    have hbx := (HS1.out.below hv).bel
    have hR4 := (HS1.out.below hv).boxR
    have HBX := Lib.hid hbx
    clear h2 hbx hv HS1
    obtain ⟨r0, r1, f0, f1⟩ := box2 hR4
    go_wp2_with fail
    have hR5 := (hR4.set_ 0 (.slice none 0 0)).set_ 1 (.slice none 0 0)
    have hB5 := (HBX.out.setCell (p := ⟨w.heap.size + 1 + 1, 0, none⟩) (by simp; omega) (.slice none 0 0)).setCell (p := ⟨w.heap.size + 1 + 1, 1, none⟩) (by simp; omega) (.slice none 0 0)
    clear r0 r1 f0 f1 hR4
    generalize (v2.setCell ⟨w.heap.size + 1 + 1, 0, none⟩ (.slice none 0 0)).setCell ⟨w.heap.size + 1 + 1, 1, none⟩ (.slice none 0 0) = W5 at hR5 hB5 ⊢
    obtain ⟨r0, r1, -, -⟩ := box2 hR5
    refine bodyPost_ret (v := .tuple #[.agg #[.slice none 0 0, .slice none 0 0], .int .i64 e2]) (by simp [results, Tryd.results7, go_sem, r0, r1]) rfl (HF.out W5 e2 hB5 HN.out HA.out)
  subst h2
  have HV2 : Hid ((0 : Int) = 0) := Lib.hid rfl
  have HS2 := Lib.hid (HS1.out.below hv)
  clear hv HS1 HV2
  go_wp2_with fail
  rw [rounds_succ]
  have t3 : v2.cell? ⟨gs, 3, none⟩ = some (.func (.func 31) #[.pointer (some ⟨g, 0, none⟩)] #[]) := HS2.out.stp.cell 3
  have HZ3 := Lib.hid (records_any d.revs c g dv dr ev rv b (b + 1) (b + 1 + 1) v2 HS2.out.chk HS2.out.revs HS2.out.last (HS2.out.edits _ rfl) HS2.out.lines HS2.out.rcs (by have := HD.out.len; omega) (by have := HW.out.rlen; omega) HW.out.rec_ (fun p => (HD.out.lastNum p).1) (fun p => by have := (HD.out.lastNum p).2; have := HD.out.len; omega) (appE_bases HD.out HE1.out))
  obtain ⟨e3, he3⟩ : ∃ x, recsE d.revs c = x := ⟨_, rfl⟩
  rw [he3] at HZ3
  have HE3 := Lib.hid he3
  clear he3
  go_wp2_with fail
  refine HZ3.out.mono ?_
  rintro e v3 ⟨rfl, hv⟩
  clear t3 HZ3
  by_cases h3 : e3 = 0
  case neg =>
    have q : (e3 != 0) = true := by simpa using h3
    have HA : Hid (appE d c = e3) := Lib.hid (by unfold appE; rw [HE0.out, firstE_skip, HE1.out, firstE_skip, HE2.out, firstE_skip,  HE3.out, firstE_ne h3])
    have HN := Lib.hid h3
    have hbx := (HS2.out.below hv).bel
    have hR4 := (HS2.out.below hv).boxR
    have HBX := Lib.hid hbx
    clear h3 hbx hv HS2
    obtain ⟨r0, r1, f0, f1⟩ := box2 hR4
    go_wp2_with fail
    have hR5 := (hR4.set_ 0 (.slice none 0 0)).set_ 1 (.slice none 0 0)
    have hB5 := (HBX.out.setCell (p := ⟨w.heap.size + 1 + 1, 0, none⟩) (by simp; omega) (.slice none 0 0)).setCell (p := ⟨w.heap.size + 1 + 1, 1, none⟩) (by simp; omega) (.slice none 0 0)
    clear r0 r1 f0 f1 hR4
    generalize (v3.setCell ⟨w.heap.size + 1 + 1, 0, none⟩ (.slice none 0 0)).setCell ⟨w.heap.size + 1 + 1, 1, none⟩ (.slice none 0 0) = W5 at hR5 hB5 ⊢
    obtain ⟨r0, r1, -, -⟩ := box2 hR5
    refine bodyPost_ret (v := .tuple #[.agg #[.slice none 0 0, .slice none 0 0], .int .i64 e3]) (by simp [results, Tryd.results7, go_sem, r0, r1]) rfl (HF.out W5 e3 hB5 HN.out HA.out)
  subst h3
  have HV3 : Hid ((0 : Int) = 0) := Lib.hid rfl
  have HS3 := Lib.hid (HS2.out.below hv)
  clear hv HS2 HV3
  go_wp2_with fail
  rw [rounds_succ]
  have t4 : v3.cell? ⟨gs, 4, none⟩ = some (.func (.func 32) #[.pointer (some ⟨g, 0, none⟩)] #[]) := HS3.out.stp.cell 4
  have HZ4 := Lib.hid (room_any d c g dv dr ev rv b (b + 1) (b + 1 + 1) v3 HS3.out.chk HS3.out.revs HS3.out.recs HS3.out.eds HS3.out.rcs (by have := HD.out.len; omega) (by have := HD.out.rlen; omega) (by have := HW.out.len; omega) (by have := HW.out.rlen; omega))
  obtain ⟨e4, he4⟩ : ∃ x, roomE d c = x := ⟨_, rfl⟩
  rw [he4] at HZ4
  have HE4 := Lib.hid he4
  clear he4
  go_wp2_with fail
  refine HZ4.out.mono ?_
  rintro e v4 ⟨rfl, hv⟩
  clear t4 HZ4
  by_cases h4 : e4 = 0
  case neg =>
    have q : (e4 != 0) = true := by simpa using h4
    have HA : Hid (appE d c = e4) := Lib.hid (by unfold appE; rw [HE0.out, firstE_skip, HE1.out, firstE_skip, HE2.out, firstE_skip, HE3.out, firstE_skip,  HE4.out, firstE_ne h4])
    have HN := Lib.hid h4
    have hbx := (HS3.out.below hv).bel
    have hR4 := (HS3.out.below hv).boxR
    have HBX := Lib.hid hbx
    clear h4 hbx hv HS3
    obtain ⟨r0, r1, f0, f1⟩ := box2 hR4
    go_wp2_with fail
    have hR5 := (hR4.set_ 0 (.slice none 0 0)).set_ 1 (.slice none 0 0)
    have hB5 := (HBX.out.setCell (p := ⟨w.heap.size + 1 + 1, 0, none⟩) (by simp; omega) (.slice none 0 0)).setCell (p := ⟨w.heap.size + 1 + 1, 1, none⟩) (by simp; omega) (.slice none 0 0)
    clear r0 r1 f0 f1 hR4
    generalize (v4.setCell ⟨w.heap.size + 1 + 1, 0, none⟩ (.slice none 0 0)).setCell ⟨w.heap.size + 1 + 1, 1, none⟩ (.slice none 0 0) = W5 at hR5 hB5 ⊢
    obtain ⟨r0, r1, -, -⟩ := box2 hR5
    refine bodyPost_ret (v := .tuple #[.agg #[.slice none 0 0, .slice none 0 0], .int .i64 e4]) (by simp [results, Tryd.results7, go_sem, r0, r1]) rfl (HF.out W5 e4 hB5 HN.out HA.out)
  subst h4
  have HV4 : Hid ((0 : Int) = 0) := Lib.hid rfl
  have HS4 := Lib.hid (HS3.out.below hv)
  clear hv HS3 HV4
  go_wp2_with fail
  rw [rounds_succ]
  have HA : Hid (appE d c = 0) := Lib.hid (by unfold appE; rw [HE0.out, firstE_skip, HE1.out, firstE_skip, HE2.out, firstE_skip, HE3.out, firstE_skip, HE4.out, firstE_skip]; rfl)
  have HG := Lib.hid (appE_goods HD.out HW.out HE1.out HE3.out)
  clear HE0 HE1 HE2 HE3 HE4
  go_upto_region 9 with fail
  generalize v4 = V at HS4 ⊢
  clear HNC HW1
  have HCL := Lib.hid (fun X (hX : Below V.heap.size V X) => clone_own d.revs dv V X hX (HS4.out.revs.below hX) (by have := HD.out.len; omega))
  have HCC := Lib.hid (fun X gq (hX : Below V.heap.size V X) (hq : Blk X gq 23 [dr, rv]) => concat_own d.recs c.recs dr rv gq V X hX hq (HS4.out.recs.below hX) (HS4.out.rcs.below hX) (by have := HD.out.rlen; omega) (by have := HW.out.rlen; omega))
  have hkc : ∀ w', Below V.heap.size V w' → w'.cell? ⟨w.heap.size, 0, none⟩ = some dv ∧ w'.cell? ⟨w.heap.size, 1, none⟩ = some dr ∧ w'.cell? ⟨w.heap.size + 1, 4, none⟩ = some rv := fun w' hb =>
    ⟨(HS4.out.below hb).boxD.cell 0, (HS4.out.below hb).boxD.cell 1, (HS4.out.below hb).boxC.cell 4⟩
  have HC := Lib.hid hkc
  clear hkc
  go_cut [10] (fun s10 wx => ∃ (g10 : Nat) (v1 v2 : Value), s10 = .pointer (some ⟨g10, 0, none⟩) ∧ Hid (ApR V wx g10 v1 v2 d.revs.length (d.recs.length + c.recs.length) (d.revs.flatMap Rev.cells) ((d.recs ++ c.recs).flatMap Rcd.cells)))
  case first => as_aux_lemma =>
    rw [HDV.out] at HC HCL
    rw [HDR.out, HRV.out] at HC HCC
    go_region_held3 (fun w' => Below V.heap.size V w' ∧ w'.cell? ⟨w.heap.size, 0, none⟩ = some (.slice Av d.revs.length cv) ∧ w'.cell? ⟨w.heap.size, 1, none⟩ = some (.slice Aq d.recs.length cq) ∧ w'.cell? ⟨w.heap.size + 1, 4, none⟩ = some (.slice Ac c.recs.length cc))
      ((refine and_of ?_ (HC.out _); repeat (first | with_reducible assumption | with_reducible exact Below.refl _ _ | with_reducible refine Below.drew ?_ | with_reducible refine below_alloc' ?_ _ | refine Below.setCell ?_ (by first | exact hS6.size | (have := hS6.size; simp; omega) | (have := hS5.size; simp; omega) | (simp; done)) _)))
      (first
        | (go_at_call 17; refine (HCL.out _ ?_).mono ?_; (repeat (first | with_reducible exact Below.refl _ _ | with_reducible refine Below.drew ?_ | with_reducible refine below_alloc' ?_ _)); rintro e w5 ⟨A5, c5, rfl, hS5, hO5, hX5⟩)
        | (go_at_call 18; refine (HCC.out _ _ ?_ ?_).mono ?_; (repeat (first | with_reducible assumption | with_reducible refine Below.drew ?_ | with_reducible refine below_alloc' ?_ _)); (first | with_reducible exact blk_new _ _ _ | with_reducible exact blk_at (World.size_alloc _ _).symm | with_reducible exact Blk.alloc (blk_new _ _ _) _ | with_reducible exact Blk.below' (blk_new _ _ _) hX5 | with_reducible exact Blk.alloc (Blk.below' (blk_new _ _ _) hX5) _ | with_reducible exact Blk.below' (Blk.drew' (blk_new _ _ _)) hX5 | with_reducible exact Blk.alloc (Blk.below' (Blk.drew' (blk_new _ _ _)) hX5) _ | with_reducible exact Blk.below' (blk_at (World.size_alloc _ _).symm) hX5 | with_reducible exact Blk.alloc (Blk.below' (blk_at (World.size_alloc _ _).symm) hX5) _ | with_reducible exact Blk.below' (Blk.drew' (blk_at (World.size_alloc _ _).symm)) hX5 | with_reducible exact Blk.alloc (Blk.below' (Blk.drew' (blk_at (World.size_alloc _ _).symm)) hX5) _ | with_reducible exact Blk.below' (Blk.alloc (blk_new _ _ _) _) hX5 | with_reducible exact Blk.alloc (Blk.below' (Blk.alloc (blk_new _ _ _) _) hX5) _ | with_reducible exact Blk.below' (Blk.drew' (Blk.alloc (blk_new _ _ _) _)) hX5 | with_reducible exact Blk.alloc (Blk.below' (Blk.drew' (Blk.alloc (blk_new _ _ _) _)) hX5) _ | exact blk_new _ _ _ | exact blk_at (World.size_alloc _ _).symm | exact Blk.alloc (blk_new _ _ _) _ | exact Blk.below' (blk_new _ _ _) hX5 | exact Blk.alloc (Blk.below' (blk_new _ _ _) hX5) _ | exact Blk.below' (Blk.drew' (blk_new _ _ _)) hX5 | exact Blk.alloc (Blk.below' (Blk.drew' (blk_new _ _ _)) hX5) _ | exact Blk.below' (blk_at (World.size_alloc _ _).symm) hX5 | exact Blk.alloc (Blk.below' (blk_at (World.size_alloc _ _).symm) hX5) _ | exact Blk.below' (Blk.drew' (blk_at (World.size_alloc _ _).symm)) hX5 | exact Blk.alloc (Blk.below' (Blk.drew' (blk_at (World.size_alloc _ _).symm)) hX5) _ | exact Blk.below' (Blk.alloc (blk_new _ _ _) _) hX5 | exact Blk.alloc (Blk.below' (Blk.alloc (blk_new _ _ _) _) hX5) _ | exact Blk.below' (Blk.drew' (Blk.alloc (blk_new _ _ _) _)) hX5 | exact Blk.alloc (Blk.below' (Blk.drew' (Blk.alloc (blk_new _ _ _) _)) hX5) _); rintro e w6 ⟨A6, c6, rfl, hS6, hO6, hX6⟩; (first | (have hB10 := Blk.below' (blk_new _ [.slice none 0 0, .slice none 0 0] 25) hX6; (try simp only [World.size_alloc] at hB10); obtain ⟨r0, r1, f0, f1⟩ := box2 hB10) | (have hB10 := Blk.below' (Blk.alloc (blk_new _ [.slice none 0 0, .slice none 0 0] 25) _) hX6; (try simp only [World.size_alloc] at hB10); obtain ⟨r0, r1, f0, f1⟩ := box2 hB10) | (have hB10 := Blk.below' (Blk.below' (blk_new _ [.slice none 0 0, .slice none 0 0] 25) hX5) hX6; (try simp only [World.size_alloc] at hB10); obtain ⟨r0, r1, f0, f1⟩ := box2 hB10) | (have hB10 := Blk.below' (Blk.alloc (Blk.below' (blk_new _ [.slice none 0 0, .slice none 0 0] 25) hX5) _) hX6; (try simp only [World.size_alloc] at hB10); obtain ⟨r0, r1, f0, f1⟩ := box2 hB10) | (have hB10 := Blk.below' (Blk.below' (Blk.drew' (blk_new _ [.slice none 0 0, .slice none 0 0] 25)) hX5) hX6; (try simp only [World.size_alloc] at hB10); obtain ⟨r0, r1, f0, f1⟩ := box2 hB10) | (have hB10 := Blk.below' (Blk.alloc (Blk.below' (Blk.drew' (blk_new _ [.slice none 0 0, .slice none 0 0] 25)) hX5) _) hX6; (try simp only [World.size_alloc] at hB10); obtain ⟨r0, r1, f0, f1⟩ := box2 hB10) | (have hB10 := Blk.below' (Blk.below' (Blk.alloc (blk_new _ [.slice none 0 0, .slice none 0 0] 25) _) hX5) hX6; (try simp only [World.size_alloc] at hB10); obtain ⟨r0, r1, f0, f1⟩ := box2 hB10) | (have hB10 := Blk.below' (Blk.alloc (Blk.below' (Blk.alloc (blk_new _ [.slice none 0 0, .slice none 0 0] 25) _) hX5) _) hX6; (try simp only [World.size_alloc] at hB10); obtain ⟨r0, r1, f0, f1⟩ := box2 hB10) | (have hB10 := Blk.below' (Blk.below' (Blk.drew' (Blk.alloc (blk_new _ [.slice none 0 0, .slice none 0 0] 25) _)) hX5) hX6; (try simp only [World.size_alloc] at hB10); obtain ⟨r0, r1, f0, f1⟩ := box2 hB10) | (have hB10 := Blk.below' (Blk.alloc (Blk.below' (Blk.drew' (Blk.alloc (blk_new _ [.slice none 0 0, .slice none 0 0] 25) _)) hX5) _) hX6; (try simp only [World.size_alloc] at hB10); obtain ⟨r0, r1, f0, f1⟩ := box2 hB10) | skip)))
    all_goals
      first
        | (have hq := apR_of (V := V) (by repeat (first | with_reducible exact Below.refl _ _ | with_reducible refine Below.drew ?_ | with_reducible refine below_alloc' ?_ _)) hX5 (by repeat (first | with_reducible exact Below.refl _ _ | with_reducible refine Below.drew ?_ | with_reducible refine below_alloc' ?_ _)) hX6 (Below.refl _ _) hO5 hO6 hB10 (by simp only [drew_heap, World.size_alloc]; omega)
           clear r0 r1 f0 f1 hB10 hO5 hO6 hX5 hX6 hS5 hS6
           go_wp2_with fail
           go_meet
           exact ⟨_, _, _, rfl, hq⟩)
        | (have hq := apR_of2 (V := V) (by repeat (first | with_reducible exact Below.refl _ _ | with_reducible refine Below.drew ?_ | with_reducible refine below_alloc' ?_ _)) hX5 (by repeat (first | with_reducible exact Below.refl _ _ | with_reducible refine Below.drew ?_ | with_reducible refine below_alloc' ?_ _)) hX6 hO5 hO6
           clear hO5 hO6 hX5 hX6 hS5 hS6
           go_wp2_with fail
           go_meet
           exact ⟨_, _, _, rfl, hq⟩)
  case rest => as_aux_lemma =>
    obtain ⟨g10, v1, v2, rfl, HR⟩ := hcut
    clear HCL HCC HC HF
    have e3 : wc.cell? ⟨w.heap.size + 1, 3, none⟩ = some ev := (HS4.out.below HR.out.bel).boxC.cell 3
    rw [HEV.out] at e3
    obtain ⟨B, hB⟩ : ∃ B, B = V.heap.size := ⟨_, rfl⟩
    go_wp2_with fail
    clear e3
    go_loopw [43] (fun s wr => ∃ (k : Nat) (v1 : Value), s = .int .i64 k ∧ k ≤ c.edits.length ∧ Hid (ApR V wr g10 v1 v2 (d.revs.length + k) (d.recs.length + c.recs.length) ((d.revs ++ (c.edits.take k).map (madeR (lastOf d.revs) c.num)).flatMap Rev.cells) ((d.recs ++ c.recs).flatMap Rcd.cells))) (fun s _ => c.edits.length - (intOf s).toNat)
    case atStart => exact ⟨0, v1, rfl, Nat.zero_le _, by have := HR.out; rw [List.take_zero, List.map_nil, List.append_nil, Nat.add_zero]; exact this⟩
    case round =>
      obtain ⟨k, v1, rfl, hk, HK⟩ := hrel
      by_cases hlt : k < c.edits.length
      · have hEa := (HS4.out.below HK.out.bel).eds
        rw [HEV.out] at hEa
        obtain ⟨ad, rfl, hab, hld⟩ := Edts.at_ hEa hlt
        have HT := Lib.hid (show c.edits.take (k + 1) = c.edits.take k ++ [c.edits[k]] from List.take_succ_eq_append_getElem hlt)
        have hxm := HD.out.lastNum c.edits[k].path
        generalize c.edits[k] = x at hld HT hxm
        obtain ⟨x0, x1, x2, x3, x4, x5, x6, x7, x8, x9, x10, x11⟩ := hld
        have hX1 := blk_new wr [.string x.path, .int .i64 x.act, .int .i64 x.ty.base, .bool x.ty.k, .bool x.ty.l, .bool x.ty.x, .int .u64 x.sum, .int .i64 x.size, .int .i64 x.base, .string x.frm, .int .i64 x.fnum, .int .i64 x.fence] 39
        have hA1 : Below wr.heap.size wr (wr.alloc (.cells #[.string x.path, .int .i64 x.act, .int .i64 x.ty.base, .bool x.ty.k, .bool x.ty.l, .bool x.ty.x, .int .u64 x.sum, .int .i64 x.size, .int .i64 x.base, .string x.frm, .int .i64 x.fnum, .int .i64 x.fence] 39)) := (Below.refl _ _).alloc (Nat.le_refl _) _
        clear hEa
        go_upto_region 13 with fail
        clear x0 x1 x2 x3 x4 x5 x6 x7 x8 x9 x10 x11
        generalize wr.alloc (.cells #[.string x.path, .int .i64 x.act, .int .i64 x.ty.base, .bool x.ty.k, .bool x.ty.l, .bool x.ty.x, .int .u64 x.sum, .int .i64 x.size, .int .i64 x.base, .string x.frm, .int .i64 x.fnum, .int .i64 x.fence] 39) = V1 at hX1 hA1 ⊢
        have HRV2 := Lib.hid (fun X (hX : Below V1.heap.size V1 X) => revision_any (lastOf d.revs) x g dv dr ev rv c.num c.client c.text b (b + 1) (b + 1 + 1) X ((HS4.out.below (below_next (below_next HK.out.bel hA1) hX)).chk) ((HS4.out.below (below_next (below_next HK.out.bel hA1) hX)).last) hxm.1 (by have := HD.out.len; omega))
        have HAR := Lib.hid (HK.out.under hA1)
        have HX1 := Lib.hid hX1
        have hle1 : V.heap.size ≤ wr.heap.size := HK.out.bel.size
        have HNE : Hid (v1.ownBlock ≠ some wr.heap.size) := Lib.hid fun e => by have := HK.out.one.lt _ e; omega
        have hk2 : d.revs.length + k ≤ 100000 := by have := HD.out.len; have := HW.out.len; omega
        clear hX1
        refine region13 _ (by kernel_rfl) _ g g10 wr.heap.size (d.revs.length + k) (d.recs.length + c.recs.length) x (madeR (lastOf d.revs) c.num x) v1 v2 _ _ V V1 HAR.out HX1.out hle1 HNE.out hk2 HRV2.out _ _ _ _ _ _ _ _ _ _ _ _ _ _ _ _ _ _ _ _ _ _ _ _ _ _ _ _ _ _ _ _ _ _ _ _ _ _ _ _ _ _ _ _ _ _ _ _ _ _ _ _ _ _ _ _ _ ?_
        intro t47 t48 t49 t50 t51 t52 t53 t54 v3 w6 HQ
        go_wp2_with fail
        go_roundw
        case rel =>
          refine ⟨k + 1, v3, by go_num, by omega, ?_⟩
          have := HQ.out
          rw [HT.out, List.map_append, List.map_cons, List.map_nil, ← List.append_assoc, List.flatMap_append, List.flatMap_cons, List.flatMap_nil, List.append_nil]
          exact this
        case measure => simp [intOf]; omega
      · have hkk : k = c.edits.length := by omega
        subst hkk
        have hR2 := HK.out
        rw [List.take_length] at hR2
        obtain ⟨A1, c1, hv1⟩ := own_slice hR2.one
        obtain ⟨A2, c2, hv2⟩ := own_slice hR2.two
        subst hv1 hv2
        obtain ⟨lg, hl1, hl2, hl3⟩ := goods_list (l := d.recs ++ c.recs) (fun r hr => by
          rcases List.mem_append.1 hr with hr | hr
          · exact HD.out.rec_ r hr
          · exact HG.out r hr)
        have HSR := Lib.hid (sortStable_any lg (.slice A2 (d.recs.length + c.recs.length) c2) V.heap.size wr (by rw [hl2, hl3, List.length_append]; exact hR2.two) (by rw [hl2, List.length_append]; have := HD.out.rlen; have := HW.out.rlen; omega))
        rw [hl2, List.length_append] at HSR
        have HL1 := Lib.hid hl1
        have b1' : wr.cell? ⟨g10, 1, none⟩ = some (.slice A2 (d.recs.length + c.recs.length) c2) := hR2.box.cell 1
        have HR2 := Lib.hid hR2
        clear hl1 hl2 hl3 hR2 HK
        go_wp2_with fail
        refine HSR.out.mono ?_
        rintro e w6 ⟨rfl, l', hp, hs, ho, hgr⟩
        have hb6 : Below V.heap.size V w6 := HR2.out.bel.grown hgr HR2.out.bel.size (fun j e => (HR2.out.two.lt j e).1)
        have hbx := HR2.out.box.grown hgr (fun e => HR2.out.ne2 e.symm)
        have hon := own_grown HR2.out.one hgr (fun x e e2 => HR2.out.ne12 x e e2)
        have hre := (HS4.out.below hb6).boxR
        have hbw := (HS4.out.below hb6).bel
        have hler := (HS4.out.below hb6).ler
        have hlt6 : w.heap.size + 1 + 1 < V.heap.size := HS4.out.boxR.lt
        have hg10 := HR2.out.le
        have HP : Hid (l'.Perm lg ∧ l'.Pairwise (fun a b => 0 ≤ OkRcd.cmp b a)) := Lib.hid ⟨hp, hs⟩
        have HON := Lib.hid hon
        have HTW := Lib.hid ho
        have HBW := Lib.hid hbw
        clear b1' hp hs hon ho hbw hgr hb6
        obtain ⟨b0, b1, -, -⟩ := box2 hbx
        obtain ⟨r0, r1, f0, f1⟩ := box2 hre
        go_wp2_with fail
        have hR5 := (hre.set_ 0 (.slice A1 (d.revs.length + c.edits.length) c1)).set_ 1 (.slice A2 (d.recs.length + c.recs.length) c2)
        have hB5 := (HBW.out.setCell (p := ⟨w.heap.size + 1 + 1, 0, none⟩) (by simp; omega) (.slice A1 (d.revs.length + c.edits.length) c1)).setCell (p := ⟨w.heap.size + 1 + 1, 1, none⟩) (by simp; omega) (.slice A2 (d.recs.length + c.recs.length) c2)
        have hO5 := Row.of_own (own_setCell (own_setCell HON.out (p := ⟨w.heap.size + 1 + 1, 0, none⟩) (fun e => by have := HR2.out.one.lt _ e; simp at this; omega) (.slice A1 (d.revs.length + c.edits.length) c1)) (p := ⟨w.heap.size + 1 + 1, 1, none⟩) (fun e => by have := HR2.out.one.lt _ e; simp at this; omega) (.slice A2 (d.recs.length + c.recs.length) c2))
        have hT5 := Row.of_own (own_setCell (own_setCell HTW.out (p := ⟨w.heap.size + 1 + 1, 0, none⟩) (fun e => by have := HR2.out.two.lt _ e; simp at this; omega) (.slice A1 (d.revs.length + c.edits.length) c1)) (p := ⟨w.heap.size + 1 + 1, 1, none⟩) (fun e => by have := HR2.out.two.lt _ e; simp at this; omega) (.slice A2 (d.recs.length + c.recs.length) c2))
        clear b0 b1 r0 r1 f0 f1 hre hbx
        generalize (w6.setCell ⟨w.heap.size + 1 + 1, 0, none⟩ (.slice A1 (d.revs.length + c.edits.length) c1)).setCell ⟨w.heap.size + 1 + 1, 1, none⟩ (.slice A2 (d.recs.length + c.recs.length) c2) = W5 at hR5 hB5 hO5 hT5 ⊢
        obtain ⟨r0, r1, -, -⟩ := box2 hR5
        refine bodyPost_ret (v := .tuple #[.agg #[.slice A1 (d.revs.length + c.edits.length) c1, .slice A2 (d.recs.length + c.recs.length) c2], .int .i64 0]) (by simp [results, Tryd.results7, go_sem, r0, r1]) rfl ?_
        refine ⟨hB5, .inr ⟨HA.out, _, _, l'.map (·.1), rfl, ?_, ?_, ?_, ?_, fun x e => Nat.le_trans HS4.out.bel.size (HR2.out.one.lt x e).1, fun x e => Nat.le_trans HS4.out.bel.size (HR2.out.two.lt x e).1⟩⟩
        · unfold Revs newRevs
          rw [List.length_append, List.length_map]
          exact hO5
        · unfold Rcds
          rw [List.length_map, HP.out.1.length_eq, ← List.length_map (f := fun x : OkRcd => x.1), HL1.out, List.length_append, ← enc_list]
          exact hT5
        · have := HP.out.1.map (fun x : OkRcd => x.1)
          rw [HL1.out] at this
          exact this
        · rw [List.pairwise_map]
          exact HP.out.2
end Go.Proofs.YtnblfaagchflaaaDoor
/- Slices of changes; the statements' own Small and play. -/
namespace Go.Proofs.YtnblfaagchflaaaDoor
open Go.RowKit
set_option linter.unusedVariables false
set_option linter.unusedSimpArgs false

/-- A change with the slices that it has in memory. -/
abbrev ChV := Chg × Value × Value
def ChV.cells (p : ChV) : List Value := [.int .i64 p.1.num, .string p.1.client, .string p.1.text, p.2.1, p.2.2]
def ChV.ok (w : World) (p : ChV) : Prop := Edts w p.2.1 p.1.edits ∧ Rcds w p.2.2 p.1.recs
def Chgs (w : World) (v : Value) (ps : List ChV) : Prop := Row w 5 v ps.length (ps.flatMap ChV.cells) ∧ ∀ p ∈ ps, p.ok w
theorem ChV.ok_below {w w' : World} {p : ChV} (h : p.ok w) (hb : Below w.heap.size w w') : p.ok w' := ⟨h.1.below hb, h.2.below hb⟩
theorem Chgs.below {w w' : World} {v : Value} {ps : List ChV} (h : Chgs w v ps) (hb : Below w.heap.size w w') : Chgs w' v ps := ⟨Row.below h.1 hb, fun p hp => ChV.ok_below (h.2 p hp) hb⟩
def ChAt (w : World) (a : Addr) (p : ChV) : Prop := w.cell? a = some (.int .i64 p.1.num) ∧ w.cell? ⟨a.block, a.off + 1, none⟩ = some (.string p.1.client) ∧ w.cell? ⟨a.block, a.off + 2, none⟩ = some (.string p.1.text) ∧ w.cell? ⟨a.block, a.off + 3, none⟩ = some p.2.1 ∧ w.cell? ⟨a.block, a.off + 4, none⟩ = some p.2.2
theorem Chgs.at_ {w : World} {A : Option Addr} {c : Nat} {l : List ChV} (h : Chgs w (.slice A l.length c) l) {k : Nat} (hk : k < l.length) :
    ∃ ad, A = some ad ∧ ad.block < w.heap.size ∧ ChAt w (ad.add (k * 5)) l[k] := by
  obtain ⟨ad, e, hb, hc⟩ := row_at (f := ChV.cells) (n := 5) (fun _ => rfl) h.1 hk
  exact ⟨ad, e, hb, hc 0 _ rfl, hc 1 _ rfl, hc 2 _ rfl, hc 3 _ rfl, hc 4 _ rfl⟩

def edtSm (x : Edt) : Prop := x.path.size + x.frm.size ≤ 500
def rcdSm (x : Rcd) : Prop := x.frm.size + x.to.size ≤ 500
def chgSm (c : Chg) : Prop := (∀ x ∈ c.edits, edtSm x) ∧ ∀ x ∈ c.recs, rcdSm x
def chgLen (c : Chg) : Nat := c.edits.length + c.recs.length
def lenSum (l : List Chg) : Nat := (l.map chgLen).sum
def smallL (l : List Chg) : Prop := (∀ c ∈ l, chgSm c) ∧ l.length ≤ 40 ∧ lenSum l ≤ 200
theorem lenSum_snoc (l : List Chg) (c : Chg) : lenSum (l ++ [c]) = lenSum l + chgLen c := by unfold lenSum; simp
theorem lenSum_mem {l : List Chg} {c : Chg} (h : c ∈ l) : chgLen c ≤ lenSum l := by
  induction l with
  | nil => cases h
  | cons x l ih =>
    unfold lenSum at ih ⊢
    simp only [List.map_cons, List.sum_cons]
    rcases List.mem_cons.1 h with rfl | h
    · omega
    · have := ih h; omega

def SmPost (w : World) (l : List Chg) (e : Ending) (w' : World) : Prop := ∃ b, e = .returned (.bool b) ∧ Below w.heap.size w w' ∧ (b = true → smallL l)
end Go.Proofs.YtnblfaagchflaaaDoor
/- The statements' own play. -/
namespace Go.Proofs.YtnblfaagchflaaaDoor
open Go.RowKit
set_option linter.unusedVariables false
set_option linter.unusedSimpArgs false

/-- The depots that the changes make, one after the other (the order of equal records is left open). -/
inductive Plays : List Chg → Dep → Prop where
  | nil : Plays [] ⟨[], []⟩
  | skip {l : List Chg} {d : Dep} {c : Chg} : Plays l d → appE d c ≠ 0 → Plays (l ++ [c]) d
  | step {l : List Chg} {d : Dep} {c : Chg} {rs : List Rcd} : Plays l d → appE d c = 0 → rs.Perm (d.recs ++ c.recs) → rs.Pairwise (fun a b => 0 ≤ cmpR b a) → Plays (l ++ [c]) ⟨newRevs d c, rs⟩
theorem depW_nil : DepW ⟨[], []⟩ := ⟨by simp, by simp, fun r hr => by simp at hr, fun r hr => by simp at hr, fun r hr => by simp at hr⟩
theorem small_chgW {c : Chg} (h : chgSm c) (hl : chgLen c ≤ 200) (hr : ∀ r ∈ c.recs, r.last ≤ 9223372036854775807) : ChgW c := by
  unfold chgLen at hl
  refine ⟨by omega, by omega, fun x hx => ?_, fun r hx => ⟨⟨?_, ?_⟩, hr r hx⟩⟩
  · have := h.1 x hx; unfold edtSm at this; omega
  · have := h.2 r hx; unfold rcdSm at this; omega
  · have := h.2 r hx; unfold rcdSm at this; omega
/-- A depot in memory, of which everything that the walks ask is known. -/
def DepAt (w : World) (dv dr : Value) (d : Dep) : Prop := Revs w dv d.revs ∧ Rcds w dr d.recs ∧ DepW d
theorem DepAt.below {w w' : World} {dv dr : Value} {d : Dep} (h : DepAt w dv dr d) (hb : Below w.heap.size w w') : DepAt w' dv dr d := ⟨h.1.below hb, h.2.1.below hb, h.2.2⟩
theorem Row.setCell_far {w : World} {size n g i : Nat} {v u : Value} {xs : List Value} (h : Row w size v n xs) (hne : v.ownBlock ≠ some g) : Row (w.setCell ⟨g, i, none⟩ u) size v n xs := by
  obtain ⟨A, c, rfl, hc, hm, hl, h0, hx⟩ := h
  refine ⟨A, c, rfl, hc, hm, hl, h0, fun hn => ?_⟩
  obtain ⟨ad, rfl, hb, hcell⟩ := hx hn
  refine ⟨ad, rfl, by simpa [World.setCell] using hb, fun j u' hu => ?_⟩
  rw [← hcell j u' hu]
  refine World.cell?_of_block (Below.heap_setCell w _ _ _ ?_)
  rw [add_block]
  intro e
  exact hne (congrArg some e)
theorem DepAt.setCell {w : World} {dv dr u : Value} {d : Dep} {g i : Nat} (h : DepAt w dv dr d) (h1 : dv.ownBlock ≠ some g) (h2 : dr.ownBlock ≠ some g) : DepAt (w.setCell ⟨g, i, none⟩ u) dv dr d :=
  ⟨Row.setCell_far h.1 h1, Row.setCell_far h.2.1 h2, h.2.2⟩
/-- What play leaves. -/
def PlayPost (w : World) (l : List Chg) (e : Ending) (w' : World) : Prop := ∃ dv dr d, e = .returned (.agg #[dv, dr]) ∧ Below w.heap.size w w' ∧ DepAt w' dv dr d ∧ Plays l d ∧ Fresh w.heap.size dv ∧ Fresh w.heap.size dr

/-- The state of play's loop. -/
structure PlSt (w wr : World) (l : List Chg) (g2 g3 B : Nat) (dv dr : Value) (d : Dep) : Prop where
  bel : Below w.heap.size w wr
  box2 : Blk wr g2 25 [.slice none 0 0, .slice none 0 0]
  box3 : Blk wr g3 25 [dv, dr]
  dep : DepAt wr dv dr d
  far : Fresh B dv ∧ Fresh B dr
  pl : Plays l d

end Go.Proofs.YtnblfaagchflaaaDoor
/- Plain: the revisions of a path are numbered from 1 on (HistoryNumbers). -/
namespace Go.Proofs.YtnblfaagchflaaaDoor
open Go.RowKit
set_option linter.unusedVariables false
set_option linter.unusedSimpArgs false

/-- The revisions of a path, as they stand. -/
def logOf (revs : List Rev) (p : ByteArray) : List Rev := revs.filter fun r => decide (r.path = p)
def addA (a : Int) : Bool := (a == 1) || (a == 4)
def altOk : Bool → List Rev → Bool
  | _, [] => true
  | live, v :: l => (addA v.act == !live) && altOk (liveA v.act) l
def lastLive (l : List Rev) : Bool := match l.getLast? with
  | none => false
  | some v => liveA v.act
theorem altOk_snoc (l : List Rev) (v : Rev) (live : Bool) : altOk live (l ++ [v]) = (altOk live l && (addA v.act == !(match l.getLast? with
    | none => live
    | some v => liveA v.act))) := by
  induction l generalizing live with
  | nil => simp [altOk]
  | cons x l ih =>
    rw [List.cons_append, altOk, altOk, ih]
    cases l with
    | nil => simp [Bool.and_assoc]
    | cons y l =>
      obtain ⟨z, hz⟩ : ∃ z, (y :: l).getLast? = some z := ⟨_, List.getLast?_eq_some_getLast (by simp)⟩
      rw [List.getLast?_cons_cons, hz, Bool.and_assoc]
/-- What holds of each path of a depot that was played. -/
structure LogOk (revs : List Rev) (p : ByteArray) : Prop where
  num : ∀ i (h : i < (logOf revs p).length), (logOf revs p)[i].num = (i : Int) + 1
  chg : (logOf revs p).Pairwise (fun a b => a.chg < b.chg)
  pos : ∀ v ∈ logOf revs p, 0 < v.chg
  last : lastOf revs p = (logOf revs p).getLast?
  alt : altOk false (logOf revs p) = true
theorem mem_log {revs : List Rev} {p : ByteArray} {v : Rev} : v ∈ logOf revs p ↔ v ∈ revs ∧ v.path = p := by
  unfold logOf; simp
theorem log_app (a b : List Rev) (p : ByteArray) : logOf (a ++ b) p = logOf a p ++ logOf b p := by unfold logOf; rw [List.filter_append]
theorem log_made (last : ByteArray → Option Rev) (n : Int) (es : List Edt) (hn : (es.map (·.path)).Nodup) (p : ByteArray) :
    (p ∉ es.map (·.path) ∧ logOf (es.map (madeR last n)) p = []) ∨ ∃ e ∈ es, e.path = p ∧ logOf (es.map (madeR last n)) p = [madeR last n e] := by
  induction es with
  | nil => left; simp [logOf]
  | cons x es ih =>
    rw [List.map_cons, List.nodup_cons] at hn
    by_cases hx : x.path = p
    · right
      refine ⟨x, List.mem_cons_self .., hx, ?_⟩
      have h0 : logOf (es.map (madeR last n)) p = [] := by
        unfold logOf
        rw [List.filter_eq_nil_iff]
        intro r hr
        obtain ⟨y, hy, rfl⟩ := List.mem_map.1 hr
        intro e
        exact hn.1 (List.mem_map.2 ⟨y, hy, (show y.path = p from of_decide_eq_true e).trans hx.symm⟩)
      unfold logOf at h0 ⊢
      rw [List.map_cons, List.filter_cons, h0]
      simp [madeR, hx]
    · have hc : logOf ((x :: es).map (madeR last n)) p = logOf (es.map (madeR last n)) p := by
        unfold logOf
        rw [List.map_cons, List.filter_cons]
        simp [madeR, hx]
      rcases ih hn.2 with ⟨h1, h2⟩ | ⟨e, he, h1, h2⟩
      · left
        refine ⟨?_, by rw [hc, h2]⟩
        rw [List.map_cons, List.mem_cons]
        rintro (h | h)
        · exact hx h.symm
        · exact h1 h
      · right
        exact ⟨e, List.mem_cons_of_mem _ he, h1, by rw [hc, h2]⟩
theorem actE_zero {last : ByteArray → Option Rev} {e : Edt} (h : actE last e = 0) : addA e.act = !isLast last e.path := by
  unfold actE at h
  unfold addA
  by_cases h1 : e.act = 1 ∨ e.act = 4
  · rw [if_pos h1] at h
    split at h
    · omega
    · rename_i hl
      have : isLast last e.path = false := by simpa using hl
      rw [this]
      rcases h1 with h1 | h1 <;> rw [h1] <;> rfl
  · rw [if_neg h1] at h
    by_cases h2 : e.act = 2 ∨ e.act = 3 ∨ e.act = 5
    · rw [if_pos h2] at h
      split at h
      · rename_i hl
        rw [hl]
        rcases h2 with h2 | h2 | h2 <;> rw [h2] <;> rfl
      · omega
    · rw [if_neg h2] at h; omega
theorem log_step {d : Dep} {c : Chg} (h : appE d c = 0) (p : ByteArray) (hd : LogOk d.revs p) : LogOk (newRevs d c) p := by
  obtain ⟨h1, h2, -, -, -⟩ := appE_zero h
  obtain ⟨p1, p2⟩ := everyE_paths h2
  obtain ⟨-, -, -, c1, -, hs⟩ := sizeE_zero h1
  have hn := paths_nodup p1
  have hlog : logOf (newRevs d c) p = logOf d.revs p ++ logOf (c.edits.map (madeR (lastOf d.revs) c.num)) p := by unfold newRevs; exact log_app _ _ _
  have hlst : lastOf (newRevs d c) p = (c.edits.map (madeR (lastOf d.revs) c.num)).foldl lastM (lastOf d.revs) p := by unfold newRevs; rw [lastOf_app]
  rcases log_made (lastOf d.revs) c.num c.edits hn p with ⟨k1, k2⟩ | ⟨e, he, k1, k2⟩
  · rw [k2, List.append_nil] at hlog
    rw [lasts_other _ _ (by rw [made_paths]; exact k1)] at hlst
    exact ⟨by rw [hlog]; exact hd.num, by rw [hlog]; exact hd.chg, by rw [hlog]; exact hd.pos, by rw [hlst, hlog]; exact hd.last, by rw [hlog]; exact hd.alt⟩
  · rw [k2] at hlog
    subst k1
    rw [lasts_made _ _ _ hn e he] at hlst
    obtain ⟨o1, o2, o3, o4⟩ := oneE_zero (p2 e he).2.2
    have hnum : (lastR (lastOf d.revs) e.path).num = (logOf d.revs e.path).length := by
      unfold lastR
      rw [hd.last, List.getLast?_eq_getElem?]
      by_cases h0 : (logOf d.revs e.path).length = 0
      · rw [h0, List.getElem?_eq_none (by omega)]; rfl
      · rw [List.getElem?_eq_getElem (by omega)]
        simp only [Option.getD_some]
        rw [hd.num]
        omega
    refine ⟨?_, ?_, ?_, ?_, ?_⟩
    · intro i hi
      simp only [hlog] at hi ⊢
      rw [List.length_append, List.length_singleton] at hi
      by_cases hil : i < (logOf d.revs e.path).length
      · rw [List.getElem_append_left hil]; exact hd.num i hil
      · rw [List.getElem_append_right (by omega)]
        simp only [List.getElem_singleton, madeR]
        omega
    · rw [hlog, List.pairwise_append]
      refine ⟨hd.chg, by simp, fun a ha b hb => ?_⟩
      rw [List.mem_singleton] at hb
      subst hb
      exact hs a (mem_log.1 ha).1
    · rw [hlog]
      intro v hv
      rcases List.mem_append.1 hv with hv | hv
      · exact hd.pos v hv
      · rw [List.mem_singleton] at hv; subst hv; simp only [madeR]; omega
    · rw [hlst, hlog]; simp
    · rw [hlog, altOk_snoc, hd.alt, Bool.true_and]
      have : isLast (lastOf d.revs) e.path = (match (logOf d.revs e.path).getLast? with
        | none => false
        | some v => liveA v.act) := by unfold isLast; rw [hd.last]; cases (logOf d.revs e.path).getLast? <;> rfl
      rw [← this]
      show (addA e.act == !isLast (lastOf d.revs) e.path) = true
      rw [actE_zero o1]; simp
theorem plays_log {l : List Chg} {d : Dep} (h : Plays l d) (p : ByteArray) : LogOk d.revs p := by
  induction h with
  | nil => exact ⟨fun i h => by simp [logOf] at h, by simp [logOf], by simp [logOf], rfl, rfl⟩
  | skip _ _ ih => exact ih
  | step _ h0 _ _ ih => exact log_step h0 p ih
/-- The last one of the first i. -/
def before (l : List Rev) (i : Nat) : Option Rev := (l.take i).getLast?
def liveAt (l : List Rev) (i : Nat) : Bool := lastLive (l.take i)
def chgAt (l : List Rev) (i : Nat) : Int := match (l.take i).getLast? with
  | none => 0
  | some v => v.chg
theorem liveAt_next (l : List Rev) (i : Nat) (h : i < l.length) : liveAt l (i + 1) = liveA l[i].act := by
  unfold liveAt lastLive; rw [List.take_succ_eq_append_getElem h, List.getLast?_concat]
theorem chgAt_next (l : List Rev) (i : Nat) (h : i < l.length) : chgAt l (i + 1) = l[i].chg := by
  unfold chgAt; rw [List.take_succ_eq_append_getElem h, List.getLast?_concat]
theorem altOk_take {l : List Rev} {live : Bool} (h : altOk live l = true) (i : Nat) : altOk live (l.take i) = true := by
  induction l generalizing live i with
  | nil => simpa using h
  | cons x l ih =>
    cases i with
    | zero => rfl
    | succ i =>
      rw [altOk, Bool.and_eq_true] at h
      rw [List.take_succ_cons, altOk, Bool.and_eq_true]
      exact ⟨h.1, ih h.2 i⟩
theorem LogOk.alt_at {revs : List Rev} {p : ByteArray} (h : LogOk revs p) (i : Nat) (hi : i < (logOf revs p).length) : addA (logOf revs p)[i].act = !liveAt (logOf revs p) i := by
  have := altOk_take h.alt (i + 1)
  rw [List.take_succ_eq_append_getElem hi, altOk_snoc, Bool.and_eq_true] at this
  have := this.2
  rw [beq_iff_eq] at this
  exact this
theorem LogOk.chg_at {revs : List Rev} {p : ByteArray} (h : LogOk revs p) (i : Nat) (hi : i < (logOf revs p).length) : chgAt (logOf revs p) i < (logOf revs p)[i].chg := by
  unfold chgAt
  cases hg : ((logOf revs p).take i).getLast? with
  | none => exact h.pos _ (List.getElem_mem _)
  | some v =>
    rw [List.getLast?_eq_getElem?, List.length_take, Nat.min_eq_left (by omega)] at hg
    have h0 : i ≠ 0 := by rintro rfl; simp at hg
    rw [List.getElem?_take_of_lt (by omega), List.getElem?_eq_getElem (by omega)] at hg
    injection hg with hg
    subst hg
    exact List.pairwise_iff_getElem.1 h.chg _ _ _ _ (by omega)
theorem greatest_some {revs : List Rev} {q : ByteArray} {p : Rev → Bool} {v : Rev} (hv : v ∈ revs) (h1 : v.path = q) (h2 : p v = true) : ∃ x, greatest revs q p = some x := by
  suffices H : ∀ (l : List Rev) (o : Option Rev), (o.isSome = true ∨ v ∈ l) → (l.foldl (fun o r => if r.path = q ∧ p r = true then (match o with
    | none => some r
    | some b => if b.num < r.num then some r else some b) else o) o).isSome = true by
    have := H revs none (.inr hv)
    exact Option.isSome_iff_exists.1 this
  intro l
  induction l with
  | nil => intro o h; rcases h with h | h
           · exact h
           · cases h
  | cons x l ih =>
    intro o h
    rw [List.foldl_cons]
    apply ih
    rcases h with h | h
    · left
      cases o with
      | none => cases h
      | some b => dsimp only; split
                  · split <;> rfl
                  · rfl
    · rcases List.mem_cons.1 h with rfl | h
      · left
        rw [if_pos ⟨h1, h2⟩]
        cases o with
        | none => rfl
        | some b => dsimp only; split <;> rfl
      · exact .inr h
theorem LogOk.uniq {revs : List Rev} {p : ByteArray} (h : LogOk revs p) {a b : Rev} (ha : a ∈ revs) (hb : b ∈ revs) (h1 : a.path = p) (h2 : b.path = p) (hn : a.num = b.num) : a = b := by
  obtain ⟨i, hi, rfl⟩ := List.mem_iff_getElem.1 (mem_log.2 ⟨ha, h1⟩)
  obtain ⟨j, hj, rfl⟩ := List.mem_iff_getElem.1 (mem_log.2 ⟨hb, h2⟩)
  rw [h.num i hi, h.num j hj] at hn
  have : i = j := by omega
  subst this; rfl
theorem LogOk.get {revs : List Rev} {p : ByteArray} (h : LogOk revs p) {v : Rev} (hv : v ∈ revs) (hp : v.path = p) : greatest revs p (fun r => decide (r.num = v.num)) = some v := by
  obtain ⟨x, hx⟩ := greatest_some (p := fun r => decide (r.num = v.num)) hv hp (by simp)
  obtain ⟨g1, g2, g3⟩ := greatest_mem hx
  rw [hx, h.uniq g1 hv g2 hp (by simpa using g3)]
theorem LogOk.sorted {revs : List Rev} {p : ByteArray} (h : LogOk revs p) : (logOf revs p).Pairwise (fun a b => a.num < b.num) := by
  rw [List.pairwise_iff_getElem]
  intro i j hi hj hij
  rw [h.num i hi, h.num j hj]; omega
/-- A list in another order, sorted by numbers, is the log itself. -/
theorem LogOk.sort_eq {revs : List Rev} {p : ByteArray} (h : LogOk revs p) {l : List Rev} (hp : l.Perm (logOf revs p)) (hs : l.Pairwise (fun a b => a.num ≤ b.num)) : l = logOf revs p := by
  refine List.Perm.eq_of_pairwise (le := fun a b : Rev => a.num ≤ b.num) ?_ hs (h.sorted.imp fun hab => Int.le_of_lt hab) hp
  intro a b ha hb h1 h2
  obtain ⟨a1, a2⟩ := mem_log.1 (hp.mem_iff.1 ha)
  obtain ⟨b1, b2⟩ := mem_log.1 hb
  exact h.uniq a1 b1 a2 b2 (by omega)
end Go.Proofs.YtnblfaagchflaaaDoor
