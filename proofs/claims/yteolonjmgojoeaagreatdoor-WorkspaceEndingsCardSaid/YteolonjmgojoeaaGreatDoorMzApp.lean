/- history.Append. -/
import Derived.Test.YteolonjmgojoeaaGreatDoorMzNewC
import Derived.Test.YteolonjmgojoeaaGreatDoorMgw4
import Derived.Test.YteolonjmgojoeaaGreatDoorMzAp13
namespace Go.Proofs.YteolonjmgojoeaaGreatDoor
open Go.RowKit
set_option linter.unusedVariables false
set_option linter.unusedSimpArgs false

set_option maxRecDepth 100000 in
set_option maxHeartbeats 8000000 in
theorem append_any (d : Dep) (c : Chg) (dv dr ev rv : Value) (w : World) (hR : Revs w dv d.revs) (hQ : Rcds w dr d.recs) (hE : Edts w ev c.edits) (hC : Rcds w rv c.recs) (hD : DepW d) (hW : ChgW c) :
    Calls Tryz.prog 8 #[.agg #[dv, dr], .agg #[.int .i64 c.num, .string c.client, .string c.text, ev, rv]] w (ApPost w d c) := by
  obtain ⟨Av, cv, rfl, -⟩ := id hR
  obtain ⟨Aq, cq, rfl, -⟩ := id hQ
  obtain ⟨Ae, ce, rfl, -⟩ := id hE
  obtain ⟨Ac, cc, rfl, -⟩ := id hC
  obtain ⟨dv, hdv⟩ : ∃ v, v = Value.slice Av d.revs.length cv := ⟨_, rfl⟩
  obtain ⟨dr, hdr⟩ : ∃ v, v = Value.slice Aq d.recs.length cq := ⟨_, rfl⟩
  obtain ⟨ev, hev⟩ : ∃ v, v = Value.slice Ae c.edits.length ce := ⟨_, rfl⟩
  obtain ⟨rv, hrv⟩ : ∃ v, v = Value.slice Ac c.recs.length cc := ⟨_, rfl⟩
  rw [← hdv] at hR ⊢
  rw [← hdr] at hQ ⊢
  rw [← hev] at hE ⊢
  rw [← hrv] at hC ⊢
  have HDV := Lib.hid hdv
  have HDR := Lib.hid hdr
  have HEV := Lib.hid hev
  have HRV := Lib.hid hrv
  clear hdv hdr hev hrv
  obtain ⟨W1, hW1⟩ : ∃ W, W = ((w.alloc (.cells #[dv, dr] 48)).alloc (.cells #[.int .i64 c.num, .string c.client, .string c.text, ev, rv] 57)).alloc (.cells #[.slice none 0 0, .slice none 0 0] 48) := ⟨_, rfl⟩
  have hb1 : Below w.heap.size w W1 := by rw [hW1]; exact (((Below.refl _ _).alloc (Nat.le_refl _) _).alloc (by simp) _).alloc (by simp; omega) _
  have hs1 : W1.heap.size = w.heap.size + 1 + 1 + 1 := by rw [hW1]; simp
  have hB1 : Blk W1 w.heap.size 48 [dv, dr] := by rw [hW1]; exact ((blk_new w _ _).alloc _).alloc _
  have hB2 : Blk W1 (w.heap.size + 1) 57 [.int .i64 c.num, .string c.client, .string c.text, ev, rv] := by
    rw [hW1]
    have := blk_new (w.alloc (.cells #[dv, dr] 48)) [.int .i64 c.num, .string c.client, .string c.text, ev, rv] 57
    simp only [World.size_alloc] at this
    exact this.alloc _
  have hB3 : Blk W1 (w.heap.size + 1 + 1) 48 [.slice none 0 0, .slice none 0 0] := by
    rw [hW1]
    have := blk_new ((w.alloc (.cells #[dv, dr] 48)).alloc (.cells #[.int .i64 c.num, .string c.client, .string c.text, ev, rv] 57)) [.slice none 0 0, .slice none 0 0] 48
    simp only [World.size_alloc] at this
    exact this
  have HW1 := Lib.hid hW1
  have HNC := Lib.hid (newCheck_any d.revs c dv dr ev rv W1 (hR.below hb1) (by have := hD.len; omega) (fun r hr => by have := hD.num r hr; have := hD.len; omega))
  have HNR := Lib.hid (show Revs w dv d.revs ∧ Rcds w dr d.recs ∧ Edts w ev c.edits ∧ Rcds w rv c.recs from ⟨hR, hQ, hE, hC⟩)
  have HD := Lib.hid hD
  have HW := Lib.hid hW
  clear hW1 hR hQ hE hC hD hW
  go_enter Tryz.func8, Tryz.ntmps8
  obtain ⟨c0, c1, -, -⟩ := box2 hB1
  obtain ⟨d0, d1, d2, d3, d4⟩ := box5 hB2
  go_upto_region 1 with fail
  rw [← HW1.out]
  go_wp2_with fail
  refine HNC.out.mono ?_
  rintro e w2 ⟨g, b, rfl, hb2, hbb, hn⟩
  have hk2 : Hid _ := hn
  clear c0 c1 d0 d1 d2 d3 d4 hn
  go_wp2_with fail
  refine (steps_any g w2).mono ?_
  rintro e w3 ⟨rfl, hb3, hs3⟩
  have HST : Hid (ApSt w w3 d c dv dr ev rv g b w.heap.size (w.heap.size + 1) (w.heap.size + 1 + 1) w2.heap.size (some fun _ => none)) := Lib.hid (by
    obtain ⟨k1, k2, k3, k4⟩ := hk2.out
    have hb12 := hb2
    have hb13 : Below W1.heap.size W1 w3 := below_next hb12 hb3
    have hbw : Below w.heap.size w w3 := below_next hb1 hb13
    exact ⟨hbw, by omega, by omega, Blk.below k1 hb3 (Blk.lt k1), FMap.below k2 hb3, fun f e => by injection e with e; subst e; exact FMap.below k3 hb3, FMap.below k4 hb3, hB1.below hb13 hB1.lt, hB2.below hb13 hB2.lt, hB3.below hb13 hB3.lt, hs3, HNR.out.1.below hbw, HNR.out.2.1.below hbw, HNR.out.2.2.1.below hbw, HNR.out.2.2.2.below hbw⟩)
  clear hb2 hbb hk2 hb3 hs3 hB1 hB2 hB3 hb1 hs1
  generalize w2.heap.size = gs at HST ⊢
  go_wp2_with fail
  refine wp_loop_rounds 6 ?_
  rw [rounds_succ]
  have FAIL : ∀ (W : World) (n : Int), Below w.heap.size w W → n ≠ 0 → appE d c = n → ApPost w d c (.returned (.tuple #[.agg #[.slice none 0 0, .slice none 0 0], .int .i64 n])) W := fun W n hb hn he => ⟨hb, .inl ⟨by rw [he]; exact hn, by rw [he]⟩⟩
  have HF := Lib.hid FAIL
  clear FAIL
  have t0 : w3.cell? ⟨gs, 0, none⟩ = some (.func (.func 32) #[.pointer (some ⟨g, 0, none⟩)] #[]) := HST.out.stp.cell 0
  have HZ0 := Lib.hid (size_any d.revs c g dv dr ev rv b (b + 1) (b + 1 + 1) w3 HST.out.chk HST.out.revs HST.out.eds HST.out.rcs)
  obtain ⟨e0, he0⟩ : ∃ x, sizeE d.revs c = x := ⟨_, rfl⟩
  rw [he0] at HZ0
  have HE0 := Lib.hid he0
  clear he0
  go_wp2_with fail
  refine HZ0.out.mono ?_
  rintro e v0 ⟨rfl, hv⟩
  clear t0 HZ0
  by_cases h0 : e0 = 0
  case neg =>
    have q : (e0 != 0) = true := by simpa using h0
    have HA : Hid (appE d c = e0) := Lib.hid (by unfold appE; rw [ HE0.out, firstE_ne h0])
    have HN := Lib.hid h0
    have hbx := (HST.out.below hv).bel
    have hR4 := (HST.out.below hv).boxR
    have HBX := Lib.hid hbx
    clear h0 hbx hv HST
    obtain ⟨r0, r1, f0, f1⟩ := box2 hR4
    go_wp2_with fail
    have hR5 := (hR4.set_ 0 (.slice none 0 0)).set_ 1 (.slice none 0 0)
    have hB5 := (HBX.out.setCell (p := ⟨w.heap.size + 1 + 1, 0, none⟩) (by simp; omega) (.slice none 0 0)).setCell (p := ⟨w.heap.size + 1 + 1, 1, none⟩) (by simp; omega) (.slice none 0 0)
    clear r0 r1 f0 f1 hR4
    generalize (v0.setCell ⟨w.heap.size + 1 + 1, 0, none⟩ (.slice none 0 0)).setCell ⟨w.heap.size + 1 + 1, 1, none⟩ (.slice none 0 0) = W5 at hR5 hB5 ⊢
    obtain ⟨r0, r1, -, -⟩ := box2 hR5
    refine bodyPost_ret (v := .tuple #[.agg #[.slice none 0 0, .slice none 0 0], .int .i64 e0]) (by simp [results, Tryz.results8, go_sem, r0, r1]) rfl (HF.out W5 e0 hB5 HN.out HA.out)
  subst h0
  have HV0 : Hid ((0 : Int) = 0) := Lib.hid rfl
  have HS0 := Lib.hid (HST.out.below hv)
  clear hv HST HV0
  go_wp2_with fail
  rw [rounds_succ]
  have t1 : v0.cell? ⟨gs, 1, none⟩ = some (.func (.func 33) #[.pointer (some ⟨g, 0, none⟩)] #[]) := HS0.out.stp.cell 1
  have HZ1 := Lib.hid (everyEdit_any (lastOf d.revs) c.edits g dv dr ev rv c.num c.client c.text b (b + 1) (b + 1 + 1) v0 HS0.out.chk HS0.out.last (by omega) HS0.out.eds (HS0.out.edits _ rfl) (by have := HW.out.len; omega) (fun x hx => by have := HW.out.path x hx; omega))
  obtain ⟨e1, he1⟩ : ∃ x, everyE (lastOf d.revs) emptyS c.edits = x := ⟨_, rfl⟩
  rw [he1] at HZ1
  have HE1 := Lib.hid he1
  clear he1
  go_wp2_with fail
  refine HZ1.out.mono ?_
  rintro e v1 ⟨rfl, hv⟩
  clear t1 HZ1
  by_cases h1 : e1 = 0
  case neg =>
    have q : (e1 != 0) = true := by simpa using h1
    have HA : Hid (appE d c = e1) := Lib.hid (by unfold appE; rw [HE0.out, firstE_skip,  HE1.out, firstE_ne h1])
    have HN := Lib.hid h1
    have hbx := (HS0.out.every' hv).1
    have hR4 := (HS0.out.every' hv).2
    have HBX := Lib.hid hbx
    clear h1 hbx hv HS0
    obtain ⟨r0, r1, f0, f1⟩ := box2 hR4
    go_wp2_with fail
    have hR5 := (hR4.set_ 0 (.slice none 0 0)).set_ 1 (.slice none 0 0)
    have hB5 := (HBX.out.setCell (p := ⟨w.heap.size + 1 + 1, 0, none⟩) (by simp; omega) (.slice none 0 0)).setCell (p := ⟨w.heap.size + 1 + 1, 1, none⟩) (by simp; omega) (.slice none 0 0)
    clear r0 r1 f0 f1 hR4
    generalize (v1.setCell ⟨w.heap.size + 1 + 1, 0, none⟩ (.slice none 0 0)).setCell ⟨w.heap.size + 1 + 1, 1, none⟩ (.slice none 0 0) = W5 at hR5 hB5 ⊢
    obtain ⟨r0, r1, -, -⟩ := box2 hR5
    refine bodyPost_ret (v := .tuple #[.agg #[.slice none 0 0, .slice none 0 0], .int .i64 e1]) (by simp [results, Tryz.results8, go_sem, r0, r1]) rfl (HF.out W5 e1 hB5 HN.out HA.out)
  subst h1
  have HV1 : Hid ((0 : Int) = 0) := Lib.hid rfl
  have HS1 := Lib.hid (HS0.out.every hv HV1.out)
  clear hv HS0 HV1
  go_wp2_with fail
  rw [rounds_succ]
  have t2 : v1.cell? ⟨gs, 2, none⟩ = some (.func (.func 34) #[.pointer (some ⟨g, 0, none⟩)] #[]) := HS1.out.stp.cell 2
  have HZ2 := Lib.hid (moves_any c.edits g dv dr ev rv c.num c.client c.text b (b + 1) (b + 1 + 1) v1 HS1.out.chk HS1.out.eds (HS1.out.edits _ rfl) (by have := HW.out.len; omega))
  obtain ⟨e2, he2⟩ : ∃ x, movesE c.edits = x := ⟨_, rfl⟩
  rw [he2] at HZ2
  have HE2 := Lib.hid he2
  clear he2
  go_wp2_with fail
  refine HZ2.out.mono ?_
  rintro e v2 ⟨rfl, hv⟩
  clear t2 HZ2
  by_cases h2 : e2 = 0
  case neg =>
    have q : (e2 != 0) = true := by simpa using h2
    have HA : Hid (appE d c = e2) := Lib.hid (by unfold appE; rw [HE0.out, firstE_skip, HE1.out, firstE_skip,  HE2.out, firstE_ne h2])
    have HN := Lib.hid h2
    have hbx := (HS1.out.below hv).bel
    have hR4 := (HS1.out.below hv).boxR
    have HBX := Lib.hid hbx
    clear h2 hbx hv HS1
    obtain ⟨r0, r1, f0, f1⟩ := box2 hR4
    go_wp2_with fail
    have hR5 := (hR4.set_ 0 (.slice none 0 0)).set_ 1 (.slice none 0 0)
    have hB5 := (HBX.out.setCell (p := ⟨w.heap.size + 1 + 1, 0, none⟩) (by simp; omega) (.slice none 0 0)).setCell (p := ⟨w.heap.size + 1 + 1, 1, none⟩) (by simp; omega) (.slice none 0 0)
    clear r0 r1 f0 f1 hR4
    generalize (v2.setCell ⟨w.heap.size + 1 + 1, 0, none⟩ (.slice none 0 0)).setCell ⟨w.heap.size + 1 + 1, 1, none⟩ (.slice none 0 0) = W5 at hR5 hB5 ⊢
    obtain ⟨r0, r1, -, -⟩ := box2 hR5
    refine bodyPost_ret (v := .tuple #[.agg #[.slice none 0 0, .slice none 0 0], .int .i64 e2]) (by simp [results, Tryz.results8, go_sem, r0, r1]) rfl (HF.out W5 e2 hB5 HN.out HA.out)
  subst h2
  have HV2 : Hid ((0 : Int) = 0) := Lib.hid rfl
  have HS2 := Lib.hid (HS1.out.below hv)
  clear hv HS1 HV2
  go_wp2_with fail
  rw [rounds_succ]
  have t3 : v2.cell? ⟨gs, 3, none⟩ = some (.func (.func 35) #[.pointer (some ⟨g, 0, none⟩)] #[]) := HS2.out.stp.cell 3
  have HZ3 := Lib.hid (records_any d.revs c g dv dr ev rv b (b + 1) (b + 1 + 1) v2 HS2.out.chk HS2.out.revs HS2.out.last (HS2.out.edits _ rfl) HS2.out.lines HS2.out.rcs (by have := HD.out.len; omega) (by have := HW.out.rlen; omega) HW.out.rec_ (fun p => (HD.out.lastNum p).1) (fun p => by have := (HD.out.lastNum p).2; have := HD.out.len; omega) (appE_bases HD.out HE1.out))
  obtain ⟨e3, he3⟩ : ∃ x, recsE d.revs c = x := ⟨_, rfl⟩
  rw [he3] at HZ3
  have HE3 := Lib.hid he3
  clear he3
  go_wp2_with fail
  refine HZ3.out.mono ?_
  rintro e v3 ⟨rfl, hv⟩
  clear t3 HZ3
  by_cases h3 : e3 = 0
  case neg =>
    have q : (e3 != 0) = true := by simpa using h3
    have HA : Hid (appE d c = e3) := Lib.hid (by unfold appE; rw [HE0.out, firstE_skip, HE1.out, firstE_skip, HE2.out, firstE_skip,  HE3.out, firstE_ne h3])
    have HN := Lib.hid h3
    have hbx := (HS2.out.below hv).bel
    have hR4 := (HS2.out.below hv).boxR
    have HBX := Lib.hid hbx
    clear h3 hbx hv HS2
    obtain ⟨r0, r1, f0, f1⟩ := box2 hR4
    go_wp2_with fail
    have hR5 := (hR4.set_ 0 (.slice none 0 0)).set_ 1 (.slice none 0 0)
    have hB5 := (HBX.out.setCell (p := ⟨w.heap.size + 1 + 1, 0, none⟩) (by simp; omega) (.slice none 0 0)).setCell (p := ⟨w.heap.size + 1 + 1, 1, none⟩) (by simp; omega) (.slice none 0 0)
    clear r0 r1 f0 f1 hR4
    generalize (v3.setCell ⟨w.heap.size + 1 + 1, 0, none⟩ (.slice none 0 0)).setCell ⟨w.heap.size + 1 + 1, 1, none⟩ (.slice none 0 0) = W5 at hR5 hB5 ⊢
    obtain ⟨r0, r1, -, -⟩ := box2 hR5
    refine bodyPost_ret (v := .tuple #[.agg #[.slice none 0 0, .slice none 0 0], .int .i64 e3]) (by simp [results, Tryz.results8, go_sem, r0, r1]) rfl (HF.out W5 e3 hB5 HN.out HA.out)
  subst h3
  have HV3 : Hid ((0 : Int) = 0) := Lib.hid rfl
  have HS3 := Lib.hid (HS2.out.below hv)
  clear hv HS2 HV3
  go_wp2_with fail
  rw [rounds_succ]
  have t4 : v3.cell? ⟨gs, 4, none⟩ = some (.func (.func 36) #[.pointer (some ⟨g, 0, none⟩)] #[]) := HS3.out.stp.cell 4
  have HZ4 := Lib.hid (room_any d c g dv dr ev rv b (b + 1) (b + 1 + 1) v3 HS3.out.chk HS3.out.revs HS3.out.recs HS3.out.eds HS3.out.rcs (by have := HD.out.len; omega) (by have := HD.out.rlen; omega) (by have := HW.out.len; omega) (by have := HW.out.rlen; omega))
  obtain ⟨e4, he4⟩ : ∃ x, roomE d c = x := ⟨_, rfl⟩
  rw [he4] at HZ4
  have HE4 := Lib.hid he4
  clear he4
  go_wp2_with fail
  refine HZ4.out.mono ?_
  rintro e v4 ⟨rfl, hv⟩
  clear t4 HZ4
  by_cases h4 : e4 = 0
  case neg =>
    have q : (e4 != 0) = true := by simpa using h4
    have HA : Hid (appE d c = e4) := Lib.hid (by unfold appE; rw [HE0.out, firstE_skip, HE1.out, firstE_skip, HE2.out, firstE_skip, HE3.out, firstE_skip,  HE4.out, firstE_ne h4])
    have HN := Lib.hid h4
    have hbx := (HS3.out.below hv).bel
    have hR4 := (HS3.out.below hv).boxR
    have HBX := Lib.hid hbx
    clear h4 hbx hv HS3
    obtain ⟨r0, r1, f0, f1⟩ := box2 hR4
    go_wp2_with fail
    have hR5 := (hR4.set_ 0 (.slice none 0 0)).set_ 1 (.slice none 0 0)
    have hB5 := (HBX.out.setCell (p := ⟨w.heap.size + 1 + 1, 0, none⟩) (by simp; omega) (.slice none 0 0)).setCell (p := ⟨w.heap.size + 1 + 1, 1, none⟩) (by simp; omega) (.slice none 0 0)
    clear r0 r1 f0 f1 hR4
    generalize (v4.setCell ⟨w.heap.size + 1 + 1, 0, none⟩ (.slice none 0 0)).setCell ⟨w.heap.size + 1 + 1, 1, none⟩ (.slice none 0 0) = W5 at hR5 hB5 ⊢
    obtain ⟨r0, r1, -, -⟩ := box2 hR5
    refine bodyPost_ret (v := .tuple #[.agg #[.slice none 0 0, .slice none 0 0], .int .i64 e4]) (by simp [results, Tryz.results8, go_sem, r0, r1]) rfl (HF.out W5 e4 hB5 HN.out HA.out)
  subst h4
  have HV4 : Hid ((0 : Int) = 0) := Lib.hid rfl
  have HS4 := Lib.hid (HS3.out.below hv)
  clear hv HS3 HV4
  go_wp2_with fail
  rw [rounds_succ]
  have HA : Hid (appE d c = 0) := Lib.hid (by unfold appE; rw [HE0.out, firstE_skip, HE1.out, firstE_skip, HE2.out, firstE_skip, HE3.out, firstE_skip, HE4.out, firstE_skip]; rfl)
  have HG := Lib.hid (appE_goods HD.out HW.out HE1.out HE3.out)
  clear HE0 HE1 HE2 HE3 HE4
  go_upto_region 9 with fail
  generalize v4 = V at HS4 ⊢
  clear HNC HW1
  have HCL := Lib.hid (fun X (hX : Below V.heap.size V X) => clone_own d.revs dv V X hX (HS4.out.revs.below hX) (by have := HD.out.len; omega))
  have HCC := Lib.hid (fun X gq (hX : Below V.heap.size V X) (hq : Blk X gq 46 [dr, rv]) => concat_own d.recs c.recs dr rv gq V X hX hq (HS4.out.recs.below hX) (HS4.out.rcs.below hX) (by have := HD.out.rlen; omega) (by have := HW.out.rlen; omega))
  have hkc : ∀ w', Below V.heap.size V w' → w'.cell? ⟨w.heap.size, 0, none⟩ = some dv ∧ w'.cell? ⟨w.heap.size, 1, none⟩ = some dr ∧ w'.cell? ⟨w.heap.size + 1, 4, none⟩ = some rv := fun w' hb =>
    ⟨(HS4.out.below hb).boxD.cell 0, (HS4.out.below hb).boxD.cell 1, (HS4.out.below hb).boxC.cell 4⟩
  have HC := Lib.hid hkc
  clear hkc
  go_cut [10] (fun s10 wx => ∃ (g10 : Nat) (v1 v2 : Value), s10 = .pointer (some ⟨g10, 0, none⟩) ∧ Hid (ApR V wx g10 v1 v2 d.revs.length (d.recs.length + c.recs.length) (d.revs.flatMap Rev.cells) ((d.recs ++ c.recs).flatMap Rcd.cells)))
  case first => as_aux_lemma =>
    rw [HDV.out] at HC HCL
    rw [HDR.out, HRV.out] at HC HCC
    go_region_held3 (fun w' => Below V.heap.size V w' ∧ w'.cell? ⟨w.heap.size, 0, none⟩ = some (.slice Av d.revs.length cv) ∧ w'.cell? ⟨w.heap.size, 1, none⟩ = some (.slice Aq d.recs.length cq) ∧ w'.cell? ⟨w.heap.size + 1, 4, none⟩ = some (.slice Ac c.recs.length cc))
      ((refine and_of ?_ (HC.out _); repeat (first | with_reducible assumption | with_reducible exact Below.refl _ _ | with_reducible refine Below.drew ?_ | with_reducible refine below_alloc' ?_ _ | refine Below.setCell ?_ (by first | exact hS6.size | (have := hS6.size; simp; omega) | (have := hS5.size; simp; omega) | (simp; done)) _)))
      (first
        | (go_at_call 15; refine (HCL.out _ ?_).mono ?_; (repeat (first | with_reducible exact Below.refl _ _ | with_reducible refine Below.drew ?_ | with_reducible refine below_alloc' ?_ _)); rintro e w5 ⟨A5, c5, rfl, hS5, hO5, hX5⟩)
        | (go_at_call 16; refine (HCC.out _ _ ?_ ?_).mono ?_; (repeat (first | with_reducible assumption | with_reducible refine Below.drew ?_ | with_reducible refine below_alloc' ?_ _)); (first | with_reducible exact blk_new _ _ _ | with_reducible exact blk_at (World.size_alloc _ _).symm | with_reducible exact Blk.alloc (blk_new _ _ _) _ | with_reducible exact Blk.below' (blk_new _ _ _) hX5 | with_reducible exact Blk.alloc (Blk.below' (blk_new _ _ _) hX5) _ | with_reducible exact Blk.below' (Blk.drew' (blk_new _ _ _)) hX5 | with_reducible exact Blk.alloc (Blk.below' (Blk.drew' (blk_new _ _ _)) hX5) _ | with_reducible exact Blk.below' (blk_at (World.size_alloc _ _).symm) hX5 | with_reducible exact Blk.alloc (Blk.below' (blk_at (World.size_alloc _ _).symm) hX5) _ | with_reducible exact Blk.below' (Blk.drew' (blk_at (World.size_alloc _ _).symm)) hX5 | with_reducible exact Blk.alloc (Blk.below' (Blk.drew' (blk_at (World.size_alloc _ _).symm)) hX5) _ | with_reducible exact Blk.below' (Blk.alloc (blk_new _ _ _) _) hX5 | with_reducible exact Blk.alloc (Blk.below' (Blk.alloc (blk_new _ _ _) _) hX5) _ | with_reducible exact Blk.below' (Blk.drew' (Blk.alloc (blk_new _ _ _) _)) hX5 | with_reducible exact Blk.alloc (Blk.below' (Blk.drew' (Blk.alloc (blk_new _ _ _) _)) hX5) _ | exact blk_new _ _ _ | exact blk_at (World.size_alloc _ _).symm | exact Blk.alloc (blk_new _ _ _) _ | exact Blk.below' (blk_new _ _ _) hX5 | exact Blk.alloc (Blk.below' (blk_new _ _ _) hX5) _ | exact Blk.below' (Blk.drew' (blk_new _ _ _)) hX5 | exact Blk.alloc (Blk.below' (Blk.drew' (blk_new _ _ _)) hX5) _ | exact Blk.below' (blk_at (World.size_alloc _ _).symm) hX5 | exact Blk.alloc (Blk.below' (blk_at (World.size_alloc _ _).symm) hX5) _ | exact Blk.below' (Blk.drew' (blk_at (World.size_alloc _ _).symm)) hX5 | exact Blk.alloc (Blk.below' (Blk.drew' (blk_at (World.size_alloc _ _).symm)) hX5) _ | exact Blk.below' (Blk.alloc (blk_new _ _ _) _) hX5 | exact Blk.alloc (Blk.below' (Blk.alloc (blk_new _ _ _) _) hX5) _ | exact Blk.below' (Blk.drew' (Blk.alloc (blk_new _ _ _) _)) hX5 | exact Blk.alloc (Blk.below' (Blk.drew' (Blk.alloc (blk_new _ _ _) _)) hX5) _); rintro e w6 ⟨A6, c6, rfl, hS6, hO6, hX6⟩; (first | (have hB10 := Blk.below' (blk_new _ [.slice none 0 0, .slice none 0 0] 48) hX6; (try simp only [World.size_alloc] at hB10); obtain ⟨r0, r1, f0, f1⟩ := box2 hB10) | (have hB10 := Blk.below' (Blk.alloc (blk_new _ [.slice none 0 0, .slice none 0 0] 48) _) hX6; (try simp only [World.size_alloc] at hB10); obtain ⟨r0, r1, f0, f1⟩ := box2 hB10) | (have hB10 := Blk.below' (Blk.below' (blk_new _ [.slice none 0 0, .slice none 0 0] 48) hX5) hX6; (try simp only [World.size_alloc] at hB10); obtain ⟨r0, r1, f0, f1⟩ := box2 hB10) | (have hB10 := Blk.below' (Blk.alloc (Blk.below' (blk_new _ [.slice none 0 0, .slice none 0 0] 48) hX5) _) hX6; (try simp only [World.size_alloc] at hB10); obtain ⟨r0, r1, f0, f1⟩ := box2 hB10) | (have hB10 := Blk.below' (Blk.below' (Blk.drew' (blk_new _ [.slice none 0 0, .slice none 0 0] 48)) hX5) hX6; (try simp only [World.size_alloc] at hB10); obtain ⟨r0, r1, f0, f1⟩ := box2 hB10) | (have hB10 := Blk.below' (Blk.alloc (Blk.below' (Blk.drew' (blk_new _ [.slice none 0 0, .slice none 0 0] 48)) hX5) _) hX6; (try simp only [World.size_alloc] at hB10); obtain ⟨r0, r1, f0, f1⟩ := box2 hB10) | (have hB10 := Blk.below' (Blk.below' (Blk.alloc (blk_new _ [.slice none 0 0, .slice none 0 0] 48) _) hX5) hX6; (try simp only [World.size_alloc] at hB10); obtain ⟨r0, r1, f0, f1⟩ := box2 hB10) | (have hB10 := Blk.below' (Blk.alloc (Blk.below' (Blk.alloc (blk_new _ [.slice none 0 0, .slice none 0 0] 48) _) hX5) _) hX6; (try simp only [World.size_alloc] at hB10); obtain ⟨r0, r1, f0, f1⟩ := box2 hB10) | (have hB10 := Blk.below' (Blk.below' (Blk.drew' (Blk.alloc (blk_new _ [.slice none 0 0, .slice none 0 0] 48) _)) hX5) hX6; (try simp only [World.size_alloc] at hB10); obtain ⟨r0, r1, f0, f1⟩ := box2 hB10) | (have hB10 := Blk.below' (Blk.alloc (Blk.below' (Blk.drew' (Blk.alloc (blk_new _ [.slice none 0 0, .slice none 0 0] 48) _)) hX5) _) hX6; (try simp only [World.size_alloc] at hB10); obtain ⟨r0, r1, f0, f1⟩ := box2 hB10) | skip)))
    all_goals
      first
        | (have hq := apR_of (V := V) (by repeat (first | with_reducible exact Below.refl _ _ | with_reducible refine Below.drew ?_ | with_reducible refine below_alloc' ?_ _)) hX5 (by repeat (first | with_reducible exact Below.refl _ _ | with_reducible refine Below.drew ?_ | with_reducible refine below_alloc' ?_ _)) hX6 (Below.refl _ _) hO5 hO6 hB10 (by simp only [drew_heap, World.size_alloc]; omega)
           clear r0 r1 f0 f1 hB10 hO5 hO6 hX5 hX6 hS5 hS6
           go_wp2_with fail
           go_meet
           exact ⟨_, _, _, rfl, hq⟩)
        | (have hq := apR_of2 (V := V) (by repeat (first | with_reducible exact Below.refl _ _ | with_reducible refine Below.drew ?_ | with_reducible refine below_alloc' ?_ _)) hX5 (by repeat (first | with_reducible exact Below.refl _ _ | with_reducible refine Below.drew ?_ | with_reducible refine below_alloc' ?_ _)) hX6 hO5 hO6
           clear hO5 hO6 hX5 hX6 hS5 hS6
           go_wp2_with fail
           go_meet
           exact ⟨_, _, _, rfl, hq⟩)
  case rest => as_aux_lemma =>
    obtain ⟨g10, v1, v2, rfl, HR⟩ := hcut
    clear HCL HCC HC HF
    have e3 : wc.cell? ⟨w.heap.size + 1, 3, none⟩ = some ev := (HS4.out.below HR.out.bel).boxC.cell 3
    rw [HEV.out] at e3
    obtain ⟨B, hB⟩ : ∃ B, B = V.heap.size := ⟨_, rfl⟩
    go_wp2_with fail
    clear e3
    go_loopw [43] (fun s wr => ∃ (k : Nat) (v1 : Value), s = .int .i64 k ∧ k ≤ c.edits.length ∧ Hid (ApR V wr g10 v1 v2 (d.revs.length + k) (d.recs.length + c.recs.length) ((d.revs ++ (c.edits.take k).map (madeR (lastOf d.revs) c.num)).flatMap Rev.cells) ((d.recs ++ c.recs).flatMap Rcd.cells))) (fun s _ => c.edits.length - (intOf s).toNat)
    case atStart => exact ⟨0, v1, rfl, Nat.zero_le _, by have := HR.out; rw [List.take_zero, List.map_nil, List.append_nil, Nat.add_zero]; exact this⟩
    case round =>
      obtain ⟨k, v1, rfl, hk, HK⟩ := hrel
      by_cases hlt : k < c.edits.length
      · have hEa := (HS4.out.below HK.out.bel).eds
        rw [HEV.out] at hEa
        obtain ⟨ad, rfl, hab, hld⟩ := Edts.at_ hEa hlt
        have HT := Lib.hid (show c.edits.take (k + 1) = c.edits.take k ++ [c.edits[k]] from List.take_succ_eq_append_getElem hlt)
        have hxm := HD.out.lastNum c.edits[k].path
        generalize c.edits[k] = x at hld HT hxm
        obtain ⟨x0, x1, x2, x3, x4, x5, x6, x7, x8, x9, x10, x11⟩ := hld
        have hX1 := blk_new wr [.string x.path, .int .i64 x.act, .int .i64 x.ty.base, .bool x.ty.k, .bool x.ty.l, .bool x.ty.x, .int .u64 x.sum, .int .i64 x.size, .int .i64 x.base, .string x.frm, .int .i64 x.fnum, .int .i64 x.fence] 54
        have hA1 : Below wr.heap.size wr (wr.alloc (.cells #[.string x.path, .int .i64 x.act, .int .i64 x.ty.base, .bool x.ty.k, .bool x.ty.l, .bool x.ty.x, .int .u64 x.sum, .int .i64 x.size, .int .i64 x.base, .string x.frm, .int .i64 x.fnum, .int .i64 x.fence] 54)) := (Below.refl _ _).alloc (Nat.le_refl _) _
        clear hEa
        go_upto_region 13 with fail
        clear x0 x1 x2 x3 x4 x5 x6 x7 x8 x9 x10 x11
        generalize wr.alloc (.cells #[.string x.path, .int .i64 x.act, .int .i64 x.ty.base, .bool x.ty.k, .bool x.ty.l, .bool x.ty.x, .int .u64 x.sum, .int .i64 x.size, .int .i64 x.base, .string x.frm, .int .i64 x.fnum, .int .i64 x.fence] 54) = V1 at hX1 hA1 ⊢
        have HRV2 := Lib.hid (fun X (hX : Below V1.heap.size V1 X) => revision_any (lastOf d.revs) x g dv dr ev rv c.num c.client c.text b (b + 1) (b + 1 + 1) X ((HS4.out.below (below_next (below_next HK.out.bel hA1) hX)).chk) ((HS4.out.below (below_next (below_next HK.out.bel hA1) hX)).last) hxm.1 (by have := HD.out.len; omega))
        have HAR := Lib.hid (HK.out.under hA1)
        have HX1 := Lib.hid hX1
        have hle1 : V.heap.size ≤ wr.heap.size := HK.out.bel.size
        have HNE : Hid (v1.ownBlock ≠ some wr.heap.size) := Lib.hid fun e => by have := HK.out.one.lt _ e; omega
        have hk2 : d.revs.length + k ≤ 100000 := by have := HD.out.len; have := HW.out.len; omega
        clear hX1
        refine region13 _ (by kernel_rfl) _ g g10 wr.heap.size (d.revs.length + k) (d.recs.length + c.recs.length) x (madeR (lastOf d.revs) c.num x) v1 v2 _ _ V V1 HAR.out HX1.out hle1 HNE.out hk2 HRV2.out _ _ _ _ _ _ _ _ _ _ _ _ _ _ _ _ _ _ _ _ _ _ _ _ _ _ _ _ _ _ _ _ _ _ _ _ _ _ _ _ _ _ _ _ _ _ _ _ _ _ _ _ _ _ _ _ _ ?_
        intro t47 t48 t49 t50 t51 t52 t53 t54 v3 w6 HQ
        go_wp2_with fail
        go_roundw
        case rel =>
          refine ⟨k + 1, v3, by go_num, by omega, ?_⟩
          have := HQ.out
          rw [HT.out, List.map_append, List.map_cons, List.map_nil, ← List.append_assoc, List.flatMap_append, List.flatMap_cons, List.flatMap_nil, List.append_nil]
          exact this
        case measure => simp [intOf]; omega
      · have hkk : k = c.edits.length := by omega
        subst hkk
        have hR2 := HK.out
        rw [List.take_length] at hR2
        obtain ⟨A1, c1, hv1⟩ := own_slice hR2.one
        obtain ⟨A2, c2, hv2⟩ := own_slice hR2.two
        subst hv1 hv2
        obtain ⟨lg, hl1, hl2, hl3⟩ := goods_list (l := d.recs ++ c.recs) (fun r hr => by
          rcases List.mem_append.1 hr with hr | hr
          · exact HD.out.rec_ r hr
          · exact HG.out r hr)
        have HSR := Lib.hid (sortStable_any lg (.slice A2 (d.recs.length + c.recs.length) c2) V.heap.size wr (by rw [hl2, hl3, List.length_append]; exact hR2.two) (by rw [hl2, List.length_append]; have := HD.out.rlen; have := HW.out.rlen; omega))
        rw [hl2, List.length_append] at HSR
        have HL1 := Lib.hid hl1
        have b1' : wr.cell? ⟨g10, 1, none⟩ = some (.slice A2 (d.recs.length + c.recs.length) c2) := hR2.box.cell 1
        have HR2 := Lib.hid hR2
        clear hl1 hl2 hl3 hR2 HK
        go_wp2_with fail
        refine HSR.out.mono ?_
        rintro e w6 ⟨rfl, l', hp, hs, ho, hgr⟩
        have hb6 : Below V.heap.size V w6 := HR2.out.bel.grown hgr HR2.out.bel.size (fun j e => (HR2.out.two.lt j e).1)
        have hbx := HR2.out.box.grown hgr (fun e => HR2.out.ne2 e.symm)
        have hon := own_grown HR2.out.one hgr (fun x e e2 => HR2.out.ne12 x e e2)
        have hre := (HS4.out.below hb6).boxR
        have hbw := (HS4.out.below hb6).bel
        have hler := (HS4.out.below hb6).ler
        have hlt6 : w.heap.size + 1 + 1 < V.heap.size := HS4.out.boxR.lt
        have hg10 := HR2.out.le
        have HP : Hid (l'.Perm lg ∧ l'.Pairwise (fun a b => 0 ≤ OkRcd.cmp b a)) := Lib.hid ⟨hp, hs⟩
        have HON := Lib.hid hon
        have HTW := Lib.hid ho
        have HBW := Lib.hid hbw
        clear b1' hp hs hon ho hbw hgr hb6
        obtain ⟨b0, b1, -, -⟩ := box2 hbx
        obtain ⟨r0, r1, f0, f1⟩ := box2 hre
        go_wp2_with fail
        have hR5 := (hre.set_ 0 (.slice A1 (d.revs.length + c.edits.length) c1)).set_ 1 (.slice A2 (d.recs.length + c.recs.length) c2)
        have hB5 := (HBW.out.setCell (p := ⟨w.heap.size + 1 + 1, 0, none⟩) (by simp; omega) (.slice A1 (d.revs.length + c.edits.length) c1)).setCell (p := ⟨w.heap.size + 1 + 1, 1, none⟩) (by simp; omega) (.slice A2 (d.recs.length + c.recs.length) c2)
        have hO5 := Row.of_own (own_setCell (own_setCell HON.out (p := ⟨w.heap.size + 1 + 1, 0, none⟩) (fun e => by have := HR2.out.one.lt _ e; simp at this; omega) (.slice A1 (d.revs.length + c.edits.length) c1)) (p := ⟨w.heap.size + 1 + 1, 1, none⟩) (fun e => by have := HR2.out.one.lt _ e; simp at this; omega) (.slice A2 (d.recs.length + c.recs.length) c2))
        have hT5 := Row.of_own (own_setCell (own_setCell HTW.out (p := ⟨w.heap.size + 1 + 1, 0, none⟩) (fun e => by have := HR2.out.two.lt _ e; simp at this; omega) (.slice A1 (d.revs.length + c.edits.length) c1)) (p := ⟨w.heap.size + 1 + 1, 1, none⟩) (fun e => by have := HR2.out.two.lt _ e; simp at this; omega) (.slice A2 (d.recs.length + c.recs.length) c2))
        clear b0 b1 r0 r1 f0 f1 hre hbx
        generalize (w6.setCell ⟨w.heap.size + 1 + 1, 0, none⟩ (.slice A1 (d.revs.length + c.edits.length) c1)).setCell ⟨w.heap.size + 1 + 1, 1, none⟩ (.slice A2 (d.recs.length + c.recs.length) c2) = W5 at hR5 hB5 hO5 hT5 ⊢
        obtain ⟨r0, r1, -, -⟩ := box2 hR5
        refine bodyPost_ret (v := .tuple #[.agg #[.slice A1 (d.revs.length + c.edits.length) c1, .slice A2 (d.recs.length + c.recs.length) c2], .int .i64 0]) (by simp [results, Tryz.results8, go_sem, r0, r1]) rfl ?_
        refine ⟨hB5, .inr ⟨HA.out, _, _, l'.map (·.1), rfl, ?_, ?_, ?_, ?_, fun x e => Nat.le_trans HS4.out.bel.size (HR2.out.one.lt x e).1, fun x e => Nat.le_trans HS4.out.bel.size (HR2.out.two.lt x e).1⟩⟩
        · unfold Revs newRevs
          rw [List.length_append, List.length_map]
          exact hO5
        · unfold Rcds
          rw [List.length_map, HP.out.1.length_eq, ← List.length_map (f := fun x : OkRcd => x.1), HL1.out, List.length_append, ← enc_list]
          exact hT5
        · have := HP.out.1.map (fun x : OkRcd => x.1)
          rw [HL1.out] at this
          exact this
        · rw [List.pairwise_map]
          exact HP.out.2
end Go.Proofs.YteolonjmgojoeaaGreatDoor
