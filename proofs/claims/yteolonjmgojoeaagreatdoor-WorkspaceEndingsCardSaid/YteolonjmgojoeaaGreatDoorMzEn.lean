/- The example of the chapter, walked. -/
import Derived.Test.YteolonjmgojoeaaGreatDoorMgw4
import Derived.Test.YteolonjmgojoeaaGreatDoorMzWsR
import Derived.Test.YteolonjmgojoeaaGreatDoorMzApp
import Derived.Test.YteolonjmgojoeaaGreatDoorMzEnP
namespace Go.Proofs.YteolonjmgojoeaaGreatDoor
open Go.RowKit
set_option linter.unusedVariables false
set_option linter.unusedSimpArgs false

set_option maxRecDepth 100000 in
set_option maxHeartbeats 8000000 in
theorem known_any (w : World) : Calls Tryz.prog 6 #[] w fun e w' => e = .returned (.bool true) ∧ Below w.heap.size w w' := by
  have kc := fun (w : World) (C : Array Value) (n c : Nat) => Lib.run_convert_bytes_const (P := Tryz.prog) w 44 5 C n c Tryz.underlying44 Tryz.underlying5
  have hA1 : Below w.heap.size w (w.alloc (.cells #[.int .u8 36, .int .u8 73, .int .u8 100, .int .u8 36] 5 (4, 5))) := (Below.refl _ _).alloc (Nat.le_refl _) _
  have hb1 : Bytes (w.alloc (.cells #[.int .u8 36, .int .u8 73, .int .u8 100, .int .u8 36] 5 (4, 5))) (.slice (some ⟨w.heap.size, 0, none⟩) 4 4) kId := kw.bytes_const w kId 5 (4, 5) (by decide)
  have hof := fpOf_any kId (.slice (some ⟨w.heap.size, 0, none⟩) 4 4) _ hb1 (by decide)
  rw [k_sum, show ((kId.length : Nat) : Int) = 4 from rfl] at hof
  have HOF := Lib.hid hof
  have HA1 := Lib.hid hA1
  clear hof hA1 hb1
  go_enter Tryz.func6, Tryz.ntmps6
  go_wp2_with fail
  refine HOF.out.mono ?_
  rintro e w2 ⟨rfl, hb2⟩
  have HB2 := Lib.hid (below_next HA1.out hb2)
  clear hb2 HOF HA1
  have hx1 := blk_new w2 [.int .u64 kSum, .int .i64 4] 42
  have hA3 : Below w.heap.size w (w2.alloc (.cells #[.int .u64 kSum, .int .i64 4] 42)) := HB2.out.alloc HB2.out.size _
  go_upto_region 2 with fail
  generalize w2.alloc (.cells #[.int .u64 kSum, .int .i64 4] 42) = w3 at hx1 hA3 ⊢
  have HX3 := Lib.hid hx1
  have HA3 := Lib.hid hA3
  have HS2 := Lib.hid (show w.heap.size ≤ w2.heap.size from HB2.out.size)
  clear hx1 hA3 HB2
  have hr4 := row_new w3 [.string kEd1.path, .int .i64 kEd1.act, .int .i64 kEd1.ty.base, .bool kEd1.ty.k, .bool kEd1.ty.l, .bool kEd1.ty.x, .int .u64 kEd1.sum, .int .i64 kEd1.size, .int .i64 kEd1.base, .string kEd1.frm, .int .i64 kEd1.fnum, .int .i64 kEd1.fence] 54 12 1 rfl (by decide) _ rfl
  have HE4 := Lib.hid (show Edts (w3.alloc (.cells #[.string kEd1.path, .int .i64 kEd1.act, .int .i64 kEd1.ty.base, .bool kEd1.ty.k, .bool kEd1.ty.l, .bool kEd1.ty.x, .int .u64 kEd1.sum, .int .i64 kEd1.size, .int .i64 kEd1.base, .string kEd1.frm, .int .i64 kEd1.fnum, .int .i64 kEd1.fence] 54)) (.slice (some ⟨w3.heap.size, 0, none⟩) 1 1) kCh1.edits from hr4)
  clear hr4
  have HAP1 := Lib.hid (append_any ⟨[], []⟩ kCh1 (.slice none 0 0) (.slice none 0 0) (.slice (some ⟨w3.heap.size, 0, none⟩) 1 1) (.slice none 0 0) _ (Revs.nil_ _) (Rcds.nil_ _) HE4.out (Rcds.nil_ _) k_dep0 k_ch1)
  have HA4 := Lib.hid (HA3.out.alloc HA3.out.size (.cells #[.string kEd1.path, .int .i64 kEd1.act, .int .i64 kEd1.ty.base, .bool kEd1.ty.k, .bool kEd1.ty.l, .bool kEd1.ty.x, .int .u64 kEd1.sum, .int .i64 kEd1.size, .int .i64 kEd1.base, .string kEd1.frm, .int .i64 kEd1.fnum, .int .i64 kEd1.fence] 54))
  go_wp2_with fail
  refine HAP1.out.mono ?_
  rintro e w5 ⟨hb5, ⟨hn0, rfl⟩ | ⟨h0, dv1, dr1, rs1, rfl, hR1, hQ1, hpm1, hpw1, hf1, hf2⟩⟩
  · exact absurd k_app1 hn0
  have hrs : rs1 = [] := by simpa [kCh1] using hpm1
  subst hrs
  rw [k_new1] at hR1
  obtain ⟨A1, c1, rfl, -⟩ := id hR1
  obtain ⟨A2, c2, rfl, -⟩ := id hQ1
  have HX5 := Lib.hid (((HX3.out.alloc (.cells #[.string kEd1.path, .int .i64 kEd1.act, .int .i64 kEd1.ty.base, .bool kEd1.ty.k, .bool kEd1.ty.l, .bool kEd1.ty.x, .int .u64 kEd1.sum, .int .i64 kEd1.size, .int .i64 kEd1.base, .string kEd1.frm, .int .i64 kEd1.fnum, .int .i64 kEd1.fence] 54)).below hb5 (HX3.out.alloc (.cells #[.string kEd1.path, .int .i64 kEd1.act, .int .i64 kEd1.ty.base, .bool kEd1.ty.k, .bool kEd1.ty.l, .bool kEd1.ty.x, .int .u64 kEd1.sum, .int .i64 kEd1.size, .int .i64 kEd1.base, .string kEd1.frm, .int .i64 kEd1.fnum, .int .i64 kEd1.fence] 54)).lt).alloc (.cells #[.slice A1 1 c1, .slice A2 0 c2] 48))
  have hA6 : Below w.heap.size w (w5.alloc (.cells #[.slice A1 1 c1, .slice A2 0 c2] 48)) := (below_next HA4.out hb5).alloc (below_next HA4.out hb5).size _
  have hbd : Blk (w5.alloc (.cells #[.slice A1 1 c1, .slice A2 0 c2] 48)) w5.heap.size 48 [.slice A1 1 c1, .slice A2 0 c2] := blk_new w5 _ _
  have hR6 : Revs (w5.alloc (.cells #[.slice A1 1 c1, .slice A2 0 c2] 48)) (.slice A1 1 c1) [kRev1] := Revs.below hR1 ((Below.refl _ _).alloc (Nat.le_refl _) _)
  have hQ6 : Rcds (w5.alloc (.cells #[.slice A1 1 c1, .slice A2 0 c2] 48)) (.slice A2 0 c2) [] := Rcds.below hQ1 ((Below.refl _ _).alloc (Nat.le_refl _) _)
  have HS5 := Lib.hid (show w.heap.size ≤ w5.heap.size from (below_next HA4.out hb5).size)
  have HN12 := Lib.hid (show w2.heap.size < w5.heap.size from Nat.lt_of_lt_of_le (HX3.out.alloc (.cells #[.string kEd1.path, .int .i64 kEd1.act, .int .i64 kEd1.ty.base, .bool kEd1.ty.k, .bool kEd1.ty.l, .bool kEd1.ty.x, .int .u64 kEd1.sum, .int .i64 kEd1.size, .int .i64 kEd1.base, .string kEd1.frm, .int .i64 kEd1.fnum, .int .i64 kEd1.fence] 54)).lt hb5.size)
  clear hR1 hQ1 hpm1 hpw1 hf1 hf2 h0 hb5 HA4 HAP1 HE4 HX3 HA3 kc
  go_upto_region 3 with fail
  generalize hg2 : w5.heap.size = g2 at hbd HS5 HN12 ⊢
  generalize hg1 : w2.heap.size = g1 at HX5 HS2 HN12 ⊢
  generalize w5.alloc (.cells #[.slice A1 1 c1, .slice A2 0 c2] 48) = w6 at HX5 hA6 hbd hR6 hQ6 ⊢
  clear hg2 hg1
  have HA6 := Lib.hid hA6
  have HD6 := Lib.hid hbd
  have HR6 := Lib.hid hR6
  have HQ6 := Lib.hid hQ6
  have x0 : w6.cell? ⟨g1, 0, none⟩ = some (.int .u64 kSum) := HX5.out.cell 0
  have x1 : w6.cell? ⟨g1, 1, none⟩ = some (.int .i64 4) := HX5.out.cell 1
  have y0 : w6.cell? ⟨g2, 0, none⟩ = some (.slice A1 1 c1) := hbd.cell 0
  have y1 : w6.cell? ⟨g2, 1, none⟩ = some (.slice A2 0 c2) := hbd.cell 1
  clear hA6 hbd hR6 hQ6
  have hb7 : Below w6.heap.size w6 (w6.alloc (.cells #[.string kEd2.path, .int .i64 kEd2.act, .int .i64 kEd2.ty.base, .bool kEd2.ty.k, .bool kEd2.ty.l, .bool kEd2.ty.x, .int .u64 kEd2.sum, .int .i64 kEd2.size, .int .i64 kEd2.base, .string kEd2.frm, .int .i64 kEd2.fnum, .int .i64 kEd2.fence] 54)) := (Below.refl _ _).alloc (Nat.le_refl _) _
  have hE7 : Edts (w6.alloc (.cells #[.string kEd2.path, .int .i64 kEd2.act, .int .i64 kEd2.ty.base, .bool kEd2.ty.k, .bool kEd2.ty.l, .bool kEd2.ty.x, .int .u64 kEd2.sum, .int .i64 kEd2.size, .int .i64 kEd2.base, .string kEd2.frm, .int .i64 kEd2.fnum, .int .i64 kEd2.fence] 54)) (.slice (some ⟨w6.heap.size, 0, none⟩) 1 1) kCh2.edits := row_new w6 [.string kEd2.path, .int .i64 kEd2.act, .int .i64 kEd2.ty.base, .bool kEd2.ty.k, .bool kEd2.ty.l, .bool kEd2.ty.x, .int .u64 kEd2.sum, .int .i64 kEd2.size, .int .i64 kEd2.base, .string kEd2.frm, .int .i64 kEd2.fnum, .int .i64 kEd2.fence] 54 12 1 rfl (by decide) _ rfl
  have HAP2 := Lib.hid (append_any ⟨[kRev1], []⟩ kCh2 (.slice A1 1 c1) (.slice A2 0 c2) (.slice (some ⟨w6.heap.size, 0, none⟩) 1 1) (.slice none 0 0) _ (Revs.below HR6.out hb7) (Rcds.below HQ6.out hb7) hE7 (Rcds.nil_ _) k_dep k_ch2)
  have HA7 := Lib.hid (below_next HA6.out hb7)
  have HX7 := Lib.hid (HX5.out.below hb7 HX5.out.lt)
  have HD7 := Lib.hid (HD6.out.below hb7 HD6.out.lt)
  clear hb7 hE7
  go_wp2_with fail
  refine HAP2.out.mono ?_
  rintro e w8 ⟨hb8, ⟨hn0, rfl⟩ | ⟨h0, dv2, dr2, rs2, rfl, hR2, hQ2, hpm2, hpw2, hf1, hf2⟩⟩
  · exact absurd k_app2 hn0
  rw [k_new2] at hR2
  obtain ⟨B1, d1, rfl, -⟩ := id hR2
  obtain ⟨B2, d2, rfl, -⟩ := id hQ2
  have HX8 := Lib.hid (HX7.out.below hb8 HX7.out.lt)
  have hD8 := HD7.out.below hb8 HD7.out.lt
  have hfar : g2 < (w6.alloc (.cells #[.string kEd2.path, .int .i64 kEd2.act, .int .i64 kEd2.ty.base, .bool kEd2.ty.k, .bool kEd2.ty.l, .bool kEd2.ty.x, .int .u64 kEd2.sum, .int .i64 kEd2.size, .int .i64 kEd2.base, .string kEd2.frm, .int .i64 kEd2.fnum, .int .i64 kEd2.fence] 54)).heap.size := HD7.out.lt
  have HF1 := Lib.hid (show (Value.slice B1 [kRev1, kRev2].length d1).ownBlock ≠ some g2 from fun e => by have := hf1 _ e; omega)
  have z0 := Blk.frozen hD8 0
  have z1 := Blk.frozen (Blk.set_ hD8 0 (.slice B1 2 d1)) 1
  have f0 : w8.cell? ⟨g2, 0, none⟩ = some (.slice A1 1 c1) := hD8.cell 0
  have f1 : w8.cell? ⟨g2, 1, none⟩ = some (.slice A2 0 c2) := hD8.cell 1
  have f2 : (w8.setCell ⟨g2, 0, none⟩ (.slice B1 2 d1)).cell? ⟨g2, 1, none⟩ = some (.slice A2 0 c2) := Blk.cell (Blk.set_ hD8 0 (.slice B1 2 d1)) 1
  have hD9 : Blk ((w8.setCell ⟨g2, 0, none⟩ (.slice B1 2 d1)).setCell ⟨g2, 1, none⟩ (.slice B2 rs2.length d2)) g2 48 [.slice B1 2 d1, .slice B2 rs2.length d2] := Blk.set_ (Blk.set_ hD8 0 (.slice B1 2 d1)) 1 (.slice B2 rs2.length d2)
  have hX9 : Blk ((w8.setCell ⟨g2, 0, none⟩ (.slice B1 2 d1)).setCell ⟨g2, 1, none⟩ (.slice B2 rs2.length d2)) g1 42 [.int .u64 kSum, .int .i64 4] := Blk.far (Blk.far HX8.out (by show g2 ≠ g1; have := HN12.out; omega) _) (by show g2 ≠ g1; have := HN12.out; omega) _
  have hR9 : Revs ((w8.setCell ⟨g2, 0, none⟩ (.slice B1 2 d1)).setCell ⟨g2, 1, none⟩ (.slice B2 rs2.length d2)) (.slice B1 2 d1) [kRev1, kRev2] := Row.set_far (Row.set_far hR2 HF1.out) HF1.out
  have hA9 : Below w.heap.size w ((w8.setCell ⟨g2, 0, none⟩ (.slice B1 2 d1)).setCell ⟨g2, 1, none⟩ (.slice B2 rs2.length d2)) := ((below_next HA7.out hb8).setCell (p := ⟨g2, 0, none⟩) HS5.out _).setCell (p := ⟨g2, 1, none⟩) HS5.out _
  have HD9 := Lib.hid hD9
  have HX9 := Lib.hid hX9
  have HR9 := Lib.hid hR9
  have HA9 := Lib.hid hA9
  clear hD9 hX9 hR9 hA9 hR2 hQ2 hpm2 hpw2 hf1 hf2 h0 hb8 hfar HF1 HX8 HX7 HD7 HX5 HD6 HA7 HAP2 HR6 HQ6 HA6 hD8 x0 x1 y0 y1
  go_upto_region 4 with fail
  clear z0 z1 f0 f1 f2
  generalize (w8.setCell ⟨g2, 0, none⟩ (.slice B1 2 d1)).setCell ⟨g2, 1, none⟩ (.slice B2 rs2.length d2) = w9 at HD9 HX9 HR9 HA9 ⊢
  generalize (Value.slice B2 rs2.length d2) = dq at HD9 ⊢
  have HNW := Lib.hid (wsNew_any 1 w9)
  go_wp2_with fail
  refine HNW.out.mono ?_
  rintro e w10 ⟨hb10, ⟨h0, rfl⟩ | ⟨h0, rfl, hw10⟩⟩
  · exact absurd h0 (by decide)
  obtain ⟨hT, hM1, hM2, hM3, hM4, -⟩ := new_tree 1 w9 w10 hw10
  clear hw10 h0 HNW
  have hbs : Below w10.heap.size w10 (w10.alloc (.cells #[.int .i64 kSyn.kind, .string kSyn.path, .int .i64 kSyn.num, .string kSyn.frm, .string kSyn.dst] 60)) := (Below.refl _ _).alloc (Nat.le_refl _) _
  have HD11 := Lib.hid ((HD9.out.below hb10 HD9.out.lt).below hbs (HD9.out.below hb10 HD9.out.lt).lt)
  have HX11 := Lib.hid ((HX9.out.below hb10 HX9.out.lt).below hbs (HX9.out.below hb10 HX9.out.lt).lt)
  have HA11 := Lib.hid (below_next (below_next HA9.out hb10) hbs)
  have HS9 := Lib.hid (show w.heap.size ≤ w9.heap.size from HA9.out.size)
  have HN9 := Lib.hid (⟨HX9.out.lt, HD9.out.lt⟩ : g1 < w9.heap.size ∧ g2 < w9.heap.size)
  have HT11 := Lib.hid (hT.under hbs)
  have HM11 := Lib.hid (⟨hM1.below hbs, hM2.below hbs, FMap.below hM3 hbs, hM4.below hbs⟩ : NMap Value.string ptrV (w10.alloc (.cells #[.int .i64 kSyn.kind, .string kSyn.path, .int .i64 kSyn.num, .string kSyn.frm, .string kSyn.dst] 60)) w9.heap.size (fun _ => none) ∧ NMap Value.string ptrV (w10.alloc (.cells #[.int .i64 kSyn.kind, .string kSyn.path, .int .i64 kSyn.num, .string kSyn.frm, .string kSyn.dst] 60)) (w9.heap.size + 1) (fun _ => none) ∧ Strays (w10.alloc (.cells #[.int .i64 kSyn.kind, .string kSyn.path, .int .i64 kSyn.num, .string kSyn.frm, .string kSyn.dst] 60)) (w9.heap.size + 2) (fun _ => none) ∧ NMap cidV unitV (w10.alloc (.cells #[.int .i64 kSyn.kind, .string kSyn.path, .int .i64 kSyn.num, .string kSyn.frm, .string kSyn.dst] 60)) (w9.heap.size + 3) (fun _ => none))
  have hP11 : Syns (w10.alloc (.cells #[.int .i64 kSyn.kind, .string kSyn.path, .int .i64 kSyn.num, .string kSyn.frm, .string kSyn.dst] 60)) (.slice (some ⟨w10.heap.size, 0, none⟩) 1 1) [kSyn] := row_new w10 [.int .i64 kSyn.kind, .string kSyn.path, .int .i64 kSyn.num, .string kSyn.frm, .string kSyn.dst] 60 5 1 rfl (by decide) _ rfl
  have HAP := Lib.hid (apply_add (w9.heap.size + 4) w9.heap.size (w9.heap.size + 1) (w9.heap.size + 2) (w9.heap.size + 3) 1 kSyn kRev2 [kRev1, kRev2] (.slice B1 2 d1) dq (.slice (some ⟨w10.heap.size, 0, none⟩) 1 1) (fun _ => none) (fun _ => none) (fun _ => none) _
    HT11.out HM11.out.1 HM11.out.2.1 HM11.out.2.2.1 (Revs.below HR9.out (below_next hb10 hbs)) (by decide) hP11 (by omega) rfl rfl rfl rfl (by decide) (by decide) (by decide) (by decide) (by decide) k_fits k_have k_get (by decide) (by decide))
  obtain ⟨f0, f1⟩ := (⟨(HD9.out.below hb10 HD9.out.lt).cell 0, (HD9.out.below hb10 HD9.out.lt).cell 1⟩ : w10.cell? ⟨g2, 0, none⟩ = some (.slice B1 2 d1) ∧ w10.cell? ⟨g2, 1, none⟩ = some dq)
  clear hb10 hbs hT hM1 hM2 hM3 hM4 hP11
  go_wp2_with fail
  refine HAP.out.mono ?_
  rintro e w12 ⟨rfl, hk12, g, hg, hF12, hm1, hm2⟩
  have hgt : w9.heap.size + 4 < g := Nat.lt_of_lt_of_le HT11.out.lt hg
  have hn1 := HN9.out.1
  have hn0 := HS9.out
  have hng := HS2.out
  have HG := Lib.hid hgt
  have HF12 := Lib.hid hF12
  have HT12 := Lib.hid (show IsTree w12 (w9.heap.size + 4) 1 w9.heap.size (w9.heap.size + 1) (w9.heap.size + 2) (w9.heap.size + 3) from hk12.blk HT11.out (by simp))
  have HX12 := Lib.hid (hk12.blk HX11.out (by simp; omega))
  have HM12 := Lib.hid (⟨hm1, hm2, hk12.fmap HM11.out.2.2.1 (by simp), hk12.nmap HM11.out.2.2.2 (by simp)⟩ : NMap Value.string ptrV w12 w9.heap.size (upd (fun _ => none) kLoc g) ∧ NMap Value.string ptrV w12 (w9.heap.size + 1) (upd (fun _ => none) kPath g) ∧ Strays w12 (w9.heap.size + 2) (fun _ => none) ∧ NMap cidV unitV w12 (w9.heap.size + 3) (fun _ => none))
  have HA12 := Lib.hid (HA11.out.trans (hk12.to_below (B := w.heap.size) (by intro s hs; simp at hs; rcases hs with rfl | rfl <;> omega) HA11.out.size))
  have HRD := Lib.hid (read_hollow (w9.heap.size + 4) w9.heap.size (w9.heap.size + 1) (w9.heap.size + 2) (w9.heap.size + 3) g 1 _ _ kLoc _ _ _ w12 HT12.out HM12.out.1 HM12.out.2.2.1 HM12.out.2.2.2 HF12.out rfl (by unfold upd; rw [if_pos rfl]) (by decide))
  clear hgt hg hF12 hm1 hm2 hk12 HT11 HM11 HX11 HA11 HAP HD11 hn1 hn0 hng
  go_wp2_with fail
  refine HRD.out.mono ?_
  rintro e w13 ⟨rfl, hk13, hm4⟩
  have hgt := HG.out
  have hn1 := HN9.out.1
  have hn0 := HS9.out
  have HB14 := Lib.hid (show Below w13.heap.size w13 (w13.alloc (.cells #[.int .u8 36, .int .u8 73, .int .u8 100, .int .u8 36] 5 (4, 5))) from (Below.refl _ _).alloc (Nat.le_refl _) _)
  have HF14 := Lib.hid ((show IsFile w13 g _ _ from hk13.blk HF12.out (by simp; omega)).under HB14.out)
  have HT14 := Lib.hid ((show IsTree w13 (w9.heap.size + 4) 1 w9.heap.size (w9.heap.size + 1) (w9.heap.size + 2) (w9.heap.size + 3) from hk13.blk HT12.out (by simp)).under HB14.out)
  have hX13 := hk13.blk HX12.out (by simp; omega)
  have HM14 := Lib.hid (⟨(hk13.nmap HM12.out.1 (by simp)).below HB14.out, (hk13.nmap HM12.out.2.1 (by simp)).below HB14.out, FMap.below (hk13.fmap HM12.out.2.2.1 (by simp)) HB14.out, hm4.below HB14.out⟩ : NMap Value.string ptrV (w13.alloc (.cells #[.int .u8 36, .int .u8 73, .int .u8 100, .int .u8 36] 5 (4, 5))) w9.heap.size (upd (fun _ => none) kLoc g) ∧ NMap Value.string ptrV (w13.alloc (.cells #[.int .u8 36, .int .u8 73, .int .u8 100, .int .u8 36] 5 (4, 5))) (w9.heap.size + 1) (upd (fun _ => none) kPath g) ∧ Strays (w13.alloc (.cells #[.int .u8 36, .int .u8 73, .int .u8 100, .int .u8 36] 5 (4, 5))) (w9.heap.size + 2) (fun _ => none) ∧ NMap cidV unitV (w13.alloc (.cells #[.int .u8 36, .int .u8 73, .int .u8 100, .int .u8 36] 5 (4, 5))) (w9.heap.size + 3) (upd (fun _ => none) (kRev2.sum, kRev2.size) ()))
  have HA14 := Lib.hid (below_next (HA12.out.trans (hk13.to_below (B := w.heap.size) (by intro s hs; simp at hs; omega) HA12.out.size)) HB14.out)
  have hgl : g < w13.heap.size := Nat.lt_of_lt_of_le HF12.out.lt hk13.size
  have hbl : w9.heap.size + 3 < w13.heap.size := by omega
  have hB14 : Bytes (w13.alloc (.cells #[.int .u8 36, .int .u8 73, .int .u8 100, .int .u8 36] 5 (4, 5))) (.slice (some ⟨w13.heap.size, 0, none⟩) 4 4) kId := kw.bytes_const w13 kId 5 (4, 5) (by decide)
  have HFL := Lib.hid (fill_one (w9.heap.size + 4) w9.heap.size (w9.heap.size + 1) (w9.heap.size + 2) (w9.heap.size + 3) g 1 kSum 4 _ _ (.slice (some ⟨w13.heap.size, 0, none⟩) 4 4) kPath kId _ _ HT14.out HM14.out.2.1 HM14.out.2.2.2 HF14.out
    (fun X hX => Row.kept hB14 hX (by show w13.heap.size ∉ _; simp; omega)) (by decide) rfl rfl k_sum.symm rfl (by decide) (by omega) (by omega) (by omega) (by omega) (by omega))
  have x0 : w13.cell? ⟨g1, 0, none⟩ = some (.int .u64 kSum) := hX13.cell 0
  have x1 : w13.cell? ⟨g1, 1, none⟩ = some (.int .i64 4) := hX13.cell 1
  have kc := fun (w : World) (C : Array Value) (n c : Nat) => Lib.run_convert_bytes_const (P := Tryz.prog) w 44 5 C n c Tryz.underlying44 Tryz.underlying5
  clear hgt hn1 hn0 hX13 hk13 hm4 hgl hbl hB14 HF12 HT12 HX12 HM12 HA12
  go_wp2_with fail
  refine HFL.out.mono ?_
  rintro e w15 ⟨rfl, hk15, v', hF15, hb15⟩
  clear kc x0 x1
  have hgt := HG.out
  have hn1 := HN9.out.1
  have hn0 := HS9.out
  have hT15 : IsTree w15 (w9.heap.size + 4) 1 w9.heap.size (w9.heap.size + 1) (w9.heap.size + 2) (w9.heap.size + 3) := hk15.blk HT14.out (by simp; omega)
  have HA15 := Lib.hid (HA14.out.trans (hk15.to_below (B := w.heap.size) (by intro s hs; simp at hs; omega) HA14.out.size))
  have hLB := localBytes_kw (w9.heap.size + 4) w9.heap.size (w9.heap.size + 1) (w9.heap.size + 2) (w9.heap.size + 3) g _ _ kId 2 7 w15 hT15 hF15 hb15 rfl rfl rfl (by decide) (by decide) (by decide) (by decide) (by decide) (by decide) (by decide) k_tab (by rw [show expL kRev2.path 2 7 kId = kOut from k_exp]; decide) k_words
  rw [show expL kRev2.path 2 7 kId = kOut from k_exp] at hLB
  have HRD2 := Lib.hid (read_local (w9.heap.size + 4) w9.heap.size (w9.heap.size + 1) (w9.heap.size + 2) (w9.heap.size + 3) g 1 _ _ kLoc _ _ w15 (fun v k X => k = 0 ∧ Bytes X v kOut) hT15 (hk15.nmap HM14.out.1 (by simp; omega)) (hk15.fmap HM14.out.2.2.1 (by simp; omega)) hF15 rfl (by unfold upd; rw [if_pos rfl]) (by decide)
    (hLB.mono fun e X ⟨v, h1, h2, h3⟩ => ⟨v, 0, h1, ⟨rfl, h2⟩, h3⟩))
  clear hgt hn1 hn0 hT15 hLB hk15 hF15 hb15 HF14 HT14 HM14 HB14 HA14
  go_wp2_with fail
  refine HRD2.out.mono ?_
  rintro e w16 ⟨v, k, rfl, ⟨rfl, hv⟩, hb⟩
  have hcv := run_str (P := Tryz.prog) hv 44 9 5 Tryz.underlying44 Tryz.underlying5 Tryz.underlying9
  have HB := Lib.hid (below_next HA15.out hb)
  obtain ⟨Av, cv, rfl, -⟩ := id hv
  have heq : ((⟨kOut.toArray⟩ : ByteArray).toList == (⟨#[36, 73, 100, 58, 32, 47, 47, 100, 47, 97, 35, 50, 32, 36]⟩ : ByteArray).toList) = true := by rw [str_eqS]; exact decide_eq_true rfl
  clear hv hb
  go_wp2_with fail
  go_ret
  exact ⟨rfl, HB.out⟩
end Go.Proofs.YteolonjmgojoeaaGreatDoor
