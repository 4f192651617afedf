/- The reference's Paths: the sort at its end: the walk. -/
import Derived.Test.YtnblfaagchflaaaGreatDoorMgw21
import Derived.Test.YtnblfaagchflaaaGreatDoorMgw18
import Derived.Test.YtnblfaagchflaaaGreatDoorMgw16
namespace Go.Proofs.YtnblfaagchflaaaGreatDoor
open Go.RowKit Go.Lib
open Go.Sort hiding Below
set_option linter.unusedVariables false
set_option linter.unusedSimpArgs false

abbrev VStr := { s : ByteArray // validS s = true ∧ s.size ≤ 1000000 }
instance : Inhabited VStr := ⟨⟨somePath, somePath_ok, by unfold somePath; decide⟩⟩
def VStr.enc (x : VStr) : List Value := [.string x.1]
def VStr.cmp (x y : VStr) : Int := cmpP x.1 y.1
theorem vStr_tot : TotC VStr.cmp := totP (f := fun s : VStr => s.1) fun s => s.2.1
theorem vStr_len (x : VStr) : x.enc.length = 1 := rfl
theorem vStr_at (x y : VStr) (W : World) (he : Env W) (d : Nat) (os : Array Obj) :
    Calls Tryz.prog 63 #[.string x.1, .string y.1] (grow (redrawn W d) os) fun e w'' => e = .returned (.int .i64 (VStr.cmp x y)) ∧ ∃ p : Regrown, w'' = grow (redrawn W p.d) p.os :=
  Calls.regrown_of ((order_any x.1 y.1 _ (he.below (below_regrown W d os)) (by have := x.2.2; omega) (by have := y.2.2; omega)).mono fun e w' ⟨v, h1, h2, h3⟩ => ⟨by rw [h1, h3 x.2.1 y.2.1]; rfl, h2⟩)
theorem env_sbS {α : Type} [Inhabited α] {enc : α → List Value} {k : Nat} {e : TypeId} {w0 W : World} {blk off C : Nat} {d : Array α} (h : SB enc k e w0 blk off C d W) (he : Env w0) (hb : 0 < blk) : Env W := by
  obtain ⟨m, hm⟩ := he
  refine ⟨m, ?_⟩
  rw [← hm]
  exact World.cell?_of_block (h.gr.block _ (cell_lt hm) (fun e => by injection e with e; have e' : 0 = blk := e; omega))
theorem sbs_cell {w0 W : World} {e : TypeId} {blk off C : Nat} {d : Array VStr} (h : SB VStr.enc 1 e w0 blk off C d W) {i : Nat} (hi : i < d.size) :
    W.cell? ⟨blk, off + i, none⟩ = some (.string d[i]!.1) ∧ W.frozen? ⟨blk, off + i, none⟩ = false := by
  have := HoldsK.cell h.hold hi (c := 0) (by decide)
  rw [Nat.mul_one, Nat.add_zero] at this
  exact this
theorem sbs_swap {w0 W : World} {e : TypeId} {blk off C : Nat} {d : Array VStr} (h : SB VStr.enc 1 e w0 blk off C d W) {i j : Nat} (hi : i < d.size) (hj : j < d.size) :
    SB VStr.enc 1 e w0 blk off C (swp d i j) ((W.setCell ⟨blk, off + i, none⟩ (.string d[j]!.1)).setCell ⟨blk, off + j, none⟩ (.string d[i]!.1)) := by
  have := h.swap vStr_len hi hj
  rw [Nat.mul_one, Nat.mul_one] at this
  exact this
set_option maxRecDepth 100000 in
set_option maxHeartbeats 8000000 in
theorem psT10s (T : Code) (hT : Tryz.f33.body.bind (tailAt 10) = some T) (R : Ending → World → Prop) (w0 w : World) (blk off C cap : Nat) (d : Array VStr) (h : SB VStr.enc 1 9 w0 blk off C d w) (he : Env w0) (hb : 0 < blk) (hsz : d.size ≤ 100000)
    (hRR : ∀ w', SB VStr.enc 1 9 w0 blk off C (insOuter (ltOf VStr.cmp) 0 d.size 0 d) w' → R (.returned (.slice (some ⟨blk, off, none⟩) d.size cap)) w')
    (u0 u1 u2 u4 u5 u6 u7 u8 u9 u10 u11 u12 u13 u14 u15 u16 u17 u18 u19 u20 u21 u22 u23 u24 u25 u26 u27 u28 u29 u30 u31 u32 u33 u34 u35 u36 u37 u38 u39 u40 u41 u42 u43 u44 u45 u46 u47 u48 u49 u50 u51 u52 u53 u54 u55 u56 u57 u58 u59 u60 u61 u62 u63 u64 u65 u66 u67 u68 u69 u70 u71 : Value) :
    T.wp Tryz.prog (bodyPost Tryz.prog Tryz.f33 R) ⟨#[u0, u1, u2, .slice (some ⟨blk, off, none⟩) d.size cap, u4, u5, u6, u7, u8, u9, u10, u11, u12, u13, u14, u15, u16, u17, u18, u19, u20, u21, u22, u23, u24, u25, u26, u27, u28, u29, u30, u31, u32, u33, u34, u35, u36, u37, u38, u39, u40, u41, u42, u43, u44, u45, u46, u47, u48, u49, u50, u51, u52, u53, u54, u55, u56, u57, u58, u59, u60, u61, u62, u63, u64, u65, u66, u67, u68, u69, u70, u71], []⟩ w := by
  simp only [Tryz.f33, Option.bind_some, tailAt, hasReg] at hT
  simp at hT
  subst hT
  have HS := Lib.hid h
  have HEN := Lib.hid he
  have HBK := Lib.hid hb
  have HRR := Lib.hid hRR
  clear h he hb hRR
  have mixed : Tryz.prog.follows .mixedOrders = true := by kernel_rfl
  go_wp2_with fail
  go_loopw [33] (fun s wr => ∃ (i : Nat) (dk : Array VStr), s = .int .i64 i ∧ i ≤ d.size ∧ dk.size = d.size ∧ Hid (insOuter (ltOf VStr.cmp) 0 d.size i dk = insOuter (ltOf VStr.cmp) 0 d.size 0 d ∧ SB VStr.enc 1 9 w0 blk off C dk wr)) (fun s _ => d.size - (intOf s).toNat)
  case atStart => exact ⟨0, d, rfl, Nat.zero_le _, rfl, rfl, HS.out⟩
  case round =>
    obtain ⟨i, dk, rfl, hib, hsk, HO⟩ := hrel
    by_cases hlt : i < d.size
    · have hltz : (i : Int) < (d.size : Int) := by omega
      go_wp2_with fail
      go_loopw [8] (fun s wr => ∃ (j : Nat) (dj : Array VStr), s = .int .i64 j ∧ j ≤ i ∧ dj.size = d.size ∧ Hid (insInner (ltOf VStr.cmp) 0 j dj = insInner (ltOf VStr.cmp) 0 i dk ∧ SB VStr.enc 1 9 w0 blk off C dj wr)) (fun s _ => (intOf s).toNat)
      case atStart => exact ⟨i, dk, rfl, Nat.le_refl _, hsk, rfl, HO.out.2⟩
      case round =>
        obtain ⟨j, dj, rfl, hji, hsj, HI⟩ := hrel
        have OUT : Hid ((j ≤ 0 ∨ ltOf VStr.cmp dj[j]! dj[j - 1]! = false) → insOuter (ltOf VStr.cmp) 0 d.size (i + 1) dj = insOuter (ltOf VStr.cmp) 0 d.size 0 d) := fun hs => by
          rw [← HO.out.1, insOuter_go _ _ _ _ _ hlt, ← HI.out.1, insInner_stop _ _ _ _ hs]
        by_cases hja : 0 < j
        · obtain ⟨jp, rfl⟩ : ∃ jp, j = jp + 1 := ⟨j - 1, by omega⟩
          have hjaz' : (0 : Int) < (jp : Int) + 1 := by omega
          have dja : decide ((0 : Int) < (jp : Int) + 1) = true := decide_eq_true (by omega)
          have hwp : IntKind.i64.wrap (jp : Int) = (jp : Int) := by rw [IntKind.wrap_i64]; omega
          have jz : (jp : Int) + 1 < (d.size : Int) := by omega
          have jz1 : (jp : Int) < (d.size : Int) := by omega
          have p0 : (0 : Int) ≤ (jp : Int) + 1 := by omega
          have e0 : ((jp : Int) + 1).toNat = jp + 1 := by omega
          have cj := (sbs_cell HI.out.2 (i := jp + 1) (by omega)).1
          have cp := (sbs_cell HI.out.2 (i := jp) (by omega)).1
          obtain ⟨xj, hxj⟩ : ∃ x, dj[jp + 1]! = x := ⟨_, rfl⟩
          obtain ⟨xp, hxp⟩ : ∃ x, dj[jp]! = x := ⟨_, rfl⟩
          rw [hxj] at cj
          rw [hxp] at cp
          have HCG := Lib.hid (vStr_at xj xp wr (env_sbS HI.out.2 HEN.out HBK.out))
          have lj := fun q os => cell_regrown cj q os
          have lp := fun q os => cell_regrown cp q os
          have HXJ := Lib.hid hxj
          have HXP := Lib.hid hxp
          clear hxj hxp cj cp
          by_cases hlv : VStr.cmp xj xp < 0
          · have dlv : decide (VStr.cmp xj xp < 0) = true := by simp; omega
            go_wp2_with fail
            refine wp_region_quiet_below (by kernel_rfl) (by kernel_rfl) ?_
            repeat (first | go_big_quiet_step (exact HCG.out _ _) | quiet_step (exact HCG.out _ _))
            refine wpQuiet_nil ?_
            intro _ hw'
            obtain ⟨⟨dq, osq⟩, hw''⟩ := hw'
            subst hw''
            have hB5 := HI.out.2.below (below_regrown wr dq osq)
            clear lj lp
            generalize grow (redrawn wr dq) osq = W5 at hB5 ⊢
            have hB6 := hB5.drew
            obtain ⟨c1, f1⟩ := sbs_cell hB5 (i := jp + 1) (by omega)
            obtain ⟨c2, f2⟩ := sbs_cell hB5 (i := jp) (by omega)
            have HN : Hid _ := sbs_swap hB6 (i := jp + 1) (j := jp) (by omega) (by omega)
            rw [HXJ.out] at c1
            rw [HXP.out] at c2
            rw [HXJ.out, HXP.out] at HN
            obtain ⟨u2, c3⟩ : ∃ u, (W5.setCell ⟨blk, off + (jp + 1), none⟩ (.string xp.1)).cell? ⟨blk, off + jp, none⟩ = some u := ⟨_, (World.cell?_setCell_other _ _ _ _ (by intro e'; simp only [Addr.mk.injEq] at e'; omega)).trans c2⟩
            clear hB6 hB5
            go_wp2_with fail
            go_big_region_o
            all_goals go_wp2_with fail
            go_roundw
            case rel =>
              refine ⟨jp, swp dj (jp + 1) jp, by first | rfl | go_num | (congr 1; omega), by omega, by rw [size_swp]; exact hsj, ?_, HN.out⟩
              have := insInner_go (ltOf VStr.cmp) 0 (jp + 1) dj hja (by simp only [Nat.add_sub_cancel]; rw [HXJ.out, HXP.out]; exact dlv)
              simp only [Nat.add_sub_cancel] at this
              rw [← HI.out.1, this]
            case measure => simp [intOf]
          · have dlv : decide (VStr.cmp xj xp < 0) = false := by simp; omega
            go_wp2_with fail
            refine wp_region_quiet_below (by kernel_rfl) (by kernel_rfl) ?_
            repeat (first | go_big_quiet_step (exact HCG.out _ _) | quiet_step (exact HCG.out _ _))
            refine wpQuiet_nil ?_
            intro _ hw'
            obtain ⟨⟨dq, osq⟩, hw''⟩ := hw'
            subst hw''
            have HB5 := Lib.hid (HI.out.2.below (below_regrown wr dq osq))
            clear lj lp
            generalize grow (redrawn wr dq) osq = W5 at HB5 ⊢
            go_wp2_with fail
            go_roundw
            case rel => exact ⟨i + 1, dj, by go_num, by omega, hsj, OUT.out (Or.inr (by simp only [Nat.add_sub_cancel]; rw [HXJ.out, HXP.out]; exact dlv)), HB5.out⟩
            case measure => simp [intOf]; omega
        · have hj0 : j = 0 := by omega
          subst hj0
          have HB5 := Lib.hid HI.out.2.drew
          go_wp2_with fail
          go_big_region_o
          all_goals go_wp2_with fail
          go_roundw
          case rel => exact ⟨i + 1, dj, by go_num, by omega, hsj, OUT.out (Or.inl (Nat.le_refl _)), HB5.out⟩
          case measure => simp [intOf]; omega
    · have hltz : ¬ (i : Int) < (d.size : Int) := by omega
      have HF := Lib.hid (show SB VStr.enc 1 9 w0 blk off C (insOuter (ltOf VStr.cmp) 0 d.size 0 d) wr by rw [← HO.out.1, insOuter_stop _ _ _ _ _ hlt]; exact HO.out.2)
      go_wp2_with fail
      exact HRR.out _ HF.out
end Go.Proofs.YtnblfaagchflaaaGreatDoor
/- history.editOf; region 24 of history.Valid. -/
namespace Go.Proofs.YtnblfaagchflaaaGreatDoor
open Go.RowKit
set_option linter.unusedVariables false
set_option linter.unusedSimpArgs false

/-- The edit that made a revision. -/
def edtOf (r : Rev) : Edt := ⟨r.path, r.act, r.ty, r.sum, r.size, r.num - 1, r.frm, r.fnum, 0⟩
theorem set12E {w : World} {g : Nat} {e : TypeId} {a0 a1 a2 a3 a4 a5 a6 a7 a8 a9 a10 a11 : Value} (h : Blk w g e [a0, a1, a2, a3, a4, a5, a6, a7, a8, a9, a10, a11]) (x : Edt) : Blk ((((((((((((w.setCell ⟨g, 0, none⟩ (.string x.path)).setCell ⟨g, 1, none⟩ (.int .i64 x.act)).setCell ⟨g, 2, none⟩ (.int .i64 x.ty.base)).setCell ⟨g, 3, none⟩ (.bool x.ty.k)).setCell ⟨g, 4, none⟩ (.bool x.ty.l)).setCell ⟨g, 5, none⟩ (.bool x.ty.x)).setCell ⟨g, 6, none⟩ (.int .u64 x.sum)).setCell ⟨g, 7, none⟩ (.int .i64 x.size)).setCell ⟨g, 8, none⟩ (.int .i64 x.base)).setCell ⟨g, 9, none⟩ (.string x.frm)).setCell ⟨g, 10, none⟩ (.int .i64 x.fnum)).setCell ⟨g, 11, none⟩ (.int .i64 x.fence)) g e [.string x.path, .int .i64 x.act, .int .i64 x.ty.base, .bool x.ty.k, .bool x.ty.l, .bool x.ty.x, .int .u64 x.sum, .int .i64 x.size, .int .i64 x.base, .string x.frm, .int .i64 x.fnum, .int .i64 x.fence] := ((((((((((((h.set_ 0 _).set_ 1 _).set_ 2 _).set_ 3 _).set_ 4 _).set_ 5 _).set_ 6 _).set_ 7 _).set_ 8 _).set_ 9 _).set_ 10 _).set_ 11 _)
theorem below12E {w0 w : World} {B g : Nat} (h : Below B w0 w) (hg : B ≤ g) (x : Edt) : Below B w0 ((((((((((((w.setCell ⟨g, 0, none⟩ (.string x.path)).setCell ⟨g, 1, none⟩ (.int .i64 x.act)).setCell ⟨g, 2, none⟩ (.int .i64 x.ty.base)).setCell ⟨g, 3, none⟩ (.bool x.ty.k)).setCell ⟨g, 4, none⟩ (.bool x.ty.l)).setCell ⟨g, 5, none⟩ (.bool x.ty.x)).setCell ⟨g, 6, none⟩ (.int .u64 x.sum)).setCell ⟨g, 7, none⟩ (.int .i64 x.size)).setCell ⟨g, 8, none⟩ (.int .i64 x.base)).setCell ⟨g, 9, none⟩ (.string x.frm)).setCell ⟨g, 10, none⟩ (.int .i64 x.fnum)).setCell ⟨g, 11, none⟩ (.int .i64 x.fence)) := ((((((((((((h.setCell (p := ⟨g, 0, none⟩) hg _).setCell (p := ⟨g, 1, none⟩) hg _).setCell (p := ⟨g, 2, none⟩) hg _).setCell (p := ⟨g, 3, none⟩) hg _).setCell (p := ⟨g, 4, none⟩) hg _).setCell (p := ⟨g, 5, none⟩) hg _).setCell (p := ⟨g, 6, none⟩) hg _).setCell (p := ⟨g, 7, none⟩) hg _).setCell (p := ⟨g, 8, none⟩) hg _).setCell (p := ⟨g, 9, none⟩) hg _).setCell (p := ⟨g, 10, none⟩) hg _).setCell (p := ⟨g, 11, none⟩) hg _)
set_option maxRecDepth 100000 in
set_option maxHeartbeats 4000000 in
theorem editOf_any (revs : List Rev) (k : Nat) (dv dr : Value) (w : World) (hR : Revs w dv revs) (hk : k < revs.length) (x : Rev) (hx : revs[k] = x) (hn : 0 < x.num ∧ x.num ≤ 1000000) :
    Calls Tryz.prog 45 #[.agg #[dv, dr], .int .i64 k] w fun e w' => e = .returned (.agg #[.string (edtOf x).path, .int .i64 (edtOf x).act, .int .i64 (edtOf x).ty.base, .bool (edtOf x).ty.k, .bool (edtOf x).ty.l, .bool (edtOf x).ty.x, .int .u64 (edtOf x).sum, .int .i64 (edtOf x).size, .int .i64 (edtOf x).base, .string (edtOf x).frm, .int .i64 (edtOf x).fnum, .int .i64 (edtOf x).fence]) ∧ Below w.heap.size w w' := by
  obtain ⟨Ar, cr, rfl, hcr, hmr, -⟩ := id hR
  unfold maxLen at hmr
  obtain ⟨W, hW⟩ : ∃ W, W = (w.alloc (.cells #[.slice Ar revs.length cr, dr] 31)).alloc (.cells #[.string ⟨#[]⟩, .int .i64 0, .int .i64 0, .bool false, .bool false, .bool false, .int .u64 0, .int .i64 0, .int .i64 0, .string ⟨#[]⟩, .int .i64 0, .int .i64 0] 55) := ⟨_, rfl⟩
  have hbW : Below w.heap.size w W := by rw [hW]; exact ((Below.refl _ _).alloc (Nat.le_refl _) _).alloc (by simp) _
  have hsz : W.heap.size = w.heap.size + 1 + 1 := by rw [hW]; simp
  have hD : Blk W w.heap.size 31 [.slice Ar revs.length cr, dr] := by rw [hW]; exact (blk_new w _ _).alloc _
  have hF : Blk W (w.heap.size + 1) 55 [.string ⟨#[]⟩, .int .i64 0, .int .i64 0, .bool false, .bool false, .bool false, .int .u64 0, .int .i64 0, .int .i64 0, .string ⟨#[]⟩, .int .i64 0, .int .i64 0] := by rw [hW]; exact blk_at (by simp)
  obtain ⟨ad, rfl, hab, hld⟩ := Revs.at_ (hR.below hbW) hk
  have hkz : (k : Int) < (revs.length : Int) := by omega
  rw [hx] at hld
  clear hx
  obtain ⟨x0, x1, x2, x3, x4, x5, x6, x7, x8, x9, x10, x11⟩ := hld
  have HW := Lib.hid hW
  clear hW hR
  obtain ⟨d0, -, -, -⟩ := box2 hD
  have hwr : IntKind.i64.wrap (x.num - 1) = x.num - 1 := IntWalk.i64_in _ (by omega)
  go_enter Tryz.func45, Tryz.ntmps45
  go_upto_region 1 with fail
  rw [← HW.out]
  have hX1 := blk_new W [.string x.path, .int .i64 x.num, .int .i64 x.chg, .int .i64 x.act, .int .i64 x.ty.base, .bool x.ty.k, .bool x.ty.l, .bool x.ty.x, .int .u64 x.sum, .int .i64 x.size, .string x.frm, .int .i64 x.fnum] 40
  have hA1 := hbW.alloc hbW.size (.cells #[.string x.path, .int .i64 x.num, .int .i64 x.chg, .int .i64 x.act, .int .i64 x.ty.base, .bool x.ty.k, .bool x.ty.l, .bool x.ty.x, .int .u64 x.sum, .int .i64 x.size, .string x.frm, .int .i64 x.fnum] 40)
  have hF1 := hF.alloc (.cells #[.string x.path, .int .i64 x.num, .int .i64 x.chg, .int .i64 x.act, .int .i64 x.ty.base, .bool x.ty.k, .bool x.ty.l, .bool x.ty.x, .int .u64 x.sum, .int .i64 x.size, .string x.frm, .int .i64 x.fnum] 40)
  go_upto_region 2 with fail
  clear x0 x1 x2 x3 x4 x5 x6 x7 x8 x9 x10 x11 d0
  generalize W.alloc (.cells #[.string x.path, .int .i64 x.num, .int .i64 x.chg, .int .i64 x.act, .int .i64 x.ty.base, .bool x.ty.k, .bool x.ty.l, .bool x.ty.x, .int .u64 x.sum, .int .i64 x.size, .string x.frm, .int .i64 x.fnum] 40) = W1 at hX1 hA1 hF1 ⊢
  rw [hsz] at hX1
  obtain ⟨c0, c1, c2, c3, c4, c5, c6, c7, c8, c9, c10, c11⟩ := box12 hX1
  obtain ⟨z0, z1, z2, z3, z4, z5, z6, z7, z8, z9, z10, z11⟩ := box12 hF1
  obtain ⟨y0, y1, y2, y3, y4, y5, y6, y7, y8, y9, y10, y11⟩ := frz12 hF1
  have HF1 := Lib.hid hF1
  have HA1 := Lib.hid hA1
  clear hF1 hA1 hX1 hD hF hbW
  go_wp2_with fail
  have hZ3 := set12E HF1.out (edtOf x)
  have hB3 := below12E HA1.out (show w.heap.size ≤ w.heap.size + 1 by omega) (edtOf x)
  clear c0 c1 c2 c3 c4 c5 c6 c7 c8 c9 c10 c11 z0 z1 z2 z3 z4 z5 z6 z7 z8 z9 z10 z11 y0 y1 y2 y3 y4 y5 y6 y7 y8 y9 y10 y11
  have e : ((((((((((((W1.setCell ⟨w.heap.size + 1, 0, none⟩ (.string (edtOf x).path)).setCell ⟨w.heap.size + 1, 1, none⟩ (.int .i64 (edtOf x).act)).setCell ⟨w.heap.size + 1, 2, none⟩ (.int .i64 (edtOf x).ty.base)).setCell ⟨w.heap.size + 1, 3, none⟩ (.bool (edtOf x).ty.k)).setCell ⟨w.heap.size + 1, 4, none⟩ (.bool (edtOf x).ty.l)).setCell ⟨w.heap.size + 1, 5, none⟩ (.bool (edtOf x).ty.x)).setCell ⟨w.heap.size + 1, 6, none⟩ (.int .u64 (edtOf x).sum)).setCell ⟨w.heap.size + 1, 7, none⟩ (.int .i64 (edtOf x).size)).setCell ⟨w.heap.size + 1, 8, none⟩ (.int .i64 (edtOf x).base)).setCell ⟨w.heap.size + 1, 9, none⟩ (.string (edtOf x).frm)).setCell ⟨w.heap.size + 1, 10, none⟩ (.int .i64 (edtOf x).fnum)).setCell ⟨w.heap.size + 1, 11, none⟩ (.int .i64 (edtOf x).fence)) = ((((((((((((W1.setCell ⟨w.heap.size + 1, 0, none⟩ (.string ((⟨x.path, x.act, x.ty, x.sum, x.size, x.num - 1, x.frm, x.fnum, 0⟩ : Edt)).path)).setCell ⟨w.heap.size + 1, 1, none⟩ (.int .i64 ((⟨x.path, x.act, x.ty, x.sum, x.size, x.num - 1, x.frm, x.fnum, 0⟩ : Edt)).act)).setCell ⟨w.heap.size + 1, 2, none⟩ (.int .i64 ((⟨x.path, x.act, x.ty, x.sum, x.size, x.num - 1, x.frm, x.fnum, 0⟩ : Edt)).ty.base)).setCell ⟨w.heap.size + 1, 3, none⟩ (.bool ((⟨x.path, x.act, x.ty, x.sum, x.size, x.num - 1, x.frm, x.fnum, 0⟩ : Edt)).ty.k)).setCell ⟨w.heap.size + 1, 4, none⟩ (.bool ((⟨x.path, x.act, x.ty, x.sum, x.size, x.num - 1, x.frm, x.fnum, 0⟩ : Edt)).ty.l)).setCell ⟨w.heap.size + 1, 5, none⟩ (.bool ((⟨x.path, x.act, x.ty, x.sum, x.size, x.num - 1, x.frm, x.fnum, 0⟩ : Edt)).ty.x)).setCell ⟨w.heap.size + 1, 6, none⟩ (.int .u64 ((⟨x.path, x.act, x.ty, x.sum, x.size, x.num - 1, x.frm, x.fnum, 0⟩ : Edt)).sum)).setCell ⟨w.heap.size + 1, 7, none⟩ (.int .i64 ((⟨x.path, x.act, x.ty, x.sum, x.size, x.num - 1, x.frm, x.fnum, 0⟩ : Edt)).size)).setCell ⟨w.heap.size + 1, 8, none⟩ (.int .i64 ((⟨x.path, x.act, x.ty, x.sum, x.size, x.num - 1, x.frm, x.fnum, 0⟩ : Edt)).base)).setCell ⟨w.heap.size + 1, 9, none⟩ (.string ((⟨x.path, x.act, x.ty, x.sum, x.size, x.num - 1, x.frm, x.fnum, 0⟩ : Edt)).frm)).setCell ⟨w.heap.size + 1, 10, none⟩ (.int .i64 ((⟨x.path, x.act, x.ty, x.sum, x.size, x.num - 1, x.frm, x.fnum, 0⟩ : Edt)).fnum)).setCell ⟨w.heap.size + 1, 11, none⟩ (.int .i64 ((⟨x.path, x.act, x.ty, x.sum, x.size, x.num - 1, x.frm, x.fnum, 0⟩ : Edt)).fence)) := rfl
  dsimp only at e
  rw [← e]
  generalize ((((((((((((W1.setCell ⟨w.heap.size + 1, 0, none⟩ (.string (edtOf x).path)).setCell ⟨w.heap.size + 1, 1, none⟩ (.int .i64 (edtOf x).act)).setCell ⟨w.heap.size + 1, 2, none⟩ (.int .i64 (edtOf x).ty.base)).setCell ⟨w.heap.size + 1, 3, none⟩ (.bool (edtOf x).ty.k)).setCell ⟨w.heap.size + 1, 4, none⟩ (.bool (edtOf x).ty.l)).setCell ⟨w.heap.size + 1, 5, none⟩ (.bool (edtOf x).ty.x)).setCell ⟨w.heap.size + 1, 6, none⟩ (.int .u64 (edtOf x).sum)).setCell ⟨w.heap.size + 1, 7, none⟩ (.int .i64 (edtOf x).size)).setCell ⟨w.heap.size + 1, 8, none⟩ (.int .i64 (edtOf x).base)).setCell ⟨w.heap.size + 1, 9, none⟩ (.string (edtOf x).frm)).setCell ⟨w.heap.size + 1, 10, none⟩ (.int .i64 (edtOf x).fnum)).setCell ⟨w.heap.size + 1, 11, none⟩ (.int .i64 (edtOf x).fence)) = W3 at hZ3 hB3 ⊢
  obtain ⟨e0, e1, e2, e3, e4, e5, e6, e7, e8, e9, e10, e11⟩ := box12 hZ3
  refine bodyPost_ret (v := .agg #[.string (edtOf x).path, .int .i64 (edtOf x).act, .int .i64 (edtOf x).ty.base, .bool (edtOf x).ty.k, .bool (edtOf x).ty.l, .bool (edtOf x).ty.x, .int .u64 (edtOf x).sum, .int .i64 (edtOf x).size, .int .i64 (edtOf x).base, .string (edtOf x).frm, .int .i64 (edtOf x).fnum, .int .i64 (edtOf x).fence]) (by simp [results, Tryz.results45, go_sem, e0, e1, e2, e3, e4, e5, e6, e7, e8, e9, e10, e11]) rfl ⟨rfl, hB3⟩
end Go.Proofs.YtnblfaagchflaaaGreatDoor
