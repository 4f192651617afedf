/- history.Valid at any depot: the walk. -/
import Derived.Test.YtnblfaagchflaaaDoorMzVal
namespace Go.Proofs.YtnblfaagchflaaaDoor
open Go.RowKit
set_option linter.unusedVariables false
set_option linter.unusedSimpArgs false

/-- Of the first j records each leads to a revision. -/
structure R2 (w wr : World) (gm gr base : Nat) (D : Dep) (dv dr : Value) (j : Nat) : Prop where
  bel : Below w.heap.size w wr
  size : base ≤ wr.heap.size
  low : w.heap.size < gr
  boxD : Blk wr w.heap.size 25 [dv, dr]
  cmap : FMap filV (fun n : Int => Value.int .i64 n) wr gm (chgOf D.revs)
  gmlow : gm < gr
  rmap : ∃ F, RMp wr base gr F (rowsOf D j)
  found : ∀ r ∈ D.recs.take j, ∃ n, chgOf D.revs (r.to, r.num) = some n
theorem R2.under {w wr X : World} {gm gr base : Nat} {D : Dep} {dv dr : Value} {j : Nat} (h : R2 w wr gm gr base D dv dr j) (hX : Below wr.heap.size wr X) : R2 w X gm gr base D dv dr j := by
  obtain ⟨F, hF⟩ := h.rmap
  have h1 := h.size
  have h2 := hX.size
  exact ⟨below_next h.bel hX, by omega, h.low, h.boxD.below hX h.boxD.lt, h.cmap.below hX, h.gmlow, ⟨F, hF.below hX⟩, h.found⟩
/-- One record more. -/
theorem R2.next {w wr X w5 : World} {gm gr base : Nat} {D : Dep} {dv dr : Value} {j : Nat} {F : Int → Option Value} {n : Int} {v : Value} (h : R2 w wr gm gr base D dv dr j) (hF : RMp wr base gr F (rowsOf D j)) (hj : j < D.recs.length) (hn : chgOf D.revs (D.recs[j].to, D.recs[j].num) = some n) (hX : Below wr.heap.size wr X)
    (ho : w5.ownsRow base 50 6 v ((rowsOf D j n).length + 1) ((rowsOf D j n).flatMap Rcd.cells ++ (D.recs[j]).cells)) (hg : X.grownBy w5 ((F n).getD nilV).ownBlock) (hw : v.ownBlock = ((F n).getD nilV).ownBlock ∨ v.ownBlock = some X.heap.size) :
    ∃ w6, (Instr.mapUpdate 48 (.map (some gr)) (.int .i64 n) v).run Tryd.prog w5 = .ok () w6 ∧ R2 w w6 gm gr base D dv dr (j + 1) := by
  obtain ⟨w6, h1, h2, h3⟩ := hF.push hX n D.recs[j] h.size ho hg hw
  have hlow := hF.low
  have hl := h.low
  have hX2 := h.under hX
  have hFX := hF.below hX
  have hne : ∀ b, b < base → some b ≠ ((F n).getD nilV).ownBlock := fun b hb e => by have := ((hFX.own n).lt b e.symm).1; omega
  have hgm := h.gmlow
  have b5 : Below w.heap.size w w5 := hX2.bel.grown hg hX2.bel.size (fun k e => by have := ((hFX.own n).lt k e).1; omega)
  have b6 : Below w.heap.size w w6 := b5.grown h3 b5.size (fun k e => by injection e with e; omega)
  have s5 := hg.size
  have s6 := h3.size
  have sX := hX2.size
  refine ⟨w6, h1, b6, by omega, h.low, ?_, ?_, h.gmlow, ⟨_, by rw [rowsOf_next D j hj n hn]; exact h2⟩, ?_⟩
  · exact (hX2.boxD.grown hg (hne _ (by omega))).grown h3 (fun e => by injection e with e; omega)
  · exact (hX2.cmap.grown hg (hne _ (by omega))).grown h3 (fun e => by injection e with e; omega)
  · intro r hr
    rw [List.take_succ_eq_append_getElem hj] at hr
    rcases List.mem_append.1 hr with hr | hr
    · exact h.found r hr
    · rw [List.mem_singleton] at hr; subst hr; exact ⟨n, hn⟩

set_option maxRecDepth 100000 in
set_option maxHeartbeats 8000000 in
theorem validD_any (D : Dep) (dv dr : Value) (w : World) (hR : Revs w dv D.revs) (hQ : Rcds w dr D.recs) (hb : ∀ r ∈ D.revs, r.path.size ≤ 1000) (hr : ∀ r ∈ D.recs, r.small ∧ r.last ≤ 9223372036854775807) :
    Calls Tryd.prog 5 #[.agg #[dv, dr]] w (ValidPost w D) := by
  obtain ⟨Ar, cr, rfl, hcr, hmr, -⟩ := id hR
  obtain ⟨Aq, cq, rfl, hcq, hmq, -⟩ := id hQ
  unfold maxLen at hmr hmq
  have HR := Lib.hid hR
  have HQ := Lib.hid hQ
  have HBD := Lib.hid hb
  have HRC := Lib.hid hr
  clear hR hQ hb hr
  have hB0 := blk_new w [.slice Ar D.revs.length cr, .slice Aq D.recs.length cq] 25
  have hb0 : Below w.heap.size w (w.alloc (.cells #[.slice Ar D.revs.length cr, .slice Aq D.recs.length cq] 25)) := (Below.refl _ _).alloc (Nat.le_refl _) _
  by_cases hl1 : 512 < D.revs.length
  · have q1 : decide ((512 : Int) < (D.revs.length : Int)) = true := by simp; omega
    go_enter Tryd.func5, Tryd.ntmps5
    go_wp2_with fail
    go_ret
    exact ⟨false, rfl, hb0, fun h => (by cases h), fun _ => .revs hl1⟩
  have q1 : decide ((512 : Int) < (D.revs.length : Int)) = false := by simp; omega
  by_cases hl2 : 512 < D.recs.length
  · have q2 : decide ((512 : Int) < (D.recs.length : Int)) = true := by simp; omega
    go_enter Tryd.func5, Tryd.ntmps5
    go_wp2_with fail
    go_ret
    exact ⟨false, rfl, hb0, fun h => (by cases h), fun _ => .recs hl2⟩
  have q2 : decide ((512 : Int) < (D.recs.length : Int)) = false := by simp; omega
  have HLL : Hid (D.revs.length ≤ 512 ∧ D.recs.length ≤ 512) := Lib.hid ⟨by omega, by omega⟩
  go_enter Tryd.func5, Tryd.ntmps5
  go_upto_region 1 with fail
  generalize w.alloc (.cells #[.slice Ar D.revs.length cr, .slice Aq D.recs.length cq] 25) = W1 at hB0 hb0 ⊢
  obtain ⟨d0, d1, -, -⟩ := box2 hB0
  have hmm := @run_makeMap Tryd.prog
  have hM1 := FMap.new filV (fun n : Int => Value.int .i64 n) W1
  have hW2 : Below W1.heap.size W1 (W1.alloc (.map #[] 0)) := (Below.refl _ _).alloc (Nat.le_refl _) _
  go_upto_region 4 with fail
  have hsz1 := hB0.lt
  generalize hg1 : W1.heap.size = gm at hM1 hsz1 ⊢
  have hle1 : w.heap.size ≤ gm := by omega
  have HS1 : Hid (FMap filV (fun n : Int => Value.int .i64 n) (W1.alloc (.map #[] 0)) gm (chgOf []) ∧ Blk (W1.alloc (.map #[] 0)) w.heap.size 25 [.slice Ar D.revs.length cr, .slice Aq D.recs.length cq] ∧ Below w.heap.size w (W1.alloc (.map #[] 0))) := Lib.hid ⟨hM1, hB0.alloc _, hb0.alloc hb0.size _⟩
  clear hM1 d0 d1 hB0 hb0 hW2 hg1 q1 q2 hmm
  generalize W1.alloc (.map #[] 0) = W2 at HS1 ⊢
  have d0 : W2.cell? ⟨w.heap.size, 0, none⟩ = some (.slice Ar D.revs.length cr) := HS1.out.2.1.cell 0
  go_wp2_with fail
  clear d0
  go_loopw [30] (fun s wr => ∃ k : Nat, s = .int .i64 k ∧ k ≤ D.revs.length ∧ Hid (FMap filV (fun n : Int => Value.int .i64 n) wr gm (chgOf (D.revs.take k)) ∧ Blk wr w.heap.size 25 [.slice Ar D.revs.length cr, .slice Aq D.recs.length cq] ∧ Below w.heap.size w wr)) (fun s _ => D.revs.length - (intOf s).toNat)
  case atStart => exact ⟨0, rfl, Nat.zero_le _, HS1.out⟩
  case round =>
    obtain ⟨k, rfl, hk, HI⟩ := hrel
    by_cases hlt : k < D.revs.length
    · obtain ⟨ad, rfl, hab, hld⟩ := Revs.at_ (HR.out.below HI.out.2.2) hlt
      have HCN := Lib.hid (chgOf_next D.revs k hlt)
      generalize D.revs[k] = x at hld HCN
      obtain ⟨x0, x1, x2, x3, x4, x5, x6, x7, x8, x9, x10, x11⟩ := hld
      have hX := blk_new wr [.string x.path, .int .i64 x.num, .int .i64 x.chg, .int .i64 x.act, .int .i64 x.ty.base, .bool x.ty.k, .bool x.ty.l, .bool x.ty.x, .int .u64 x.sum, .int .i64 x.size, .string x.frm, .int .i64 x.fnum] 33
      have hA1 : Below wr.heap.size wr (wr.alloc (.cells #[.string x.path, .int .i64 x.num, .int .i64 x.chg, .int .i64 x.act, .int .i64 x.ty.base, .bool x.ty.k, .bool x.ty.l, .bool x.ty.x, .int .u64 x.sum, .int .i64 x.size, .string x.frm, .int .i64 x.fnum] 33)) := (Below.refl _ _).alloc (Nat.le_refl _) _
      go_upto_region 7 with fail
      clear x0 x1 x2 x3 x4 x5 x6 x7 x8 x9 x10 x11
      generalize wr.alloc (.cells #[.string x.path, .int .i64 x.num, .int .i64 x.chg, .int .i64 x.act, .int .i64 x.ty.base, .bool x.ty.k, .bool x.ty.l, .bool x.ty.x, .int .u64 x.sum, .int .i64 x.size, .string x.frm, .int .i64 x.fnum] 33) = V1 at hX hA1 ⊢
      have hf := FMap.below HI.out.1 hA1
      obtain ⟨c0', c1', c2', -, -, -, -, -, -, -, -, -⟩ := box12 hX
      obtain ⟨w3, hup, hf3, hg3, hs3⟩ := FMap.update hf keyOk_fil Tryd.underlying45 (x.path, x.num) x.chg
      have hup' : (Instr.mapUpdate 45 (.map (some gm)) (.agg #[.string x.path, .int .i64 x.num]) (.int .i64 x.chg)).run Tryd.prog V1 = .ok () w3 := hup
      have HN : Hid (FMap filV (fun n : Int => Value.int .i64 n) w3 gm (chgOf (D.revs.take (k + 1))) ∧ Blk w3 w.heap.size 25 [.slice (some ad) D.revs.length cr, .slice Aq D.recs.length cq] ∧ Below w.heap.size w w3) := Lib.hid ⟨by rw [HCN.out]; exact hf3, (HI.out.2.1.below hA1 HI.out.2.1.lt).turn (FMap.obj hf) hg3, (below_next HI.out.2.2 hA1).grown hg3 (below_next HI.out.2.2 hA1).size (fun j e => by injection e with e; omega)⟩
      clear hup hf hf3 hg3 hs3 hX hA1
      go_wp2_with fail
      go_roundw
      case rel => exact ⟨k + 1, by go_num, by omega, HN.out⟩
      case measure => simp [intOf]; omega
    · have hkk : k = D.revs.length := by omega
      generalize wr = W3 at HI ⊢
      have hM2 := FMap.new (fun n : Int => Value.int .i64 n) (fun v : Value => v) W3
      have hA2 : Below W3.heap.size W3 (W3.alloc (.map #[] 0)) := (Below.refl _ _).alloc (Nat.le_refl _) _
      have hmm := @run_makeMap Tryd.prog
      go_upto_region 10 with fail
      have HC3 : Hid (FMap filV (fun n : Int => Value.int .i64 n) W3 gm (chgOf D.revs)) := Lib.hid (by have := HI.out.1; rwa [hkk, List.take_length] at this)
      clear hkk hmm
      have HR2 : Hid (R2 w (W3.alloc (.map #[] 0)) gm W3.heap.size (W3.heap.size + 1) D (.slice Ar D.revs.length cr) (.slice Aq D.recs.length cq) 0) := Lib.hid
        ⟨below_next HI.out.2.2 hA2, by simp, HI.out.2.1.lt, HI.out.2.1.alloc _, HC3.out.alloc _, HC3.out.lt, ⟨_, hM2, by omega, fun n => World.ownsRow_nil _ _ _ _, fun a b hab g e => by cases e⟩, fun r hr => (by simp at hr)⟩
      clear hM2 hA2
      generalize W3.alloc (.map #[] 0) = W4 at HR2 ⊢
      generalize W3.heap.size = gr at HR2 ⊢
      have d1 : W4.cell? ⟨w.heap.size, 1, none⟩ = some (.slice Aq D.recs.length cq) := HR2.out.boxD.cell 1
      clear HC3 HI HS1
      go_wp2_with fail
      clear d1
      go_loopw [47] (fun s wr => ∃ j : Nat, s = .int .i64 j ∧ j ≤ D.recs.length ∧ Hid (R2 w wr gm gr (gr + 1) D (.slice Ar D.revs.length cr) (.slice Aq D.recs.length cq) j)) (fun s _ => D.recs.length - (intOf s).toNat)
      case atStart => exact ⟨0, rfl, Nat.zero_le _, HR2.out⟩
      case round =>
        obtain ⟨j, rfl, hj, HI⟩ := hrel
        clear HR2
        by_cases hjl : j < D.recs.length
        · obtain ⟨ad, rfl, hab, hld⟩ := Rcds.at_ (HQ.out.below HI.out.bel) hjl
          obtain ⟨F, hF⟩ := HI.out.rmap
          have HNX := Lib.hid (fun (n : Int) (v : Value) (X w5 : World) => R2.next (X := X) (w5 := w5) (n := n) (v := v) HI.out hF hjl)
          have HRM := Lib.hid hF
          have HLE := Lib.hid (fun n => rowsOf_len D j n)
          have HMM : Hid (D.recs[j] ∈ D.recs) := Lib.hid (List.getElem_mem hjl)
          generalize D.recs[j] = x at hld HNX HMM
          clear hF
          obtain ⟨x0, x1, x2, x3, x4, x5⟩ := hld
          have hX := blk_new wr [.string x.frm, .int .i64 x.first, .int .i64 x.last, .string x.to, .int .i64 x.num, .int .i64 x.how] 50
          have hA1 : Below wr.heap.size wr (wr.alloc (.cells #[.string x.frm, .int .i64 x.first, .int .i64 x.last, .string x.to, .int .i64 x.num, .int .i64 x.how] 50)) := (Below.refl _ _).alloc (Nat.le_refl _) _
          go_upto_region 13 with fail
          clear x0 x1 x2 x3 x4 x5
          generalize wr.alloc (.cells #[.string x.frm, .int .i64 x.first, .int .i64 x.last, .string x.to, .int .i64 x.num, .int .i64 x.how] 50) = V1 at hX hA1 ⊢
          generalize wr.heap.size = g8 at hX ⊢
          obtain ⟨y0, y1, y2, y3, y4, y5⟩ := box6 hX
          have hlk := clook (HI.out.under hA1).cmap (x.to, x.num)
          dsimp only at hlk
          cases hc : chgOf D.revs (x.to, x.num) with
          | none =>
            rw [hc] at hlk
            have HBad : Hid (Bad D) := Lib.hid (.lost x HMM.out hc)
            have HA1 := Lib.hid hA1
            clear hX hA1 hc
            go_wp2_with fail
            go_ret
            exact ⟨false, rfl, below_next HI.out.bel HA1.out, fun h => (by cases h), fun _ => HBad.out⟩
          | some n =>
            rw [hc] at hlk
            have HNN := Lib.hid (fun v X w5 => HNX.out n v X w5 hc)
            have HA1 := Lib.hid hA1
            have HFV := Lib.hid (HRM.out.below hA1)
            have hl2 := HFV.out.look n
            have hlen : (rowsOf D j n).length ≤ 512 := by have := HLE.out n; have := HLL.out.2; omega
            have hown := HFV.out.own n
            clear hX hA1 hc HNX
            obtain ⟨A1, c1, hv1⟩ := own_slice hown
            have HO := Lib.hid hown
            have HV1 := Lib.hid hv1
            rw [hv1] at hl2
            clear hown hv1
            have hs1 : gr + 1 ≤ V1.heap.size := (HI.out.under HA1.out).size
            generalize hnl : (rowsOf D j n).length = nl at HO HV1 hl2 hlen HNN
            clear hnl
            go_wp2_with (at_builtin; refine wpList_app rfl rfl rcdElem (own_below (HV1.out ▸ HO.out) ((Below.refl _ _).alloc (Nat.le_refl _) _)) rfl (row_new V1 [.string x.frm, .int .i64 x.first, .int .i64 x.last, .string x.to, .int .i64 x.num, .int .i64 x.how] _ 6 1 rfl (by decide) _ rfl) rfl (by simp [Value.oneCell']) (by omega) (by unfold maxLen; omega) (by simp; omega) ?_; intro A' c' w5 hown5 hg5 hw5; obtain ⟨w6, hup, hR6⟩ := HNN.out (.slice A' (nl + 1) c') (V1.alloc (.cells #[.string x.frm, .int .i64 x.first, .int .i64 x.last, .string x.to, .int .i64 x.num, .int .i64 x.how] 50)) w5 (HA1.out.alloc HA1.out.size _) hown5 (by rw [HV1.out]; exact hg5) (by rw [HV1.out]; exact hw5))
            have HR6 := Lib.hid hR6
            clear hR6 hup hown5 hg5 hw5 hlk hl2 y0 y1 y2 y3 y4 y5
            go_wp2_with fail
            go_roundw
            case rel => exact ⟨j + 1, by go_num, by omega, HR6.out⟩
            case measure => simp [intOf]; omega
        · have hje : j = D.recs.length := by omega
          have HFD : Hid (∀ r ∈ D.recs, ∃ n, chgOf D.revs (r.to, r.num) = some n) := Lib.hid (by have := HI.out.found; rwa [hje, List.take_length] at this)
          have HVG : Hid (VG w (wr.alloc (.cells #[.slice none 0 0, .slice none 0 0] 25)) wr.heap.size gr D (.slice Ar D.revs.length cr) (.slice Aq D.recs.length cq) (.slice none 0 0) (.slice none 0 0) 0 ⟨[], []⟩) := Lib.hid (by
            have hA : Below wr.heap.size wr (wr.alloc (.cells #[.slice none 0 0, .slice none 0 0] 25)) := (Below.refl _ _).alloc (Nat.le_refl _) _
            have h2 := HI.out.under hA
            obtain ⟨F, hF⟩ := HI.out.rmap
            have hs := HI.out.size
            refine ⟨h2.bel, HI.out.boxD.lt, h2.boxD, blk_new wr _ _, ⟨F, hF.map.below hA, by omega, fun n => ⟨?_, fun x e => ?_⟩⟩, ⟨Revs.nil_ _, Rcds.nil_ _, depW_nil⟩, .start⟩
            · have h3 := Row.of_own ((hF.below hA).own n)
              rw [hje, rowsOf_all] at h3
              exact h3
            · exact ((hF.own n).lt x e).2)
          clear hje HI
          go_upto_region 19 with fail
          generalize wr.alloc (.cells #[.slice none 0 0, .slice none 0 0] 25) = W5 at HVG ⊢
          generalize wr.heap.size = g11 at HVG ⊢
          go_wp2_with fail
          go_loopw [12] (fun s wr => ∃ (k : Nat) (mv mr : Value) (d : Dep), s = .int .i64 k ∧ k ≤ D.revs.length ∧ Hid (VG w wr g11 gr D (.slice Ar D.revs.length cr) (.slice Aq D.recs.length cq) mv mr k d)) (fun s _ => D.revs.length - (intOf s).toNat)
          case atStart => exact ⟨0, _, _, _, rfl, Nat.zero_le _, HVG.out⟩
          case round =>
            obtain ⟨k, mv, mr, d, rfl, hk, HI⟩ := hrel
            clear HVG
            by_cases hlt : k < D.revs.length
            · obtain ⟨ad, rfl, hab, hld⟩ := Revs.at_ (HR.out.below HI.out.bel) hlt
              have HSTP := Lib.hid (fun rs => Repl.step (rs := rs) hlt HI.out.repl)
              have HBADS := Lib.hid (Bad.stuck k d hlt HI.out.repl)
              have HEQ : Hid (∀ i (hi : i < D.revs.length), k = i → D.revs[i].chg = D.revs[k].chg) := Lib.hid (fun i hi e => by subst e; rfl)
              obtain ⟨x0, x1, x2, -⟩ := hld
              generalize D.revs[k].chg = num at x2 HSTP HBADS HEQ
              have e0 : wr.cell? ⟨w.heap.size, 0, none⟩ = some (.slice (some ad) D.revs.length cr) := HI.out.boxD.cell 0
              have hX := blk_new wr [.int .i64 num, .string ⟨#[]⟩, .string ⟨#[]⟩, .slice none 0 0, .slice none 0 0] 42
              have hA1 : Below wr.heap.size wr (wr.alloc (.cells #[.int .i64 num, .string ⟨#[]⟩, .string ⟨#[]⟩, .slice none 0 0, .slice none 0 0] 42)) := (Below.refl _ _).alloc (Nat.le_refl _) _
              clear x0 x1
              go_upto_region 22 with fail
              clear x2 e0
              have HVE : Hid (VE wr (wr.alloc (.cells #[.int .i64 num, .string ⟨#[]⟩, .string ⟨#[]⟩, .slice none 0 0, .slice none 0 0] 42)) wr.heap.size num (.slice none 0 0) 0 []) := Lib.hid ⟨hA1, Nat.le_refl _, hX, World.ownsRow_nil _ _ _ _, fun e => by cases e⟩
              generalize wr.alloc (.cells #[.int .i64 num, .string ⟨#[]⟩, .string ⟨#[]⟩, .slice none 0 0, .slice none 0 0] 42) = V1 at hX hA1 HVE ⊢
              clear hX hA1
              generalize wr = U at HI HVE hab ⊢
              go_loopw [12] (fun s wy => ∃ (j : Nat) (v1 : Value), s = .int .i64 j ∧ k ≤ j ∧ j ≤ D.revs.length ∧ Hid ((∀ i (hi : i < D.revs.length), k ≤ i → i < j → D.revs[i].chg = num) ∧ VE U wy U.heap.size num v1 (j - k) (((D.revs.drop k).take (j - k)).flatMap (fun r => (edtW r).cells)))) (fun s _ => D.revs.length - (intOf s).toNat)
              case atStart => exact ⟨k, _, rfl, Nat.le_refl _, hk, fun i hi h1 h2 => by omega, by rw [Nat.sub_self]; exact HVE.out⟩
              case round =>
                obtain ⟨j, v1, rfl, hkj, hj, HJ⟩ := hrel
                clear HVE
                have hbU := below_next HI.out.bel HJ.out.2.bel
                have e0 : wr.cell? ⟨w.heap.size, 0, none⟩ = some (.slice (some ad) D.revs.length cr) := (HI.out.boxD.below HJ.out.2.bel HI.out.boxD.lt).cell 0
                have e1 : wr.cell? ⟨U.heap.size, 0, none⟩ = some (.int .i64 num) := HJ.out.2.box.cell 0
                by_cases hgo : ∃ h : j < D.revs.length, D.revs[j].chg = num
                · obtain ⟨hjl, hjn⟩ := hgo
                  obtain ⟨ad', had, hab', hld⟩ := Revs.at_ (HR.out.below hbU) hjl
                  injection had with had
                  subst had
                  obtain ⟨r, hrj⟩ : ∃ r, D.revs[j] = r := ⟨_, rfl⟩
                  have x2 := hld.2.2.1
                  rw [hjn] at x2
                  have HRJ := Lib.hid hrj
                  have HJN := Lib.hid hjn
                  have HBU := Lib.hid hbU
                  have d1 : decide (j < D.revs.length) = true := by simp; omega
                  clear hld hrj hbU hjn
                  go_wp2_with fail
                  go_quiet (fail)
                  clear x2 e0 e1
                  have HJ2 := Lib.hid (HJ.out.2.under (below_dN (Below.refl wr.heap.size wr) nq))
                  have HD2 : Hid (Blk (wr.drewN nq) w.heap.size 25 [.slice (some ad) D.revs.length cr, .slice Aq D.recs.length cq]) := Lib.hid (HI.out.boxD.below HJ2.out.bel HI.out.boxD.lt)
                  have HEO := Lib.hid (fun X (hX : Below (wr.drewN nq).heap.size (wr.drewN nq) X) => editOf_gen D.revs j (.slice (some ad) D.revs.length cr) (.slice Aq D.recs.length cq) X (HR.out.below (below_next (below_dN HBU.out nq) hX)) hjl r HRJ.out)
                  have hes : j - k ≤ 100000 := by have := HLL.out.1; omega
                  generalize wr.drewN nq = wz at HJ2 HD2 HEO ⊢
                  go_upto_region 24 with fail
                  refine region24 _ (by kernel_rfl) _ w.heap.size U.heap.size (j - k) j num (edtW r) v1 (.slice (some ad) D.revs.length cr) (.slice Aq D.recs.length cq) _ U wz HJ2.out HD2.out ⟨⟨_, _, _, rfl⟩, _, _, _, rfl⟩ hes HEO.out _ _ _ _ _ _ _ _ _ _ _ _ _ _ _ _ _ _ _ _ _ _ _ _ _ _ _ _ _ _ _ _ _ _ _ _ _ _ _ _ _ _ _ _ _ _ _ _ _ _ _ _ _ _ _ _ _ _ _ _ _ _ _ _ _ _ _ _ _ _ _ _ _ _ _ _ _ _ _ _ _ _ _ _ _ _ _ _ _ _ _ _ _ _ _ _ _ _ _ _ _ _ _ _ _ _ _ _ _ _ _ _ _ _ _ _ _ _ _ _ _ _ _ _ _ _ _ _ _ _ _ _ _ ?_
                  intro t102 t103 t104 t105 t106 t107 t108 t109 v3 w6 HQ2
                  go_wp2_with fail
                  go_roundw
                  case rel =>
                    refine ⟨j + 1, v3, by go_num, by omega, by omega, fun i hi h1 h2 => ?_, ?_⟩
                    · by_cases hij : i = j
                      · subst hij; exact HJN.out
                      · exact HJ.out.1 i hi h1 (by omega)
                    · have h := HQ2.out
                      rw [show j + 1 - k = (j - k) + 1 by omega, List.take_succ_eq_append_getElem (by rw [List.length_drop]; omega), List.flatMap_append, List.flatMap_cons, List.flatMap_nil, List.append_nil, List.getElem_drop]
                      have hkk : k + (j - k) = j := by omega
                      simp only [hkk, HRJ.out]
                      exact h
                  case measure => simp [intOf]; omega
                · have hne : j = D.revs.length ∨ ∃ hl : j < D.revs.length, D.revs[j].chg ≠ num := by
                    rcases Nat.lt_or_ge j D.revs.length with h | h
                    · exact .inr ⟨h, fun e => hgo ⟨h, e⟩⟩
                    · exact .inl (by omega)
                  have hrun := run_take D.revs k j num hkj hj HJ.out.1 hne
                  have hjk : k < j := by
                    rcases Nat.lt_or_ge k j with h | h
                    · exact h
                    · exact absurd ⟨by omega, HEQ.out j (by omega) (by omega)⟩ hgo
                  have hrl : (runAt D.revs k num).length = j - k := by rw [hrun, List.length_take, List.length_drop]; omega
                  have HCV : Hid (VE U wr U.heap.size num v1 (chgV D k num).edits.length ((chgV D k num).edits.flatMap Edt.cells)) := Lib.hid (by
                    have h := HJ.out.2
                    have e1 : (chgV D k num).edits.length = j - k := by unfold chgV; dsimp only; rw [List.length_map, hrl]
                    have e2 : (chgV D k num).edits.flatMap Edt.cells = ((D.revs.drop k).take (j - k)).flatMap (fun r => (edtW r).cells) := by unfold chgV; dsimp only; rw [hrun, List.flatMap_map]
                    rw [e1, e2]
                    exact h)
                  have HSTJ : Hid (∀ rs, appE d (chgV D k num) = 0 → rs.Perm (d.recs ++ (chgV D k num).recs) → rs.Pairwise (fun a b => 0 ≤ cmpR b a) → Repl D j ⟨newRevs d (chgV D k num), rs⟩) := Lib.hid (fun rs a b c => by
                    have h := HSTP.out rs a b c
                    rw [hrl, show k + (j - k) = j by omega] at h
                    exact h)
                  have HCW : Hid (ChgW (chgV D k num)) := Lib.hid (by
                    have hl := HLL.out
                    refine ⟨?_, ?_, fun x hx => ?_, fun r hr => HRC.out r (List.mem_filter.1 hr).1⟩
                    · unfold chgV; dsimp only; rw [List.length_map, hrl]; omega
                    · have := List.length_filter_le (fun r : Rcd => decide (chgOf D.revs (r.to, r.num) = some num)) D.recs
                      unfold chgV recsAt; dsimp only; omega
                    · obtain ⟨y, hy, rfl⟩ := List.mem_map.1 hx
                      exact HBD.out y (List.mem_of_mem_drop ((List.takeWhile_prefix _).subset hy)))
                  have HBU := Lib.hid hbU
                  clear hrun hrl hbU HJ HSTP hgo
                  rcases hne with hje | ⟨hjl, hjn⟩
                  case' inl =>
                    have d1 : decide (j < D.revs.length) = false := by simp; omega
                    clear hje
                    go_wp2_with fail
                    go_quiet (fail)
                    clear e0 e1 d1
                  case' inr =>
                    obtain ⟨ad', had, hab', hld⟩ := Revs.at_ (HR.out.below HBU.out) hjl
                    injection had with had
                    subst had
                    have x2 := hld.2.2.1
                    have d1 : decide (j < D.revs.length) = true := by simp; omega
                    have q1 : (D.revs[j].chg == num) = false := by simpa using hjn
                    generalize D.revs[j].chg = num2 at x2 q1
                    clear hld hjn
                    go_wp2_with fail
                    go_quiet (fail)
                    clear e0 e1 x2 d1 q1 hab'
                  all_goals
                    have HJ2 := Lib.hid (HCV.out.under (below_dN (Below.refl wr.heap.size wr) nq))
                    clear HCV
                    generalize wr.drewN nq = wz at HJ2 ⊢
                    obtain ⟨A1, c1, hv1⟩ := own_slice HJ2.out.one
                    subst hv1
                    have hUz := HJ2.out.bel
                    have hg11U : g11 < U.heap.size := HI.out.boxM.lt
                    obtain ⟨F, f1, f2, f3⟩ := HI.out.recs
                    have hlk := flook (f1.below hUz) num
                    have f4 := (f3 num).1.below hUz
                    have fresh : ∀ {x : Nat}, ((F num).getD nilV).ownBlock = some x → x < U.heap.size := fun {x} e => Nat.lt_trans ((f3 num).2 x e) hg11U
                    have f4' : Rcds wz ((F num).getD nilV) (chgV D k num).recs := f4
                    obtain ⟨Ac, cc, hrv, -⟩ := id f4'
                    rw [hrv] at hlk f4'
                    have e1 : wz.cell? ⟨U.heap.size, 0, none⟩ = some (.int .i64 num) := HJ2.out.box.cell 0
                    have e4 : wz.cell? ⟨U.heap.size, 4, none⟩ = some (.slice none 0 0) := HJ2.out.box.cell 4
                    have g4 : wz.frozen? ⟨U.heap.size, 4, none⟩ = false := HJ2.out.box.frozen 4
                    have HC2 : Hid (Blk (wz.setCell ⟨U.heap.size, 4, none⟩ (.slice Ac (chgV D k num).recs.length cc)) U.heap.size 42 [.int .i64 num, .string ⟨#[]⟩, .string ⟨#[]⟩, .slice A1 (chgV D k num).edits.length c1, .slice Ac (chgV D k num).recs.length cc]) := Lib.hid (HJ2.out.box.set_ 4 _)
                    have HO2 : Hid (Row (wz.setCell ⟨U.heap.size, 4, none⟩ (.slice Ac (chgV D k num).recs.length cc)) 12 (.slice A1 (chgV D k num).edits.length c1) (chgV D k num).edits.length ((chgV D k num).edits.flatMap Edt.cells)) := Lib.hid (Row.of_own (own_setCell HJ2.out.one (p := ⟨U.heap.size, 4, none⟩) HJ2.out.ne1 _))
                    have HU2 : Hid (Below U.heap.size U (wz.setCell ⟨U.heap.size, 4, none⟩ (.slice Ac (chgV D k num).recs.length cc))) := Lib.hid (hUz.setCell (p := ⟨U.heap.size, 4, none⟩) (Nat.le_refl _) _)
                    have HRR : Hid (Rcds (wz.setCell ⟨U.heap.size, 4, none⟩ (.slice Ac (chgV D k num).recs.length cc)) (.slice Ac (chgV D k num).recs.length cc) (chgV D k num).recs) := Lib.hid (Row.setCell_far f4' (fun e => by
                      have h := fresh (by rw [hrv]; exact e)
                      omega))
                    clear hUz f1 f2 f3 f4 f4' hrv fresh
                    go_upto_region 26 with fail
                    clear hlk e1 e4 g4 HJ2
                    generalize wz.setCell ⟨U.heap.size, 4, none⟩ (.slice Ac (chgV D k num).recs.length cc) = w2 at HC2 HO2 HU2 HRR ⊢
                    have HV2 := Lib.hid (HI.out.under HU2.out)
                    obtain ⟨Am, cm, rfl, -⟩ := id HV2.out.dep.1
                    obtain ⟨Aq2, cq2, rfl, -⟩ := id HV2.out.dep.2.1
                    obtain ⟨m0, m1, -, -⟩ := box2 HV2.out.boxM
                    obtain ⟨y0, y1, y2, y3, y4⟩ := box5 HC2.out
                    have HAA : Hid (Calls Tryd.prog 7 #[.agg #[.slice Am d.revs.length cm, .slice Aq2 d.recs.length cq2], .agg #[.int .i64 num, .string ⟨#[]⟩, .string ⟨#[]⟩, .slice A1 (chgV D k num).edits.length c1, .slice Ac (chgV D k num).recs.length cc]] w2 (ApPost w2 d (chgV D k num))) := Lib.hid (append_any d (chgV D k num) _ _ _ _ w2 HV2.out.dep.1 HV2.out.dep.2.1 HO2.out HRR.out HV2.out.dep.2.2 HCW.out)
                    have HBADK := Lib.hid HBADS.out
                    generalize chgV D k num = cv at HAA HSTJ HBADK HC2 HO2 HRR HCW y3 y4 ⊢
                    generalize cv.edits.length = nE at HAA y3 ⊢
                    generalize cv.recs.length = nR at HAA y4 ⊢
                    clear HC2 HO2 HRR
                    go_wp2_with fail
                    refine HAA.out.mono ?_
                    rintro e V2 ⟨hb2, ⟨hn0, rfl⟩ | ⟨h0, dv', dr', rs, rfl, hR', hQ', hpm', hpw', hf1, hf2⟩⟩
                    · clear m0 m1 y0 y1 y2 y3 y4
                      have q : (appE d cv != 0) = true := by simpa using hn0
                      have HB2 := Lib.hid hb2
                      have HBX : Hid (Bad D) := Lib.hid (HBADK.out hn0)
                      clear hn0 hb2
                      go_wp2_with fail
                      go_ret
                      exact ⟨false, rfl, below_next HV2.out.bel (below_alloc' HB2.out _), fun h => (by cases h), fun _ => HBX.out⟩
                    · clear m0 m1 y0 y1 y2 y3 y4
                      obtain ⟨A5, c5, rfl, -⟩ := id hR'
                      obtain ⟨A6, c6, rfl, -⟩ := id hQ'
                      have HN : Hid (DepAt V2 (.slice A5 (newRevs d cv).length c5) (.slice A6 rs.length c6) ⟨newRevs d cv, rs⟩ ∧ Repl D j ⟨newRevs d cv, rs⟩ ∧ Fresh w2.heap.size (.slice A5 (newRevs d cv).length c5) ∧ Fresh w2.heap.size (.slice A6 rs.length c6)) := Lib.hid ⟨⟨hR', hQ', appE_keeps HV2.out.dep.2.2 HCW.out h0 rs hpm'⟩, HSTJ.out rs h0 hpm' hpw', hf1, hf2⟩
                      generalize hnl : (newRevs d cv).length = nl at HN ⊢
                      generalize hrl : rs.length = nr at HN ⊢
                      have hA3 : Below w2.heap.size w2 (V2.alloc (.cells #[.slice A5 nl c5, .slice A6 nr c6] 25)) := below_alloc' hb2 _
                      have HD3 := Lib.hid (HN.out.1.below ((Below.refl _ _).alloc (Nat.le_refl _) (.cells #[.slice A5 nl c5, .slice A6 nr c6] 25)))
                      have hx6 := blk_new V2 [.slice A5 nl c5, .slice A6 nr c6] 25
                      clear hR' hQ' hpm' hpw' hf1 hf2 hb2 h0 hnl hrl
                      go_upto_region 27 with fail
                      generalize V2.alloc (.cells #[.slice A5 nl c5, .slice A6 nr c6] 25) = V3 at hA3 HD3 hx6 ⊢
                      obtain ⟨z0, z1, r0, r1⟩ := box2 (HV2.out.under hA3).boxM
                      obtain ⟨w0, w1, -, -⟩ := box2 hx6
                      have HST : Hid (VG w ((V3.setCell ⟨g11, 0, none⟩ (.slice A5 nl c5)).setCell ⟨g11, 1, none⟩ (.slice A6 nr c6)) g11 gr D (.slice (some ad) D.revs.length cr) (.slice Aq D.recs.length cq) (.slice A5 nl c5) (.slice A6 nr c6) j ⟨newRevs d cv, rs⟩) := Lib.hid (HV2.out.store hA3 HD3.out HN.out.2.2.1 HN.out.2.2.2 HN.out.2.1)
                      clear hA3 hx6
                      go_wp2_with fail
                      go_roundw
                      case rel => exact ⟨j, _, _, _, rfl, hj, HST.out⟩
                      case measure => simp [intOf]; omega
            · have hkk : k = D.revs.length := by omega
              have HRP : Hid (Repl D D.revs.length d) := Lib.hid (hkk ▸ HI.out.repl)
              obtain ⟨A5, c5, rfl, -⟩ := id HI.out.dep.1
              obtain ⟨A6, c6, rfl, -⟩ := id HI.out.dep.2.1
              have HE1 := Lib.hid (equal_rev d.revs D.revs (.slice A5 d.revs.length c5) (.slice Ar D.revs.length cr) wr HI.out.dep.1 (HR.out.below HI.out.bel))
              have HE2 := Lib.hid (fun X (hX : Below wr.heap.size wr X) => equal_rcd d.recs D.recs (.slice A6 d.recs.length c6) (.slice Aq D.recs.length cq) X (HI.out.dep.2.1.below hX) (HQ.out.below (below_next HI.out.bel hX)))
              have e0 : wr.cell? ⟨w.heap.size, 0, none⟩ = some (.slice Ar D.revs.length cr) := HI.out.boxD.cell 0
              have m0 : wr.cell? ⟨g11, 0, none⟩ = some (.slice A5 d.revs.length c5) := HI.out.boxM.cell 0
              have dlt : decide (k < D.revs.length) = false := by simp; omega
              clear hkk
              go_wp2_with fail
              refine HE1.out.mono ?_
              rintro e w7 ⟨rfl, hb7⟩
              have HB7 := Lib.hid hb7
              by_cases hr1 : d.revs = D.revs
              · have e1 : w7.cell? ⟨w.heap.size, 1, none⟩ = some (.slice Aq D.recs.length cq) := (HI.out.boxD.below hb7 HI.out.boxD.lt).cell 1
                have m1 : w7.cell? ⟨g11, 1, none⟩ = some (.slice A6 d.recs.length c6) := (HI.out.boxM.below hb7 HI.out.boxM.lt).cell 1
                have HE3 := Lib.hid (HE2.out w7 hb7)
                have HR1 := Lib.hid hr1
                rw [decide_eq_true hr1]
                clear hb7 e0 m0 hr1
                go_wp2_with fail
                refine HE3.out.mono ?_
                rintro e w8 ⟨rfl, hb8⟩
                have HB8 := Lib.hid hb8
                clear hb8 e1 m1
                by_cases hr2 : d.recs = D.recs
                · have HGD : Hid (Good D) := Lib.hid ⟨HLL.out, HFD.out, by
                    have h := HRP.out
                    have e : d = D := by cases d; cases D; simp only [Dep.mk.injEq]; exact ⟨HR1.out, hr2⟩
                    rw [e] at h
                    exact h⟩
                  rw [decide_eq_true hr2]
                  clear hr2
                  go_wp2_with fail
                  go_ret
                  exact ⟨true, rfl, below_next HI.out.bel (below_next HB7.out HB8.out), fun _ => HGD.out, fun h => by cases h⟩
                · have HGD : Hid (Bad D) := Lib.hid (.other d HRP.out fun h => hr2 h.2)
                  rw [decide_eq_false hr2]
                  clear hr2
                  go_wp2_with fail
                  go_ret
                  exact ⟨false, rfl, below_next HI.out.bel (below_next HB7.out HB8.out), fun h => (by cases h), fun _ => HGD.out⟩
              · have HGD : Hid (Bad D) := Lib.hid (.other d HRP.out fun h => hr1 h.1)
                rw [decide_eq_false hr1]
                clear hb7 e0 m0 hr1
                go_wp2_with fail
                go_ret
                exact ⟨false, rfl, below_next HI.out.bel HB7.out, fun h => (by cases h), fun _ => HGD.out⟩
end Go.Proofs.YtnblfaagchflaaaDoor
