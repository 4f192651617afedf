/- The statements' Small, with what its no says. -/
import Derived.Test.YtmhmnchdhacdbaaDoorMgv0
namespace Go.Proofs.YtmhmnchdhacdbaaDoor
open Go.RowKit
set_option linter.unusedVariables false
set_option linter.unusedSimpArgs false

def SmPost2 (w : World) (l : List Chg) (e : Ending) (w' : World) : Prop := ∃ b, e = .returned (.bool b) ∧ Below w.heap.size w w' ∧ (b = true → smallL l) ∧ (b = false → ¬ smallL l)
set_option maxRecDepth 100000 in
set_option maxHeartbeats 8000000 in
theorem small_both (ps : List ChV) (v : Value) (w : World) (hP : Chgs w v ps) (hl : ps.length ≤ 10000000000000) (hs : ∀ p ∈ ps, chgLen p.1 ≤ 10000000000000) (hz : ∀ p ∈ ps, (∀ x ∈ p.1.edits, x.path.size ≤ 140737488355328 ∧ x.frm.size ≤ 140737488355328) ∧ ∀ x ∈ p.1.recs, x.frm.size ≤ 140737488355328 ∧ x.to.size ≤ 140737488355328) :
    Calls Tryd.prog 6 #[v] w (SmPost2 w (ps.map (·.1))) := by
  obtain ⟨A, c, rfl, hc, hm, -⟩ := id hP.1
  have HP := Lib.hid hP
  have HS := Lib.hid hs
  have HZ := Lib.hid hz
  unfold maxLen at hm
  clear hP hs hz
  go_enter Tryd.func6, Tryd.ntmps6
  go_wp2_with fail
  go_loopw [3, 12] (fun s t wr => ∃ (k : Nat) (tot : Int), s = .int .i64 tot ∧ t = .int .i64 k ∧ k ≤ ps.length ∧ Hid ((k ≤ 40 → tot = lenSum ((ps.take k).map (·.1)) ∧ 0 ≤ tot ∧ tot ≤ k * 10000000000000) ∧ (∀ p ∈ ps.take k, chgSm p.1) ∧ Below w.heap.size w wr)) (fun _ t _ => ps.length - (intOf t).toNat)
  case atStart => exact ⟨0, 0, rfl, rfl, Nat.zero_le _, fun _ => ⟨rfl, by omega, by omega⟩, fun p hp => by simp at hp, Below.refl _ _⟩
  case round =>
    obtain ⟨k, tot, rfl, rfl, hk, HI⟩ := hrel
    by_cases hlt : k < ps.length
    · have hPr := HP.out.below HI.out.2.2
      obtain ⟨ad, rfl, hab, hld⟩ := Chgs.at_ hPr hlt
      have HT := Lib.hid (show ps.take (k + 1) = ps.take k ++ [ps[k]] from List.take_succ_eq_append_getElem hlt)
      have hpm : ps[k] ∈ ps := List.getElem_mem _
      have hok := hPr.2 ps[k] hpm
      have hcl := HS.out ps[k] hpm
      have HPM := Lib.hid (HZ.out ps[k] hpm)
      have HNOT := Lib.hid (fun (h : ¬ chgSm ps[k].1) (hs : smallL (ps.map (·.1))) => h (hs.1 _ (List.mem_map_of_mem hpm)))
      generalize ps[k] = p at hld HT hok hcl HPM HNOT
      clear hpm hPr
      obtain ⟨ch, ev, rv⟩ := p
      obtain ⟨Ae, ce, he, -⟩ := id hok.1
      obtain ⟨Ac, cc, hc2, -⟩ := id hok.2
      change ev = .slice Ae ch.edits.length ce at he
      change rv = .slice Ac ch.recs.length cc at hc2
      subst he hc2
      obtain ⟨x0, x1, x2, x3, x4⟩ := hld
      change wr.cell? (ad.add (k * 5)) = some (.int .i64 ch.num) at x0
      change wr.cell? ⟨(ad.add (k * 5)).block, (ad.add (k * 5)).off + 1, none⟩ = some (.string ch.client) at x1
      change wr.cell? ⟨(ad.add (k * 5)).block, (ad.add (k * 5)).off + 2, none⟩ = some (.string ch.text) at x2
      change wr.cell? ⟨(ad.add (k * 5)).block, (ad.add (k * 5)).off + 3, none⟩ = some (.slice Ae ch.edits.length ce) at x3
      change wr.cell? ⟨(ad.add (k * 5)).block, (ad.add (k * 5)).off + 4, none⟩ = some (.slice Ac ch.recs.length cc) at x4
      unfold chgLen at hcl
      change ch.edits.length + ch.recs.length ≤ 10000000000000 at hcl
      have HOK : Hid (Edts wr (.slice Ae ch.edits.length ce) ch.edits ∧ Rcds wr (.slice Ac ch.recs.length cc) ch.recs) := Lib.hid hok
      clear hok
      have hX1 := blk_new wr [.int .i64 ch.num, .string ch.client, .string ch.text, .slice Ae ch.edits.length ce, .slice Ac ch.recs.length cc] 26
      have hA1 : Below wr.heap.size wr (wr.alloc (.cells #[.int .i64 ch.num, .string ch.client, .string ch.text, .slice Ae ch.edits.length ce, .slice Ac ch.recs.length cc] 26)) := (Below.refl _ _).alloc (Nat.le_refl _) _
      go_upto_region 5 with fail
      clear x0 x1 x2 x3 x4
      generalize wr.alloc (.cells #[.int .i64 ch.num, .string ch.client, .string ch.text, .slice Ae ch.edits.length ce, .slice Ac ch.recs.length cc] 26) = V1 at hX1 hA1 ⊢
      generalize wr = wq at hX1 hA1 HOK HI hab ⊢
      obtain ⟨-, -, -, y3, y4⟩ := box5 hX1
      go_wp2_with fail
      clear y3 y4
      have HX1 := Lib.hid hX1
      have HA1 := Lib.hid hA1
      clear hX1 hA1
      go_loopw [28] (fun s wy => ∃ j : Nat, s = .int .i64 j ∧ j ≤ ch.edits.length ∧ Hid ((∀ x ∈ ch.edits.take j, edtSm x) ∧ Below V1.heap.size V1 wy)) (fun s _ => ch.edits.length - (intOf s).toNat)
      case atStart => exact ⟨0, rfl, Nat.zero_le _, fun x hx => by simp at hx, Below.refl _ _⟩
      case round =>
        obtain ⟨j, rfl, hj, HJ⟩ := hrel
        by_cases hjl : j < ch.edits.length
        · have hEd := (HOK.out.1.below HA1.out).below HJ.out.2
          obtain ⟨ad2, rfl, hab2, hld2⟩ := Edts.at_ hEd hjl
          have HTJ := Lib.hid (show ch.edits.take (j + 1) = ch.edits.take j ++ [ch.edits[j]] from List.take_succ_eq_append_getElem hjl)
          have hzz := HPM.out.1 ch.edits[j] (List.getElem_mem _)
          have HNE := Lib.hid (fun (h : ¬ edtSm ch.edits[j]) (hs : chgSm ch) => h (hs.1 _ (List.getElem_mem _)))
          generalize ch.edits[j] = x at hld2 HTJ hzz HNE
          obtain ⟨x0, x1, x2, x3, x4, x5, x6, x7, x8, x9, x10, x11⟩ := hld2
          have hX2 := blk_new wr [.string x.path, .int .i64 x.act, .int .i64 x.ty.base, .bool x.ty.k, .bool x.ty.l, .bool x.ty.x, .int .u64 x.sum, .int .i64 x.size, .int .i64 x.base, .string x.frm, .int .i64 x.fnum, .int .i64 x.fence] 48
          have hb2 : Below V1.heap.size V1 (wr.alloc (.cells #[.string x.path, .int .i64 x.act, .int .i64 x.ty.base, .bool x.ty.k, .bool x.ty.l, .bool x.ty.x, .int .u64 x.sum, .int .i64 x.size, .int .i64 x.base, .string x.frm, .int .i64 x.fnum, .int .i64 x.fence] 48)) := HJ.out.2.alloc HJ.out.2.size _
          clear hEd
          go_upto_region 9 with fail
          clear x0 x1 x2 x3 x4 x5 x6 x7 x8 x9 x10 x11
          generalize wr.alloc (.cells #[.string x.path, .int .i64 x.act, .int .i64 x.ty.base, .bool x.ty.k, .bool x.ty.l, .bool x.ty.x, .int .u64 x.sum, .int .i64 x.size, .int .i64 x.base, .string x.frm, .int .i64 x.fnum, .int .i64 x.fence] 48) = V2 at hX2 hb2 ⊢
          obtain ⟨y0, -, -, -, -, -, -, -, -, y9, -, -⟩ := box12 hX2
          have HB2 := Lib.hid hb2
          clear hX2 hb2
          by_cases hq : x.path.size + x.frm.size ≤ 500
          · have q : decide ((500 : Int) < (x.path.size : Int) + (x.frm.size : Int)) = false := by simp; omega
            have HQ : Hid (edtSm x) := Lib.hid hq
            clear hq
            go_wp2_with fail
            go_roundw
            case rel => exact ⟨j + 1, by go_num, by omega, fun y hy => by
              rw [HTJ.out] at hy
              rcases List.mem_append.1 hy with hy | hy
              · exact HJ.out.1 y hy
              · rw [List.mem_singleton] at hy; subst hy; exact HQ.out, HB2.out⟩
            case measure => simp [intOf]; omega
          · have q : decide ((500 : Int) < (x.path.size : Int) + (x.frm.size : Int)) = true := by simp; omega
            have HQ : Hid (¬ edtSm x) := Lib.hid hq
            clear hq
            go_wp2_with fail
            go_ret
            exact ⟨false, rfl, below_next HI.out.2.2 (below_next HA1.out HB2.out), fun h => (by cases h), fun _ => HNOT.out (HNE.out HQ.out)⟩
        · have hje : j = ch.edits.length := by omega
          subst hje
          have HES : Hid (∀ x ∈ ch.edits, edtSm x) := Lib.hid (by have := HJ.out.1; rwa [List.take_length] at this)
          have y4 : wr.cell? ⟨wq.heap.size, 4, none⟩ = some (.slice Ac ch.recs.length cc) := (HX1.out.below HJ.out.2 HX1.out.lt).cell 4
          have HJB := Lib.hid HJ.out.2
          clear HJ
          go_wp2_with fail
          clear y4
          generalize wr = V3 at HJB ⊢
          go_loopw [44] (fun s wy => ∃ j : Nat, s = .int .i64 j ∧ j ≤ ch.recs.length ∧ Hid ((∀ x ∈ ch.recs.take j, rcdSm x) ∧ Below V3.heap.size V3 wy)) (fun s _ => ch.recs.length - (intOf s).toNat)
          case atStart => exact ⟨0, rfl, Nat.zero_le _, fun x hx => by simp at hx, Below.refl _ _⟩
          case round =>
            obtain ⟨j, rfl, hj, HJ⟩ := hrel
            by_cases hjl : j < ch.recs.length
            · have hEd := ((HOK.out.2.below HA1.out).below HJB.out).below HJ.out.2
              obtain ⟨ad2, rfl, hab2, hld2⟩ := Rcds.at_ hEd hjl
              have HTJ := Lib.hid (show ch.recs.take (j + 1) = ch.recs.take j ++ [ch.recs[j]] from List.take_succ_eq_append_getElem hjl)
              have hzz := HPM.out.2 ch.recs[j] (List.getElem_mem _)
              have HNE := Lib.hid (fun (h : ¬ rcdSm ch.recs[j]) (hs : chgSm ch) => h (hs.2 _ (List.getElem_mem _)))
              generalize ch.recs[j] = x at hld2 HTJ hzz HNE
              obtain ⟨x0, x1, x2, x3, x4, x5⟩ := hld2
              have hX2 := blk_new wr [.string x.frm, .int .i64 x.first, .int .i64 x.last, .string x.to, .int .i64 x.num, .int .i64 x.how] 50
              have hb2 : Below V3.heap.size V3 (wr.alloc (.cells #[.string x.frm, .int .i64 x.first, .int .i64 x.last, .string x.to, .int .i64 x.num, .int .i64 x.how] 50)) := HJ.out.2.alloc HJ.out.2.size _
              clear hEd
              go_upto_region 15 with fail
              clear x0 x1 x2 x3 x4 x5
              generalize wr.alloc (.cells #[.string x.frm, .int .i64 x.first, .int .i64 x.last, .string x.to, .int .i64 x.num, .int .i64 x.how] 50) = V2 at hX2 hb2 ⊢
              obtain ⟨y0, -, -, y3, -, -⟩ := box6 hX2
              have HB2 := Lib.hid hb2
              clear hX2 hb2
              by_cases hq : x.frm.size + x.to.size ≤ 500
              · have q : decide ((500 : Int) < (x.frm.size : Int) + (x.to.size : Int)) = false := by simp; omega
                have HQ : Hid (rcdSm x) := Lib.hid hq
                clear hq
                go_wp2_with fail
                go_roundw
                case rel => exact ⟨j + 1, by go_num, by omega, fun y hy => by
                  rw [HTJ.out] at hy
                  rcases List.mem_append.1 hy with hy | hy
                  · exact HJ.out.1 y hy
                  · rw [List.mem_singleton] at hy; subst hy; exact HQ.out, HB2.out⟩
                case measure => simp [intOf]; omega
              · have q : decide ((500 : Int) < (x.frm.size : Int) + (x.to.size : Int)) = true := by simp; omega
                have HQ : Hid (¬ rcdSm x) := Lib.hid hq
                clear hq
                go_wp2_with fail
                go_ret
                exact ⟨false, rfl, below_next HI.out.2.2 (below_next HA1.out (below_next HJB.out HB2.out)), fun h => (by cases h), fun _ => HNOT.out (HNE.out HQ.out)⟩
            · have hje : j = ch.recs.length := by omega
              subst hje
              have HRS : Hid (∀ x ∈ ch.recs, rcdSm x) := Lib.hid (by have := HJ.out.1; rwa [List.take_length] at this)
              go_wp2_with fail
              go_roundw
              case rel =>
                refine ⟨k + 1, wrap64 (tot + ((ch.edits.length : Int) + (ch.recs.length : Int))), rfl, by go_num, by omega, ?_, ?_, below_next HI.out.2.2 (below_next HA1.out (below_next HJB.out HJ.out.2))⟩
                · intro h40
                  obtain ⟨i1, i2, i3⟩ := HI.out.1 (by omega)
                  have hwr : wrap64 (tot + ((ch.edits.length : Int) + (ch.recs.length : Int))) = tot + ((ch.edits.length : Int) + (ch.recs.length : Int)) := by unfold wrap64; omega
                  rw [hwr, HT.out, List.map_append, List.map_cons, List.map_nil, lenSum_snoc]
                  refine ⟨?_, by omega, by omega⟩
                  rw [i1]; unfold chgLen; dsimp only; omega
                · intro p hp
                  rw [HT.out] at hp
                  rcases List.mem_append.1 hp with hp | hp
                  · exact HI.out.2.1 p hp
                  · rw [List.mem_singleton] at hp; subst hp; exact ⟨HES.out, HRS.out⟩
              case measure => simp [intOf]; omega
    · have hkk : k = ps.length := by omega
      subst hkk
      have HI2 : Hid ((ps.length ≤ 40 → tot = lenSum (ps.map (·.1)) ∧ 0 ≤ tot ∧ tot ≤ ps.length * 10000000000000) ∧ (∀ c ∈ ps.map (·.1), chgSm c)) := Lib.hid (by
        have h1 := HI.out.1
        have h2 := HI.out.2.1
        rw [List.take_length] at h1 h2
        exact ⟨h1, fun c hc => by obtain ⟨p, hp, rfl⟩ := List.mem_map.1 hc; exact h2 p hp⟩)
      by_cases h40 : ps.length ≤ 40
      · have d1 : decide (ps.length ≤ 40) = true := by simp; omega
        by_cases h200 : tot ≤ 200
        · have d1' : decide ((ps.length : Int) ≤ 40) = true := by simp; omega
          have d2' : decide (tot ≤ 200) = true := by simp; omega
          go_wp2_with fail
          go_ret
          exact ⟨true, rfl, HI.out.2.2, fun _ => ⟨HI2.out.2, by rw [List.length_map]; exact h40, by have := (HI2.out.1 h40).1; omega⟩, fun h => by cases h⟩
        · have d1' : decide ((ps.length : Int) ≤ 40) = true := by simp; omega
          have d2' : decide (tot ≤ 200) = false := by simp; omega
          go_wp2_with fail
          go_ret
          exact ⟨false, rfl, HI.out.2.2, fun h => (by cases h), fun _ hs => by have h1 := (HI2.out.1 h40).1; have h2 := hs.2.2; omega⟩
      · have d1' : decide ((ps.length : Int) ≤ 40) = false := by simp; omega
        go_wp2_with fail
        go_ret
        exact ⟨false, rfl, HI.out.2.2, fun h => (by cases h), fun _ hs => h40 (by have := hs.2.1; rwa [List.length_map] at this)⟩
end Go.Proofs.YtmhmnchdhacdbaaDoor
