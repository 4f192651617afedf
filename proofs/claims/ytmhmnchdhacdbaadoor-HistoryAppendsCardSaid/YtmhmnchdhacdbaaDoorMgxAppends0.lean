/- The reference's Build: the walk. -/
import Derived.Test.YtmhmnchdhacdbaaDoorMzPw
import Derived.Test.YtmhmnchdhacdbaaDoorMgv11
import Derived.Test.YtmhmnchdhacdbaaDoorMgv9
namespace Go.Proofs.YtmhmnchdhacdbaaDoor
open Go.RowKit
set_option linter.unusedVariables false
set_option linter.unusedSimpArgs false

set_option maxRecDepth 100000 in
set_option maxHeartbeats 8000000 in
theorem build_any (ps : List ChV) (v : Value) (w : World) (henv : Env w) (hP : Chgs w v ps) (hs : smallL (ps.map (·.1))) (hr : ∀ p ∈ ps, ∀ r ∈ p.1.recs, r.last ≤ 9223372036854775807) :
    Calls Tryd.prog 8 #[v] w (PlayPost w (ps.map (·.1))) := by
  obtain ⟨A, c, rfl, hc, hm, -⟩ := id hP.1
  have HP := Lib.hid hP
  have HEN := Lib.hid henv
  have HSM := Lib.hid hs
  have hl40 : ps.length ≤ 40 := by have := hs.2.1; rwa [List.length_map] at this
  have HS := Lib.hid (fun (p : ChV) (hp : p ∈ ps) => small_chgW (hs.1 p.1 (List.mem_map_of_mem hp)) (Nat.le_trans (lenSum_mem (List.mem_map_of_mem hp)) hs.2.2) (hr p hp))
  unfold maxLen at hm
  clear hP hs hr henv
  go_enter Tryd.func8, Tryd.ntmps8
  go_wp2_with fail
  have hst : PlSt w ((w.alloc (.cells #[.slice none 0 0, .slice none 0 0] 31)).alloc (.cells #[.slice none 0 0, .slice none 0 0] 31)) [] w.heap.size (w.heap.size + 1) (w.heap.size + 1 + 1) (.slice none 0 0) (.slice none 0 0) ⟨[], []⟩ := by
    refine ⟨((Below.refl _ _).alloc (Nat.le_refl _) _).alloc (by simp) _, (blk_new w _ _).alloc _, blk_at (by simp), ⟨Revs.nil_ _, Rcds.nil_ _, depW_nil⟩, ⟨fun x e => (by cases e), fun x e => (by cases e)⟩, Plays.nil⟩
  generalize (w.alloc (.cells #[.slice none 0 0, .slice none 0 0] 31)).alloc (.cells #[.slice none 0 0, .slice none 0 0] 31) = W0 at hst ⊢
  go_loopw [10] (fun s wr => ∃ (k : Nat) (dv dr : Value) (d : Dep), s = .int .i64 k ∧ k ≤ ps.length ∧ Hid (PlSt w wr ((ps.take k).map (·.1)) w.heap.size (w.heap.size + 1) (w.heap.size + 1 + 1) dv dr d)) (fun s _ => ps.length - (intOf s).toNat)
  case atStart => exact ⟨0, _, _, _, rfl, Nat.zero_le _, hst⟩
  case round =>
    obtain ⟨k, dv, dr, d, rfl, hk, HI⟩ := hrel
    clear hst
    by_cases hlt : k < ps.length
    · have hPr := HP.out.below HI.out.bel
      obtain ⟨ad, rfl, hab, hld⟩ := Chgs.at_ hPr hlt
      have HT := Lib.hid (show ps.take (k + 1) = ps.take k ++ [ps[k]] from List.take_succ_eq_append_getElem hlt)
      have hpm : ps[k] ∈ ps := List.getElem_mem _
      have hok := hPr.2 ps[k] hpm
      have HPM := Lib.hid (HS.out ps[k] hpm)
      have HPS : Hid (RaB d (ps[k]).1) := Lib.hid (raB_of HI.out.pl HI.out.dep.2.2 (fun c hc => by
        obtain ⟨p, hp, rfl⟩ := List.mem_map.1 hc
        exact HSM.out.1 _ (List.mem_map_of_mem (List.mem_of_mem_take hp))) (HSM.out.1 _ (List.mem_map_of_mem hpm)) HPM.out)
      generalize ps[k] = p at hld HT hok HPM HPS
      clear hpm hPr
      obtain ⟨ch, ev, rv⟩ := p
      obtain ⟨Ae, ce, he, -⟩ := id hok.1
      obtain ⟨Ac, cc, hc2, -⟩ := id hok.2
      change ev = .slice Ae ch.edits.length ce at he
      change rv = .slice Ac ch.recs.length cc at hc2
      subst he hc2
      change Hid (RaB d ch) at HPS
      obtain ⟨x0, x1, x2, x3, x4⟩ := hld
      change wr.cell? (ad.add (k * 5)) = some (.int .i64 ch.num) at x0
      change wr.cell? ⟨(ad.add (k * 5)).block, (ad.add (k * 5)).off + 1, none⟩ = some (.string ch.client) at x1
      change wr.cell? ⟨(ad.add (k * 5)).block, (ad.add (k * 5)).off + 2, none⟩ = some (.string ch.text) at x2
      change wr.cell? ⟨(ad.add (k * 5)).block, (ad.add (k * 5)).off + 3, none⟩ = some (.slice Ae ch.edits.length ce) at x3
      change wr.cell? ⟨(ad.add (k * 5)).block, (ad.add (k * 5)).off + 4, none⟩ = some (.slice Ac ch.recs.length cc) at x4
      have HOK : Hid (Edts wr (.slice Ae ch.edits.length ce) ch.edits ∧ Rcds wr (.slice Ac ch.recs.length cc) ch.recs) := Lib.hid hok
      clear hok
      have hX1 := blk_new wr [.int .i64 ch.num, .string ch.client, .string ch.text, .slice Ae ch.edits.length ce, .slice Ac ch.recs.length cc] 26
      have hA1 : Below wr.heap.size wr (wr.alloc (.cells #[.int .i64 ch.num, .string ch.client, .string ch.text, .slice Ae ch.edits.length ce, .slice Ac ch.recs.length cc] 26)) := (Below.refl _ _).alloc (Nat.le_refl _) _
      go_upto_region 5 with fail
      clear x0 x1 x2 x3 x4
      generalize wr.alloc (.cells #[.int .i64 ch.num, .string ch.client, .string ch.text, .slice Ae ch.edits.length ce, .slice Ac ch.recs.length cc] 26) = V1 at hX1 hA1 ⊢
      obtain ⟨y0, y1, y2, y3, y4⟩ := box5 hX1
      have hb3 := HI.out.box3.below hA1 HI.out.box3.lt
      obtain ⟨z0, z1, -, -⟩ := box2 hb3
      have HB3 := Lib.hid hb3
      have hD1 := HI.out.dep.below hA1
      have HAP := Lib.hid (refAppend_any d ch dv dr (.slice Ae ch.edits.length ce) (.slice Ac ch.recs.length cc) V1 HPS.out (HEN.out.below (below_next HI.out.bel hA1)) hD1.1 hD1.2.1 (HOK.out.1.below hA1) (HOK.out.2.below hA1))
      have HA1 := Lib.hid hA1
      clear hb3 hD1 hX1 hA1
      go_wp2_with fail
      refine HAP.out.mono ?_
      rintro e V2 ⟨hb2, ⟨hn0, rfl⟩ | ⟨h0, dv', dr', rs, rfl, hR', hQ', hpm', hpw', hf1, hf2⟩⟩
      · clear y0 y1 y2 y3 y4 z0 z1
        have HB2 := Lib.hid hb2
        have HN0 := Lib.hid hn0
        have q : (appE d ch == 0) = false := by simpa using hn0
        clear hb2 hn0
        go_wp2_with fail
        go_roundw
        case rel =>
          have hbb : Below wr.heap.size wr (V2.alloc (.cells #[.slice none 0 0, .slice none 0 0] 31)) := (below_next HA1.out HB2.out).alloc (below_next HA1.out HB2.out).size _
          refine ⟨k + 1, dv, dr, d, by go_num, by omega, below_next HI.out.bel hbb, HI.out.box2.below hbb HI.out.box2.lt, HI.out.box3.below hbb HI.out.box3.lt, HI.out.dep.below hbb, HI.out.far, ?_⟩
          rw [HT.out, List.map_append, List.map_cons, List.map_nil]
          exact Plays.skip HI.out.pl HN0.out
        case measure => simp [intOf]; omega
      · clear y0 y1 y2 y3 y4 z0 z1
        obtain ⟨A5, c5, rfl, -⟩ := id hR'
        obtain ⟨A6, c6, rfl, -⟩ := id hQ'
        have hbb := below_next HA1.out hb2
        have hlen := HI.out.box3.lt
        have hlen2 := HI.out.box2.lt
        have hsz1 := hbb.size
        have hle1 : wr.heap.size ≤ V1.heap.size := HA1.out.size
        have HN : Hid (DepAt V2 (.slice A5 (newRevs d ch).length c5) (.slice A6 rs.length c6) ⟨newRevs d ch, rs⟩ ∧ Plays ((ps.take k).map (·.1) ++ [ch]) ⟨newRevs d ch, rs⟩ ∧ Fresh V1.heap.size (.slice A5 (newRevs d ch).length c5) ∧ Fresh V1.heap.size (.slice A6 rs.length c6)) := Lib.hid ⟨⟨hR', hQ', appE_keeps HI.out.dep.2.2 HPM.out h0 rs hpm'⟩, Plays.step HI.out.pl h0 hpm' hpw', hf1, hf2⟩
        have h3a := (HI.out.box3.below hbb hlen).alloc (.cells #[.slice A5 (newRevs d ch).length c5, .slice A6 rs.length c6] 31)
        have h2a := (HI.out.box2.below hbb hlen2).alloc (.cells #[.slice A5 (newRevs d ch).length c5, .slice A6 rs.length c6] 31)
        have hba : Below w.heap.size w (V2.alloc (.cells #[.slice A5 (newRevs d ch).length c5, .slice A6 rs.length c6] 31)) := (below_next HI.out.bel hbb).alloc (below_next HI.out.bel hbb).size _
        have hda := HN.out.1.below ((Below.refl _ _).alloc (Nat.le_refl _) (.cells #[.slice A5 (newRevs d ch).length c5, .slice A6 rs.length c6] 31))
        have hx6 := blk_new V2 [.slice A5 (newRevs d ch).length c5, .slice A6 rs.length c6] 31
        have q : (appE d ch == 0) = true := by simpa using h0
        clear hR' hQ' hpm' hpw' hf1 hf2 hb2 hbb h0
        go_upto_region 6 with fail
        generalize V2.alloc (.cells #[.slice A5 (newRevs d ch).length c5, .slice A6 rs.length c6] 31) = V3 at h3a h2a hba hda hx6 ⊢
        obtain ⟨z0, z1, f0, f1⟩ := box2 h3a
        obtain ⟨w0, w1, -, -⟩ := box2 hx6
        have HBA := Lib.hid hba
        have HDA := Lib.hid hda
        have H2A := Lib.hid h2a
        have H3A := Lib.hid h3a
        clear hba hda h2a h3a hx6
        go_wp2_with fail
        go_roundw
        case rel =>
          have n1 : (Value.slice A5 (newRevs d ch).length c5).ownBlock ≠ some (w.heap.size + 1) := fun e => by have := HN.out.2.2.1 _ e; omega
          have n2 : (Value.slice A6 rs.length c6).ownBlock ≠ some (w.heap.size + 1) := fun e => by have := HN.out.2.2.2 _ e; omega
          refine ⟨k + 1, _, _, _, by go_num, by omega, (HBA.out.setCell (p := ⟨w.heap.size + 1, 0, none⟩) (by simp) _).setCell (p := ⟨w.heap.size + 1, 1, none⟩) (by simp) _, (H2A.out.far (p := ⟨w.heap.size + 1, 0, none⟩) (by simp) _).far (p := ⟨w.heap.size + 1, 1, none⟩) (by simp) _, (H3A.out.set_ 0 _).set_ 1 _, (HDA.out.setCell n1 n2).setCell n1 n2, ⟨fun x e => by have := HN.out.2.2.1 _ e; omega, fun x e => by have := HN.out.2.2.2 _ e; omega⟩, ?_⟩
          rw [HT.out, List.map_append, List.map_cons, List.map_nil]
          exact HN.out.2.1
        case measure => simp [intOf]; omega
    · have hkk : k = ps.length := by omega
      subst hkk
      have HPL : Hid (Plays (ps.map (·.1)) d) := Lib.hid (by have := HI.out.pl; rwa [List.take_length] at this)
      obtain ⟨A5, c5, rfl, -⟩ := id HI.out.dep.1
      obtain ⟨A6, c6, rfl, -⟩ := id HI.out.dep.2.1
      obtain ⟨z0, z1, -, -⟩ := box2 HI.out.box3
      obtain ⟨r0, r1, f0, f1⟩ := box2 HI.out.box2
      go_wp2_with fail
      have n1 : (Value.slice A5 d.revs.length c5).ownBlock ≠ some w.heap.size := fun e => by have := HI.out.far.1 _ e; omega
      have n2 : (Value.slice A6 d.recs.length c6).ownBlock ≠ some w.heap.size := fun e => by have := HI.out.far.2 _ e; omega
      have hR5 := (HI.out.box2.set_ 0 (.slice A5 d.revs.length c5)).set_ 1 (.slice A6 d.recs.length c6)
      have hB5 := (HI.out.bel.setCell (p := ⟨w.heap.size, 0, none⟩) (Nat.le_refl _) (.slice A5 d.revs.length c5)).setCell (p := ⟨w.heap.size, 1, none⟩) (Nat.le_refl _) (.slice A6 d.recs.length c6)
      have hD5 := (HI.out.dep.setCell (g := w.heap.size) (i := 0) (u := .slice A5 d.revs.length c5) n1 n2).setCell (g := w.heap.size) (i := 1) (u := .slice A6 d.recs.length c6) n1 n2
      clear z0 z1 r0 r1 f0 f1
      generalize (wr.setCell ⟨w.heap.size, 0, none⟩ (.slice A5 d.revs.length c5)).setCell ⟨w.heap.size, 1, none⟩ (.slice A6 d.recs.length c6) = W5 at hR5 hB5 hD5 ⊢
      obtain ⟨r0, r1, -, -⟩ := box2 hR5
      refine bodyPost_ret (v := .agg #[.slice A5 d.revs.length c5, .slice A6 d.recs.length c6]) (by simp [results, Tryd.results8, go_sem, r0, r1]) rfl ?_
      exact ⟨_, _, d, rfl, hB5, hD5, HPL.out, fun x e => by have := HI.out.far.1 _ e; omega, fun x e => by have := HI.out.far.2 _ e; omega⟩
end Go.Proofs.YtmhmnchdhacdbaaDoor
/- HistoryAppends: the region of Small. -/
namespace Go.Proofs.YtmhmnchdhacdbaaDoor
open Go.RowKit
set_option linter.unusedVariables false
set_option linter.unusedSimpArgs false

set_option maxRecDepth 100000 in
set_option maxHeartbeats 8000000 in
theorem appendsR1 (ops : Array Oper) (hops : Tryd.f3.body.bind (regAt 1) = some ops) (Q : Exit → Act → World → Prop) (gc : Nat) (v : Value) (ps : List ChV) (p : ChV) (V : World)
    (hP : Chgs V v ps) (hp : p.ok V) (hB : Blk V gc 26 p.cells) (hz : sizeOk (ps ++ [p]))
    (u1 u2 u4 u5 u6 u7 u8 u9 u10 u11 u12 u13 u14 u15 u16 u17 u18 u19 u20 u21 u22 u23 u24 u25 u26 u27 u28 u29 u30 u31 u32 u33 u34 u35 u36 u37 u38 u39 u40 u41 u42 u43 u44 u45 u46 u47 u48 u49 u50 : Value)
    (hQ : ∀ (t11 t12 t13 t14 t15 t16 : Value) (b : Bool) (w' : World), Hid (Below V.heap.size V w' ∧ (b = false → smallL ((ps ++ [p]).map (·.1)))) → Q .normal ⟨#[v, u1, u2, .pointer (some ⟨gc, 0, none⟩), u4, u5, u6, u7, u8, u9, u10, t11, t12, t13, t14, t15, t16, .bool b, u18, u19, u20, u21, u22, u23, u24, u25, u26, u27, u28, u29, u30, u31, u32, u33, u34, u35, u36, u37, u38, u39, u40, u41, u42, u43, u44, u45, u46, u47, u48, u49, u50], []⟩ w') :
    (Code.region 1 ops true).wp Tryd.prog Q ⟨#[v, u1, u2, .pointer (some ⟨gc, 0, none⟩), u4, u5, u6, u7, u8, u9, u10, u11, u12, u13, u14, u15, u16, u17, u18, u19, u20, u21, u22, u23, u24, u25, u26, u27, u28, u29, u30, u31, u32, u33, u34, u35, u36, u37, u38, u39, u40, u41, u42, u43, u44, u45, u46, u47, u48, u49, u50], []⟩ V := by
  simp only [Tryd.f3, Option.bind_some, regAt] at hops
  simp at hops
  subst hops
  obtain ⟨A, c, rfl, hcl, hml, -⟩ := id hP.1
  obtain ⟨ch, ev, rv⟩ := p
  obtain ⟨Ae, ce, he, -⟩ := id hp.1
  obtain ⟨Ac, cc, hc2, -⟩ := id hp.2
  change ev = .slice Ae ch.edits.length ce at he
  change rv = .slice Ac ch.recs.length cc at hc2
  subst he hc2
  have HQ := Lib.hid hQ
  have HP := Lib.hid hP
  have HPP := Lib.hid hp
  have HZ := Lib.hid hz
  have hl := hz.1
  rw [List.length_append, List.length_singleton] at hl
  have hB1 : Blk V gc 26 [.int .i64 ch.num, .string ch.client, .string ch.text, .slice Ae ch.edits.length ce, .slice Ac ch.recs.length cc] := hB
  have HB := Lib.hid hB1
  have hf : ∀ w', Below V.heap.size V w' → w'.cell? ⟨gc, 0, none⟩ = some (.int .i64 ch.num) ∧ w'.cell? ⟨gc, 1, none⟩ = some (.string ch.client) ∧ w'.cell? ⟨gc, 2, none⟩ = some (.string ch.text) ∧ w'.cell? ⟨gc, 3, none⟩ = some (.slice Ae ch.edits.length ce) ∧ w'.cell? ⟨gc, 4, none⟩ = some (.slice Ac ch.recs.length cc) := fun w' hb => box5 (HB.out.below hb HB.out.lt)
  have HF := Lib.hid hf
  clear hQ hP hp hz hB hB1 hf
  obtain ⟨f0, f1, f2, f3, f4⟩ := HF.out V (Below.refl _ _)
  by_cases hsL : smallL ((ps ++ [(ch, .slice Ae ch.edits.length ce, .slice Ac ch.recs.length cc)] : List ChV).map (·.1))
  · have HS := Lib.hid hsL
    clear hsL
    refine wp_region_noPanic ?_
    go_region_law (first
      | (refine step_app (base := V.heap.size) (n := 0) (xs := []) rfl rfl chgElem (World.ownsRow_nil _ _ _ _) (by simp [Act.eval, Act.put]; done) (HP.out.below (Below.refl _ _).drew).1 (by simp [Act.eval, Act.put]; done) (chv_one HP.out.2) (by omega) (by unfold maxLen; omega) (by simp) ?_; intro A5 c5 w5 hO5 hG5 hw5; have hX5 := below_nogrow hG5 rfl; have hS5 : Below V.heap.size V w5 := (Below.refl _ _).drew.trans hX5; obtain ⟨f5, f6, f7, f8, f9⟩ := HF.out w5 hS5; rw [Nat.zero_add, List.nil_append] at hO5)
      | (refine step_app (base := V.heap.size) (n := 0) (xs := []) rfl rfl chgElem (World.ownsRow_nil _ _ _ _) (by simp [Act.eval, Act.put]; done) (HP.out.below (by first | exact below_alloc' (Below.refl _ _).drew _ | exact (below_alloc' (Below.refl _ _) _).drew)).1 (by simp [Act.eval, Act.put]; done) (chv_one HP.out.2) (by omega) (by unfold maxLen; omega) (Below.size (by first | exact below_alloc' (Below.refl _ _).drew _ | exact (below_alloc' (Below.refl _ _) _).drew)) ?_; intro A5 c5 w5 hO5 hG5 hw5; have hX5 := below_nogrow hG5 rfl; have hS5 : Below V.heap.size V w5 := below_next (by first | exact below_alloc' (Below.refl _ _).drew _ | exact (below_alloc' (Below.refl _ _) _).drew) hX5; have hQ5 : Blk w5 V.heap.size 26 [.int .i64 ch.num, .string ch.client, .string ch.text, .slice Ae ch.edits.length ce, .slice Ac ch.recs.length cc] := Blk.below' (by first | exact blk_new V.drew _ _ | exact Blk.drew' (blk_new V _ _)) hX5; rw [Nat.zero_add, List.nil_append] at hO5)
      | (refine step_app rfl rfl chgElem (own_below hO5 ((Below.refl _ _).alloc (Nat.le_refl _) _)) (by simp [Act.eval, Act.put]; done) (row_new w5 [.int .i64 ch.num, .string ch.client, .string ch.text, .slice Ae ch.edits.length ce, .slice Ac ch.recs.length cc] _ 5 1 rfl (by decide) _ rfl) (by simp [Act.eval, Act.put]; done) (by simp [Value.oneCell']) (by omega) (by unfold maxLen; omega) (by have := hS5.size; simp; omega) ?_; intro A6 c6 w6 hO6 hG6 hw6; have hS6 : Below V.heap.size V w6 := (hS5.alloc hS5.size _).grown hG6 (hS5.alloc hS5.size _).size (fun k e => (hO5.lt k e).1))
      | (refine step_app rfl rfl chgElem hO5 (by simp [Act.eval, Act.put]; done) (hQ5.row (size := 5) (n := 1) rfl (by decide)) (by simp [Act.eval, Act.put]; done) (by simp [Value.oneCell']) (by omega) (by unfold maxLen; omega) hS5.size ?_; intro A6 c6 w6 hO6 hG6 hw6; have hS6 : Below V.heap.size V w6 := hS5.grown hG6 hS5.size (fun k e => (hO5.lt k e).1))
      | (go_simp; go_at_call 6; refine (small_both (ps ++ [(ch, .slice Ae ch.edits.length ce, .slice Ac ch.recs.length cc)]) (.slice A6 (ps.length + 1) c6) w6 (chgs_own hO6 hS6 HP.out.2 HPP.out) (by have := HZ.out.1; omega) HZ.out.2.1 HZ.out.2.2).mono ?_; rintro e w7 ⟨b, rfl, hb7, hsm, hno⟩; obtain rfl : b = true := (by cases b; exact absurd HS.out (hno rfl); rfl); have HX7 := Lib.hid (below_next hS6 hb7); clear hb7 hsm hno))
    all_goals exact NoPanic.normal (HQ.out _ _ _ _ _ _ _ _ ⟨HX7.out, fun _ => HS.out⟩)
  · have HS := Lib.hid hsL
    clear hsL
    refine wp_region_noPanic ?_
    first
      | go_region_law (first
          | (refine step_app (base := V.heap.size) (n := 0) (xs := []) rfl rfl chgElem (World.ownsRow_nil _ _ _ _) (by simp [Act.eval, Act.put]; done) (HP.out.below (Below.refl _ _).drew).1 (by simp [Act.eval, Act.put]; done) (chv_one HP.out.2) (by omega) (by unfold maxLen; omega) (by simp) ?_; intro A5 c5 w5 hO5 hG5 hw5; have hX5 := below_nogrow hG5 rfl; have hS5 : Below V.heap.size V w5 := (Below.refl _ _).drew.trans hX5; obtain ⟨f5, f6, f7, f8, f9⟩ := HF.out w5 hS5; rw [Nat.zero_add, List.nil_append] at hO5)
          | (refine step_app (base := V.heap.size) (n := 0) (xs := []) rfl rfl chgElem (World.ownsRow_nil _ _ _ _) (by simp [Act.eval, Act.put]; done) (HP.out.below (by first | exact below_alloc' (Below.refl _ _).drew _ | exact (below_alloc' (Below.refl _ _) _).drew)).1 (by simp [Act.eval, Act.put]; done) (chv_one HP.out.2) (by omega) (by unfold maxLen; omega) (Below.size (by first | exact below_alloc' (Below.refl _ _).drew _ | exact (below_alloc' (Below.refl _ _) _).drew)) ?_; intro A5 c5 w5 hO5 hG5 hw5; have hX5 := below_nogrow hG5 rfl; have hS5 : Below V.heap.size V w5 := below_next (by first | exact below_alloc' (Below.refl _ _).drew _ | exact (below_alloc' (Below.refl _ _) _).drew) hX5; have hQ5 : Blk w5 V.heap.size 26 [.int .i64 ch.num, .string ch.client, .string ch.text, .slice Ae ch.edits.length ce, .slice Ac ch.recs.length cc] := Blk.below' (by first | exact blk_new V.drew _ _ | exact Blk.drew' (blk_new V _ _)) hX5; rw [Nat.zero_add, List.nil_append] at hO5)
          | (refine step_app rfl rfl chgElem (own_below hO5 ((Below.refl _ _).alloc (Nat.le_refl _) _)) (by simp [Act.eval, Act.put]; done) (row_new w5 [.int .i64 ch.num, .string ch.client, .string ch.text, .slice Ae ch.edits.length ce, .slice Ac ch.recs.length cc] _ 5 1 rfl (by decide) _ rfl) (by simp [Act.eval, Act.put]; done) (by simp [Value.oneCell']) (by omega) (by unfold maxLen; omega) (by have := hS5.size; simp; omega) ?_; intro A6 c6 w6 hO6 hG6 hw6; have hS6 : Below V.heap.size V w6 := (hS5.alloc hS5.size _).grown hG6 (hS5.alloc hS5.size _).size (fun k e => (hO5.lt k e).1))
          | (refine step_app rfl rfl chgElem hO5 (by simp [Act.eval, Act.put]; done) (hQ5.row (size := 5) (n := 1) rfl (by decide)) (by simp [Act.eval, Act.put]; done) (by simp [Value.oneCell']) (by omega) (by unfold maxLen; omega) hS5.size ?_; intro A6 c6 w6 hO6 hG6 hw6; have hS6 : Below V.heap.size V w6 := hS5.grown hG6 hS5.size (fun k e => (hO5.lt k e).1))
          | (go_simp; go_at_call 6; refine (small_both (ps ++ [(ch, .slice Ae ch.edits.length ce, .slice Ac ch.recs.length cc)]) (.slice A6 (ps.length + 1) c6) w6 (chgs_own hO6 hS6 HP.out.2 HPP.out) (by have := HZ.out.1; omega) HZ.out.2.1 HZ.out.2.2).mono ?_; rintro e w7 ⟨b, rfl, hb7, hsm, hno⟩; obtain rfl : b = false := (by cases b; rfl; exact absurd (hsm rfl) HS.out); have HX7 := Lib.hid (below_next hS6 hb7); clear hb7 hsm hno))
      | fail
    all_goals exact NoPanic.normal (HQ.out _ _ _ _ _ _ true _ ⟨HX7.out, fun h => by cases h⟩)
end Go.Proofs.YtmhmnchdhacdbaaDoor
/- HistoryAppends: the walk. -/
namespace Go.Proofs.YtmhmnchdhacdbaaDoor
open Go.RowKit
set_option linter.unusedVariables false
set_option linter.unusedSimpArgs false

/-- What a change makes of a depot, or nothing. -/
def ApIs (d : Dep) (c : Chg) (N : Dep) : Prop := appE d c ≠ 0 ∧ N = ⟨[], []⟩ ∨ appE d c = 0 ∧ N.revs = newRevs d c ∧ N.recs.Perm (d.recs ++ c.recs) ∧ N.recs.Pairwise (fun a b => 0 ≤ cmpR b a)
theorem apIs_uniq {d : Dep} {c : Chg} {N M : Dep} (h : DepOk d) (h1 : ApIs d c N) (h2 : ApIs d c M) : N = M := by
  obtain ⟨n1, n2⟩ := N
  obtain ⟨m1, m2⟩ := M
  rcases h1 with ⟨a, b⟩ | ⟨a, b, e, f⟩ <;> rcases h2 with ⟨a', b'⟩ | ⟨a', b', e', f'⟩
  · exact b.trans b'.symm
  · exact absurd a' a
  · exact absurd a a'
  · change n1 = _ at b
    change m1 = _ at b'
    subst b b'
    obtain rfl : n2 = m2 := sorted_one h a e f e' f'
    rfl
theorem apPost_is {w w' : World} {d : Dep} {c : Chg} {e : Ending} (h : ApPost w d c e w') : ∃ (A1 A2 : Option Addr) (c1 c2 : Nat) (N : Dep), e = .returned (.tuple #[.agg #[.slice A1 N.revs.length c1, .slice A2 N.recs.length c2], .int .i64 (appE d c)]) ∧ Below w.heap.size w w' ∧ Revs w' (.slice A1 N.revs.length c1) N.revs ∧ Rcds w' (.slice A2 N.recs.length c2) N.recs ∧ ApIs d c N := by
  obtain ⟨hb, ⟨h1, rfl⟩ | ⟨h0, dv, dr, l, rfl, hR, hQ, h3, h4, -, -⟩⟩ := h
  · exact ⟨none, none, 0, 0, ⟨[], []⟩, rfl, hb, Revs.nil_ _, Rcds.nil_ _, .inl ⟨h1, rfl⟩⟩
  · obtain ⟨A1, c1, rfl, -⟩ := id hR
    obtain ⟨A2, c2, rfl, -⟩ := id hQ
    exact ⟨A1, A2, c1, c2, ⟨newRevs d c, l⟩, by rw [h0], hb, hR, hQ, .inr ⟨h0, rfl, h3, h4⟩⟩
set_option maxRecDepth 100000 in
set_option maxHeartbeats 8000000 in
theorem histAppends_any (ps : List ChV) (ch : Chg) (Ae Ac : Option Addr) (ce cc : Nat) (v : Value) (w : World) (henv : Env w) (hP : Chgs w v ps) (hE : Edts w (.slice Ae ch.edits.length ce) ch.edits) (hC : Rcds w (.slice Ac ch.recs.length cc) ch.recs)
    (hz : sizeOk (ps ++ [(ch, .slice Ae ch.edits.length ce, .slice Ac ch.recs.length cc)])) (hr : ∀ p ∈ ps, ∀ r ∈ p.1.recs, r.last ≤ 9223372036854775807) (hrc : ∀ r ∈ ch.recs, r.last ≤ 9223372036854775807) :
    Calls Tryd.prog 3 #[v, .agg #[.int .i64 ch.num, .string ch.client, .string ch.text, .slice Ae ch.edits.length ce, .slice Ac ch.recs.length cc]] w fun e w' => e = .returned (.bool true) ∧ Below w.heap.size w w' := by
  have HP := Lib.hid hP
  have HEN := Lib.hid henv
  have HE := Lib.hid (show ChV.ok w (ch, .slice Ae ch.edits.length ce, .slice Ac ch.recs.length cc) from ⟨hE, hC⟩)
  have HZ := Lib.hid hz
  have HR := Lib.hid hr
  have HRC := Lib.hid hrc
  have hB := blk_new w [.int .i64 ch.num, .string ch.client, .string ch.text, .slice Ae ch.edits.length ce, .slice Ac ch.recs.length cc] 26
  have hA : Below w.heap.size w (w.alloc (.cells #[.int .i64 ch.num, .string ch.client, .string ch.text, .slice Ae ch.edits.length ce, .slice Ac ch.recs.length cc] 26)) := (Below.refl _ _).alloc (Nat.le_refl _) _
  clear hP hE hC hz hr hrc henv
  go_enter Tryd.func3, Tryd.ntmps3
  go_upto_region 1 with fail
  generalize w.alloc (.cells #[.int .i64 ch.num, .string ch.client, .string ch.text, .slice Ae ch.edits.length ce, .slice Ac ch.recs.length cc] 26) = W1 at hB hA ⊢
  have HB := Lib.hid hB
  have HA := Lib.hid hA
  clear hB hA
  refine appendsR1 _ (by kernel_rfl) _ w.heap.size v ps (ch, .slice Ae ch.edits.length ce, .slice Ac ch.recs.length cc) W1 (HP.out.below HA.out) (ChV.ok_below HE.out HA.out) HB.out HZ.out _ _ _ _ _ _ _ _ _ _ _ _ _ _ _ _ _ _ _ _ _ _ _ _ _ _ _ _ _ _ _ _ _ _ _ _ _ _ _ _ _ _ _ _ _ _ _ _ _ ?_
  intro t11 t12 t13 t14 t15 t16 b w2 H2
  cases b with
  | true =>
    have HB2 := Lib.hid H2.out.1
    clear H2
    go_wp2_with fail
    refine (awake_any w2).mono ?_
    rintro e w3 ⟨rfl, hb3⟩
    have HB3 := Lib.hid hb3
    clear hb3
    go_wp2_with fail
    go_ret
    exact ⟨rfl, below_next HA.out (below_next HB2.out HB3.out)⟩
  | false =>
    have HSM : Hid _ := smallL_init (by have := H2.out.2 rfl; rwa [List.map_append, List.map_cons, List.map_nil] at this)
    have HCW : Hid (ChgW ch) := small_chgW HSM.out.2.1 HSM.out.2.2 HRC.out
    have HB2 := Lib.hid (below_next HA.out H2.out.1)
    have HBC := Lib.hid (HB.out.below H2.out.1 HB.out.lt)
    clear H2 HB
    have HPL := Lib.hid (build_any ps v w2 (HEN.out.below HB2.out) (HP.out.below HB2.out) HSM.out.1 HR.out)
    go_wp2_with fail
    refine HPL.out.mono ?_
    rintro e w3 ⟨dv, dr, d, rfl, hb3, hd, hpl, hfd, hfr⟩
    obtain ⟨A1, c1, rfl, -⟩ := id hd.1
    obtain ⟨A2, c2, rfl, -⟩ := id hd.2.1
    have HRB : Hid (RaB d ch) := Lib.hid (raB_of hpl hd.2.2 HSM.out.1.1 HSM.out.2.1 HCW.out)
    have hl1 : d.revs.length ≤ 512 := hd.2.2.len
    have hl2 : d.recs.length ≤ 512 := hd.2.2.rlen
    have hB5 := blk_new w3 [.slice A1 d.revs.length c1, .slice A2 d.recs.length c2] 31
    have hb5 : Below w2.heap.size w2 (w3.alloc (.cells #[.slice A1 d.revs.length c1, .slice A2 d.recs.length c2] 31)) := below_alloc' hb3 _
    have hd5 := hd.below ((Below.refl _ _).alloc (Nat.le_refl _) (.cells #[.slice A1 d.revs.length c1, .slice A2 d.recs.length c2] 31))
    clear hb3 hd hpl HPL hfd hfr
    go_upto_region 4 with fail
    generalize w3.alloc (.cells #[.slice A1 d.revs.length c1, .slice A2 d.recs.length c2] 31) = W5 at hB5 hb5 hd5 ⊢
    generalize w3.heap.size = g5 at hB5 ⊢
    have HB5 := Lib.hid hB5
    have HD5 := Lib.hid hd5
    have HW5 := Lib.hid (below_next HB2.out hb5)
    have HC5 := Lib.hid (HBC.out.below hb5 HBC.out.lt)
    clear hB5 hb5 hd5 HBC
    obtain ⟨d0, d1, -, -⟩ := box2 HB5.out
    have HCO := Lib.hid (copied_any d (.slice A1 d.revs.length c1) (.slice A2 d.recs.length c2) W5 HD5.out.1 HD5.out.2.1 (by omega) (by omega))
    go_wp2_with fail
    refine HCO.out.mono ?_
    rintro e w4 ⟨ev, er, rfl, hb4, he1, he2, -, -⟩
    obtain ⟨A3, c3, rfl, -⟩ := id he1
    obtain ⟨A4, c4, rfl, -⟩ := id he2
    have hB6 := blk_new w4 [.slice A3 d.revs.length c3, .slice A4 d.recs.length c4] 31
    have hb6 : Below W5.heap.size W5 (w4.alloc (.cells #[.slice A3 d.revs.length c3, .slice A4 d.recs.length c4] 31)) := below_alloc' hb4 _
    have he6 := he1.below ((Below.refl _ _).alloc (Nat.le_refl _) (.cells #[.slice A3 d.revs.length c3, .slice A4 d.recs.length c4] 31))
    have hf6 := he2.below ((Below.refl _ _).alloc (Nat.le_refl _) (.cells #[.slice A3 d.revs.length c3, .slice A4 d.recs.length c4] 31))
    clear hb4 he1 he2 HCO d0 d1
    go_upto_region 5 with fail
    generalize w4.alloc (.cells #[.slice A3 d.revs.length c3, .slice A4 d.recs.length c4] 31) = W6 at hB6 hb6 he6 hf6 ⊢
    generalize w4.heap.size = g6 at hB6 ⊢
    have HB6 := Lib.hid hB6
    have HE6 := Lib.hid (show _ ∧ _ from ⟨he6, hf6⟩)
    have HW6 := Lib.hid (below_next HW5.out hb6)
    have HC6 := Lib.hid (HC5.out.below hb6 HC5.out.lt)
    have HB56 := Lib.hid (HB5.out.below hb6 HB5.out.lt)
    have HD6 := Lib.hid (HD5.out.below hb6)
    clear hB6 hb6 he6 hf6 HB5 HD5 HC5 HW5
    obtain ⟨d0, d1, -, -⟩ := box2 HB56.out
    obtain ⟨k0, k1, k2, k3, k4⟩ := box5 HC6.out
    have HAP := Lib.hid (append_any d ch (.slice A1 d.revs.length c1) (.slice A2 d.recs.length c2) (.slice Ae ch.edits.length ce) (.slice Ac ch.recs.length cc) W6 HD6.out.1 HD6.out.2.1 (HE.out.1.below HW6.out) (HE.out.2.below HW6.out) HD6.out.2.2 HCW.out)
    go_cut [7, 8] (fun v7 v8 wx => ∃ (g7 : Nat) (N1 N2 : Option Addr) (n1 n2 : Nat) (N : Dep), v7 = .pointer (some ⟨g7, 0, none⟩) ∧ v8 = .int .i64 (appE d ch) ∧ Hid (Below W6.heap.size W6 wx ∧ Blk wx g7 31 [.slice N1 N.revs.length n1, .slice N2 N.recs.length n2] ∧ Revs wx (.slice N1 N.revs.length n1) N.revs ∧ Rcds wx (.slice N2 N.recs.length n2) N.recs ∧ ApIs d ch N))
    case first =>
      go_wp2_with fail
      refine HAP.out.mono ?_
      intro e w5 hpost
      obtain ⟨N1, N2, n1, n2, N, rfl, hb, h1, h2, h3⟩ := apPost_is hpost
      have HX := Lib.hid (show _ ∧ _ ∧ _ ∧ _ from ⟨hb, h1, h2, h3⟩)
      clear hb h1 h2 h3 hpost
      go_wp2_with fail
      go_meet
      exact ⟨_, N1, N2, n1, n2, N, rfl, rfl, below_alloc' HX.out.1 _, blk_new w5 [.slice N1 N.revs.length n1, .slice N2 N.recs.length n2] _, HX.out.2.1.below ((Below.refl _ _).alloc (Nat.le_refl _) _), HX.out.2.2.1.below ((Below.refl _ _).alloc (Nat.le_refl _) _), HX.out.2.2.2⟩
    case rest =>
      obtain ⟨g7, N1, N2, n1, n2, N, rfl, rfl, HN⟩ := hcut
      clear d0 d1 k0 k1 k2 k3 k4 HAP
      have HW7 := Lib.hid (below_next HW6.out HN.out.1)
      have HC7 := Lib.hid (HC6.out.below HN.out.1 HC6.out.lt)
      have HB67 := Lib.hid (HB6.out.below HN.out.1 HB6.out.lt)
      have HB57 := Lib.hid (HB56.out.below HN.out.1 HB56.out.lt)
      have HD7 := Lib.hid (HD6.out.below HN.out.1)
      have HE7 := Lib.hid (show _ ∧ _ from ⟨HE6.out.1.below HN.out.1, HE6.out.2.below HN.out.1⟩)
      clear HW6 HC6 HB6 HB56 HD6 HE6
      generalize wc = W7 at HN HW7 HC7 HB67 HB57 HD7 HE7 ⊢
      obtain ⟨d0, d1, -, -⟩ := box2 HB67.out
      obtain ⟨k0, k1, k2, k3, k4⟩ := box5 HC7.out
      have HAP := Lib.hid (refAppend_any d ch (.slice A3 d.revs.length c3) (.slice A4 d.recs.length c4) (.slice Ae ch.edits.length ce) (.slice Ac ch.recs.length cc) W7 HRB.out (HEN.out.below HW7.out) HE7.out.1 HE7.out.2 (HE.out.1.below HW7.out) (HE.out.2.below HW7.out))
      go_upto_region 6 with fail
      go_wp2_with fail
      refine HAP.out.mono ?_
      intro e w5 hpost
      obtain ⟨M1, M2, m1, m2, M, rfl, hb, h1, h2, h3⟩ := apPost_is hpost
      obtain rfl : M = N := apIs_uniq HRB.out.ck.ok h3 HN.out.2.2.2.2
      have hB9 := blk_new w5 [.slice M1 M.revs.length m1, .slice M2 M.recs.length m2] 31
      have hb9 : Below W7.heap.size W7 (w5.alloc (.cells #[.slice M1 M.revs.length m1, .slice M2 M.recs.length m2] 31)) := below_alloc' hb _
      have h19 := h1.below ((Below.refl _ _).alloc (Nat.le_refl _) (.cells #[.slice M1 M.revs.length m1, .slice M2 M.recs.length m2] 31))
      have h29 := h2.below ((Below.refl _ _).alloc (Nat.le_refl _) (.cells #[.slice M1 M.revs.length m1, .slice M2 M.recs.length m2] 31))
      clear d0 d1 k0 k1 k2 k3 k4 HAP hpost hb h1 h2 h3
      go_upto_region 7 with fail
      generalize w5.alloc (.cells #[.slice M1 M.revs.length m1, .slice M2 M.recs.length m2] 31) = W9 at hB9 hb9 h19 h29 ⊢
      generalize w5.heap.size = g9 at hB9 ⊢
      have HB9 := Lib.hid hB9
      have HW9 := Lib.hid (below_next HW7.out hb9)
      have HB79 := Lib.hid (HN.out.2.1.below hb9 HN.out.2.1.lt)
      have HB69 := Lib.hid (HB67.out.below hb9 HB67.out.lt)
      have HB59 := Lib.hid (HB57.out.below hb9 HB57.out.lt)
      have HSA := Lib.hid (fun X (hX : Below W9.heap.size W9 X) => refSame_any M M (.slice N1 M.revs.length n1) (.slice N2 M.recs.length n2) (.slice M1 M.revs.length m1) (.slice M2 M.recs.length m2) X ((HN.out.2.2.1.below hb9).below hX) ((HN.out.2.2.2.1.below hb9).below hX) (h19.below hX) (h29.below hX))
      have HSB := Lib.hid (fun X (hX : Below W9.heap.size W9 X) => refSame_any d d (.slice A1 d.revs.length c1) (.slice A2 d.recs.length c2) (.slice A3 d.revs.length c3) (.slice A4 d.recs.length c4) X ((HD7.out.1.below hb9).below hX) ((HD7.out.2.1.below hb9).below hX) ((HE7.out.1.below hb9).below hX) ((HE7.out.2.below hb9).below hX))
      have q1 : (appE d ch == appE d ch) = true := by simp
      rw [same_self] at HSA HSB
      clear hB9 hb9 h19 h29 HN HB67 HB57 HD7 HE7
      obtain ⟨d0, d1, -, -⟩ := box2 HB79.out
      obtain ⟨e0, e1, -, -⟩ := box2 HB9.out
      have HS1 := Lib.hid (HSA.out W9 (Below.refl _ _))
      go_wp2_with fail
      refine HS1.out.mono ?_
      rintro e X1 ⟨rfl, hx1⟩
      have HX1 := Lib.hid hx1
      clear d0 d1 e0 e1 HS1 hx1
      obtain ⟨d0, d1, -, -⟩ := box2 (HB59.out.below HX1.out HB59.out.lt)
      obtain ⟨e0, e1, -, -⟩ := box2 (HB69.out.below HX1.out HB69.out.lt)
      have HS2 := Lib.hid (HSB.out X1 HX1.out)
      go_wp2_with fail
      refine HS2.out.mono ?_
      rintro e X2 ⟨rfl, hx2⟩
      have HX2 := Lib.hid (below_next HX1.out hx2)
      clear d0 d1 e0 e1 HS2 hx2
      have HAW := Lib.hid (awake_any X2)
      go_wp2_with fail
      refine HAW.out.mono ?_
      rintro e X3 ⟨rfl, hx3⟩
      have HX3 := Lib.hid (below_next HX2.out hx3)
      clear hx3
      go_wp2_with fail
      go_ret
      exact ⟨rfl, below_next HW9.out HX3.out⟩
end Go.Proofs.YtmhmnchdhacdbaaDoor
/- The walk of HistoryAppends at its arguments as the row reads them. -/
namespace Go.Proofs.YtmhmnchdhacdbaaDoor
open Go.RowKit Go.ChangeShapes Go.WideShapes Go.Deep
set_option linter.unusedVariables false

theorem historyAppends_walk (ps : List ChV) (v : Value) (ch : Chg) (Ae Ac : Option Addr) (ce cc : Nat) (w : World) (he : Env w) (h0 : ChgsRd w v ps) (h1 : ChV.rd w (ch, .slice Ae ch.edits.length ce, .slice Ac ch.recs.length cc)) :
    Calls Tryd.prog 3 #[v, .agg #[.int .i64 ch.num, .string ch.client, .string ch.text, .slice Ae ch.edits.length ce, .slice Ac ch.recs.length cc]] w fun e w' => e = .returned (.bool true) ∧ Below w.heap.size w w' :=
  histAppends_any ps ch Ae Ac ce cc v w he h0.1 h1.1.1 h1.1.2 (rd_sizeOk h0 h1) (fun p hp => rd_last (h0.2.2 p hp)) (rd_last h1)
end Go.Proofs.YtmhmnchdhacdbaaDoor
