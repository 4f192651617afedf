/- HistoryPlays: the walk. -/
import Derived.Test.YtmhmnchdhacdbaaDoorMgv9
import Derived.Test.YtmhmnchdhacdbaaDoorMgv10
import Derived.Test.YtmhmnchdhacdbaaDoorMgv11
import Derived.Test.YtmhmnchdhacdbaaDoorMzSmB
import Derived.Test.YtmhmnchdhacdbaaDoorMgv0
namespace Go.Proofs.YtmhmnchdhacdbaaDoor
open Go.RowKit
set_option linter.unusedVariables false
set_option linter.unusedSimpArgs false

theorem plays_recsz {l : List Chg} {d : Dep} (h : Plays l d) (hs : ∀ c ∈ l, chgSm c) : ∀ r ∈ d.recs, rcdSm r := by
  induction h with
  | nil => intro r hr; cases hr
  | skip _ _ ih => exact ih fun c hc => hs c (List.mem_append_left _ hc)
  | step _ _ hp _ ih =>
    intro r hr
    rcases List.mem_append.1 (hp.mem_iff.1 hr) with hr | hr
    · exact ih (fun c hc => hs c (List.mem_append_left _ hc)) r hr
    · exact (hs _ (List.mem_append_right _ (List.mem_cons_self ..))).2 r hr
theorem raB_of {l : List Chg} {d : Dep} {c : Chg} (h : Plays l d) (hd : DepW d) (hs : ∀ c ∈ l, chgSm c) (hc : chgSm c) (hw : ChgW c) : RaB d c :=
  ⟨⟨plays_depOk h, hd, by have := hw.len; omega, by have := hw.rlen; omega, fun e he => by have := hw.path e he; omega, fun r hr => by have := hc.2 r hr; unfold rcdSm at this; omega⟩,
    fun r hr => by have := plays_recsz h hs r hr; unfold rcdSm at this; omega⟩
/-- The state of HistoryPlays's loop: both depots are the same. -/
structure PwSt (w wr : World) (l : List Chg) (g3 g4 B : Nat) (dv dr ev er : Value) (d : Dep) : Prop where
  bel : Below w.heap.size w wr
  box3 : Blk wr g3 31 [dv, dr]
  box4 : Blk wr g4 31 [ev, er]
  dep : DepAt wr dv dr d
  rep : DepAt wr ev er d
  far : Fresh B dv ∧ Fresh B dr ∧ Fresh B ev ∧ Fresh B er
  pl : Plays l d
theorem PwSt.under {w wr X : World} {l : List Chg} {g3 g4 B : Nat} {dv dr ev er : Value} {d : Dep} (h : PwSt w wr l g3 g4 B dv dr ev er d) (hX : Below wr.heap.size wr X) : PwSt w X l g3 g4 B dv dr ev er d :=
  ⟨below_next h.bel hX, h.box3.below hX h.box3.lt, h.box4.below hX h.box4.lt, h.dep.below hX, h.rep.below hX, h.far, h.pl⟩
theorem same_self (d : Dep) : sameD d d = true := same_yes rfl rfl
/-- Both depots are put in the places of the old ones, in either order. -/
theorem PwSt.put {w V : World} {l l' : List Chg} {B n1 n2 : Nat} {dv dr ev er : Value} {d d' : Dep} {a b c e : Value} (h : PwSt w V l B (B + 1) (B + 1 + 1) dv dr ev er d) (hw : w.heap.size ≤ B)
    (h1 : DepAt V a b d') (h2 : DepAt V c e d') (fa : Fresh n1 a) (fb : Fresh n1 b) (fc : Fresh n2 c) (fe : Fresh n2 e) (hn1 : B + 1 + 1 ≤ n1) (hn2 : B + 1 + 1 ≤ n2) (hp : Plays l' d') :
    PwSt w ((((V.setCell ⟨B, 0, none⟩ a).setCell ⟨B, 1, none⟩ b).setCell ⟨B + 1, 0, none⟩ c).setCell ⟨B + 1, 1, none⟩ e) l' B (B + 1) (B + 1 + 1) a b c e d' ∧
    PwSt w ((((V.setCell ⟨B + 1, 0, none⟩ c).setCell ⟨B + 1, 1, none⟩ e).setCell ⟨B, 0, none⟩ a).setCell ⟨B, 1, none⟩ b) l' B (B + 1) (B + 1 + 1) a b c e d' := by
  have k1 : a.ownBlock ≠ some B ∧ a.ownBlock ≠ some (B + 1) := ⟨fun h => by have := fa _ h; omega, fun h => by have := fa _ h; omega⟩
  have k2 : b.ownBlock ≠ some B ∧ b.ownBlock ≠ some (B + 1) := ⟨fun h => by have := fb _ h; omega, fun h => by have := fb _ h; omega⟩
  have k3 : c.ownBlock ≠ some B ∧ c.ownBlock ≠ some (B + 1) := ⟨fun h => by have := fc _ h; omega, fun h => by have := fc _ h; omega⟩
  have k4 : e.ownBlock ≠ some B ∧ e.ownBlock ≠ some (B + 1) := ⟨fun h => by have := fe _ h; omega, fun h => by have := fe _ h; omega⟩
  have hf : Fresh (B + 1 + 1) a ∧ Fresh (B + 1 + 1) b ∧ Fresh (B + 1 + 1) c ∧ Fresh (B + 1 + 1) e := ⟨fun x hx => Nat.le_trans hn1 (fa x hx), fun x hx => Nat.le_trans hn1 (fb x hx), fun x hx => Nat.le_trans hn2 (fc x hx), fun x hx => Nat.le_trans hn2 (fe x hx)⟩
  constructor
  · exact ⟨(((h.bel.setCell (p := ⟨B, 0, none⟩) hw _).setCell (p := ⟨B, 1, none⟩) hw _).setCell (p := ⟨B + 1, 0, none⟩) (by simp; omega) _).setCell (p := ⟨B + 1, 1, none⟩) (by simp; omega) _,
      (((h.box3.set_ 0 a).set_ 1 b).far (p := ⟨B + 1, 0, none⟩) (by simp) _).far (p := ⟨B + 1, 1, none⟩) (by simp) _,
      (((h.box4.far (p := ⟨B, 0, none⟩) (by simp) _).far (p := ⟨B, 1, none⟩) (by simp) _).set_ 0 c).set_ 1 e,
      (((h1.setCell k1.1 k2.1).setCell k1.1 k2.1).setCell k1.2 k2.2).setCell k1.2 k2.2,
      (((h2.setCell k3.1 k4.1).setCell k3.1 k4.1).setCell k3.2 k4.2).setCell k3.2 k4.2, hf, hp⟩
  · exact ⟨(((h.bel.setCell (p := ⟨B + 1, 0, none⟩) (by simp; omega) _).setCell (p := ⟨B + 1, 1, none⟩) (by simp; omega) _).setCell (p := ⟨B, 0, none⟩) hw _).setCell (p := ⟨B, 1, none⟩) hw _,
      (((h.box3.far (p := ⟨B + 1, 0, none⟩) (by simp) _).far (p := ⟨B + 1, 1, none⟩) (by simp) _).set_ 0 a).set_ 1 b,
      (((h.box4.set_ 0 c).set_ 1 e).far (p := ⟨B, 0, none⟩) (by simp) _).far (p := ⟨B, 1, none⟩) (by simp) _,
      (((h1.setCell k1.2 k2.2).setCell k1.2 k2.2).setCell k1.1 k2.1).setCell k1.1 k2.1,
      (((h2.setCell k3.2 k4.2).setCell k3.2 k4.2).setCell k3.1 k4.1).setCell k3.1 k4.1, hf, hp⟩
set_option maxRecDepth 100000 in
set_option maxHeartbeats 8000000 in
theorem histPlays_any (ps : List ChV) (v : Value) (w : World) (he : Env w) (hP : Chgs w v ps) (hz : sizeOk ps) (hr : ∀ p ∈ ps, ∀ r ∈ p.1.recs, r.last ≤ 9223372036854775807) :
    Calls Tryd.prog 4 #[v] w fun e w' => e = .returned (.bool true) ∧ Below w.heap.size w w' := by
  obtain ⟨A, c, rfl, hc, hm, -⟩ := id hP.1
  have HP := Lib.hid hP
  have HEN := Lib.hid he
  have HSB := Lib.hid (small_both ps (.slice A ps.length c) w hP (by have := hz.1; omega) hz.2.1 hz.2.2)
  have HR := Lib.hid hr
  unfold maxLen at hm
  clear hP hz hr he
  go_enter Tryd.func4, Tryd.ntmps4
  go_wp2_with fail
  refine HSB.out.mono ?_
  rintro e w1 ⟨b, rfl, hb1, hsm, -⟩
  have HB1 := Lib.hid hb1
  clear hb1 HSB
  cases b with
  | false =>
    clear hsm
    go_wp2_with fail
    refine (awake_any w1).mono ?_
    rintro e w3 ⟨rfl, hb3⟩
    have HB3 := Lib.hid hb3
    clear hb3
    go_wp2_with fail
    go_ret
    exact ⟨rfl, below_next HB1.out HB3.out⟩
  | true =>
    have HSM := Lib.hid (hsm rfl)
    clear hsm
    have hl40 : ps.length ≤ 40 := by have := HSM.out.2.1; rwa [List.length_map] at this
    have HS := Lib.hid (fun (p : ChV) (hp : p ∈ ps) => small_chgW (HSM.out.1 p.1 (List.mem_map_of_mem hp)) (Nat.le_trans (lenSum_mem (List.mem_map_of_mem hp)) HSM.out.2.2) (HR.out p hp))
    go_upto_block 0 with fail
    have hst : PwSt w ((w1.alloc (.cells #[.slice none 0 0, .slice none 0 0] 31)).alloc (.cells #[.slice none 0 0, .slice none 0 0] 31)) [] w1.heap.size (w1.heap.size + 1) (w1.heap.size + 1 + 1) (.slice none 0 0) (.slice none 0 0) (.slice none 0 0) (.slice none 0 0) ⟨[], []⟩ := by
      refine ⟨(HB1.out.alloc HB1.out.size _).alloc (by have := HB1.out.size; simp; omega) _, (blk_new w1 _ _).alloc _, blk_at (by simp), ⟨Revs.nil_ _, Rcds.nil_ _, depW_nil⟩, ⟨Revs.nil_ _, Rcds.nil_ _, depW_nil⟩, ⟨fun x e => (by cases e), fun x e => (by cases e), fun x e => (by cases e), fun x e => (by cases e)⟩, Plays.nil⟩
    generalize (w1.alloc (.cells #[.slice none 0 0, .slice none 0 0] 31)).alloc (.cells #[.slice none 0 0, .slice none 0 0] 31) = W0 at hst ⊢
    have HST := Lib.hid hst
    have HSZ1 := Lib.hid HB1.out.size
    clear hst
    go_cut [] (fun wx => Hid (Below w.heap.size w wx))
    case rest =>
      have HX := Lib.hid hcut.out
      clear hcut
      go_wp2_with fail
      refine (awake_any wc).mono ?_
      rintro e w3 ⟨rfl, hb3⟩
      have HB3 := Lib.hid hb3
      clear hb3
      go_wp2_with fail
      go_ret
      exact ⟨rfl, below_next HX.out HB3.out⟩
    case first =>
      go_wp2_with fail
      go_loopw [17] (fun s wr => ∃ (k : Nat) (dv dr ev er : Value) (d : Dep), s = .int .i64 k ∧ k ≤ ps.length ∧ Hid (PwSt w wr ((ps.take k).map (·.1)) w1.heap.size (w1.heap.size + 1) (w1.heap.size + 1 + 1) dv dr ev er d)) (fun s _ => ps.length - (intOf s).toNat)
      case atStart => exact ⟨0, _, _, _, _, _, rfl, Nat.zero_le _, HST.out⟩
      case round =>
        obtain ⟨k, dv, dr, ev, er, d, rfl, hk, HI⟩ := hrel
        clear HST
        by_cases hlt : k < ps.length
        · have hPr := HP.out.below HI.out.bel
          obtain ⟨ad, rfl, hab, hld⟩ := Chgs.at_ hPr hlt
          have HT := Lib.hid (show ps.take (k + 1) = ps.take k ++ [ps[k]] from List.take_succ_eq_append_getElem hlt)
          have hpm : ps[k] ∈ ps := List.getElem_mem _
          have hok := hPr.2 ps[k] hpm
          have HPM := Lib.hid (HS.out ps[k] hpm)
          have HPS : Hid (RaB d (ps[k]).1) := Lib.hid (raB_of HI.out.pl HI.out.dep.2.2 (fun c hc => by
            obtain ⟨p, hp, rfl⟩ := List.mem_map.1 hc
            exact HSM.out.1 _ (List.mem_map_of_mem (List.mem_of_mem_take hp))) (HSM.out.1 _ (List.mem_map_of_mem hpm)) HPM.out)
          generalize ps[k] = p at hld HT hok HPM HPS
          clear hpm hPr
          obtain ⟨ch, xv, rv⟩ := p
          obtain ⟨Ae, ce, he, -⟩ := id hok.1
          obtain ⟨Ac, cc, hc2, -⟩ := id hok.2
          change xv = .slice Ae ch.edits.length ce at he
          change rv = .slice Ac ch.recs.length cc at hc2
          subst he hc2
          obtain ⟨x0, x1, x2, x3, x4⟩ := hld
          change wr.cell? (ad.add (k * 5)) = some (.int .i64 ch.num) at x0
          change wr.cell? ⟨(ad.add (k * 5)).block, (ad.add (k * 5)).off + 1, none⟩ = some (.string ch.client) at x1
          change wr.cell? ⟨(ad.add (k * 5)).block, (ad.add (k * 5)).off + 2, none⟩ = some (.string ch.text) at x2
          change wr.cell? ⟨(ad.add (k * 5)).block, (ad.add (k * 5)).off + 3, none⟩ = some (.slice Ae ch.edits.length ce) at x3
          change wr.cell? ⟨(ad.add (k * 5)).block, (ad.add (k * 5)).off + 4, none⟩ = some (.slice Ac ch.recs.length cc) at x4
          have HOK : Hid (Edts wr (.slice Ae ch.edits.length ce) ch.edits ∧ Rcds wr (.slice Ac ch.recs.length cc) ch.recs) := Lib.hid hok
          change Hid (RaB d ch) at HPS
          clear hok
          have hX1 := blk_new wr [.int .i64 ch.num, .string ch.client, .string ch.text, .slice Ae ch.edits.length ce, .slice Ac ch.recs.length cc] 26
          have hA1 : Below wr.heap.size wr (wr.alloc (.cells #[.int .i64 ch.num, .string ch.client, .string ch.text, .slice Ae ch.edits.length ce, .slice Ac ch.recs.length cc] 26)) := (Below.refl _ _).alloc (Nat.le_refl _) _
          go_upto_region 7 with fail
          clear x0 x1 x2 x3 x4
          generalize wr.alloc (.cells #[.int .i64 ch.num, .string ch.client, .string ch.text, .slice Ae ch.edits.length ce, .slice Ac ch.recs.length cc] 26) = V1 at hX1 hA1 ⊢
          generalize wr.heap.size = g6 at hX1 ⊢
          have HS1 := Lib.hid (HI.out.under hA1)
          have HX1 := Lib.hid hX1
          have HO1 : Hid (Edts V1 (.slice Ae ch.edits.length ce) ch.edits ∧ Rcds V1 (.slice Ac ch.recs.length cc) ch.recs) := Lib.hid ⟨HOK.out.1.below hA1, HOK.out.2.below hA1⟩
          clear hX1 hA1 HI HOK
          obtain ⟨A1, c1, hdv, -⟩ := id HS1.out.dep.1
          obtain ⟨A2, c2, hdr, -⟩ := id HS1.out.dep.2.1
          obtain ⟨A3, c3, hev, -⟩ := id HS1.out.rep.1
          obtain ⟨A4, c4, her, -⟩ := id HS1.out.rep.2.1
          subst hdv hdr hev her
          obtain ⟨y0, y1, y2, y3, y4⟩ := box5 HX1.out
          obtain ⟨z0, z1, -, -⟩ := box2 HS1.out.box3
          have HAP := Lib.hid (append_any d ch (.slice A1 d.revs.length c1) (.slice A2 d.recs.length c2) (.slice Ae ch.edits.length ce) (.slice Ac ch.recs.length cc) V1 HS1.out.dep.1 HS1.out.dep.2.1 HO1.out.1 HO1.out.2 HS1.out.dep.2.2 HPM.out)
          go_wp2_with fail
          refine HAP.out.mono ?_
          rintro e V2 ⟨hb2, hres⟩
          have HB2 := Lib.hid hb2
          have HRES := Lib.hid hres
          have HAP2 := Lib.hid (fun X (hX : Below V1.heap.size V1 X) => refAppend_any d ch (.slice A3 d.revs.length c3) (.slice A4 d.recs.length c4) (.slice Ae ch.edits.length ce) (.slice Ac ch.recs.length cc) X HPS.out (HEN.out.below (below_next HS1.out.bel hX)) (HS1.out.rep.1.below hX) (HS1.out.rep.2.1.below hX) (HO1.out.1.below hX) (HO1.out.2.below hX))
          clear hb2 hres y0 y1 y2 y3 y4 z0 z1 HAP
          rcases HRES.out with ⟨hn0, rfl⟩ | ⟨h0, dv', dr', rs, rfl, hR', hQ', hpm', hpw', hf1, hf2⟩
          · have HN0 := Lib.hid hn0
            have q0 : (appE d ch == 0) = false := by simpa using hn0
            have q1 : (appE d ch != appE d ch) = false := by simp
            have hY7 := blk_new V2 [.slice none 0 0, .slice none 0 0] 31
            have hA7 : Below V1.heap.size V1 (V2.alloc (.cells #[.slice none 0 0, .slice none 0 0] 31)) := below_alloc' HB2.out _
            clear hn0
            go_upto_region 8 with fail
            generalize V2.alloc (.cells #[.slice none 0 0, .slice none 0 0] 31) = V3 at hY7 hA7 ⊢
            generalize V2.heap.size = g7 at hY7 ⊢
            have HY7 := Lib.hid hY7
            have HA7 := Lib.hid hA7
            obtain ⟨y0, y1, y2, y3, y4⟩ := box5 (HX1.out.below hA7 HX1.out.lt)
            obtain ⟨z0, z1, -, -⟩ := box2 (HS1.out.box4.below hA7 HS1.out.box4.lt)
            have HA := Lib.hid (HAP2.out V3 hA7)
            clear hY7 hA7 HAP2
            go_wp2_with fail
            refine HA.out.mono ?_
            rintro e V4 ⟨hb4, ⟨-, rfl⟩ | ⟨h0, -⟩⟩
            case inr => exact absurd h0 HN0.out
            have HB4 := Lib.hid hb4
            have hY9 := blk_new V4 [.slice none 0 0, .slice none 0 0] 31
            have hA9 : Below V3.heap.size V3 (V4.alloc (.cells #[.slice none 0 0, .slice none 0 0] 31)) := below_alloc' hb4 _
            clear y0 y1 y2 y3 y4 z0 z1 hb4
            go_upto_region 9 with fail
            generalize V4.alloc (.cells #[.slice none 0 0, .slice none 0 0] 31) = V5 at hY9 hA9 ⊢
            generalize V4.heap.size = g9 at hY9 ⊢
            obtain ⟨y0, y1, -, -⟩ := box2 hY9
            obtain ⟨z0, z1, -, -⟩ := box2 (HY7.out.below hA9 HY7.out.lt)
            have HA9 := Lib.hid (below_next HA7.out hA9)
            have HSA := Lib.hid (refSame_any ⟨[], []⟩ ⟨[], []⟩ (.slice none 0 0) (.slice none 0 0) (.slice none 0 0) (.slice none 0 0) V5 (Revs.nil_ _) (Rcds.nil_ _) (Revs.nil_ _) (Rcds.nil_ _))
            rw [same_self] at HSA
            clear hY9 hA9
            go_wp2_with fail
            refine HSA.out.mono ?_
            rintro e V6 ⟨rfl, hb6⟩
            have HB6 := Lib.hid (below_next HA9.out hb6)
            clear hb6 y0 y1 z0 z1
            go_wp2_with fail
            go_roundw
            case rel =>
              refine ⟨k + 1, .slice A1 d.revs.length c1, .slice A2 d.recs.length c2, .slice A3 d.revs.length c3, .slice A4 d.recs.length c4, d, by go_num, by omega, ?_⟩
              have h := HS1.out.under HB6.out
              exact ⟨h.bel, h.box3, h.box4, h.dep, h.rep, h.far, by rw [HT.out, List.map_append, List.map_cons, List.map_nil]; exact Plays.skip h.pl HN0.out⟩
            case measure => simp [intOf]; omega
          · obtain ⟨A5, c5, rfl, -⟩ := id hR'
            obtain ⟨A6, c6, rfl, -⟩ := id hQ'
            have H0 := Lib.hid h0
            have HDP : Hid (DepAt V2 (.slice A5 (newRevs d ch).length c5) (.slice A6 rs.length c6) ⟨newRevs d ch, rs⟩) := Lib.hid ⟨hR', hQ', appE_keeps HS1.out.dep.2.2 HPM.out h0 rs hpm'⟩
            have HPL : Hid (Plays ((ps.take k).map (·.1) ++ [ch]) ⟨newRevs d ch, rs⟩) := Lib.hid (Plays.step HS1.out.pl h0 hpm' hpw')
            have HFR := Lib.hid (show _ ∧ _ from ⟨hf1, hf2⟩)
            have HPP := Lib.hid (show _ ∧ _ from ⟨hpm', hpw'⟩)
            have hY7 := blk_new V2 [.slice A5 (newRevs d ch).length c5, .slice A6 rs.length c6] 31
            have hA7 : Below V1.heap.size V1 (V2.alloc (.cells #[.slice A5 (newRevs d ch).length c5, .slice A6 rs.length c6] 31)) := below_alloc' HB2.out _
            have hD7 := HDP.out.below ((Below.refl _ _).alloc (Nat.le_refl _) (.cells #[.slice A5 (newRevs d ch).length c5, .slice A6 rs.length c6] 31))
            clear hR' hQ' hpm' hpw' hf1 hf2 h0
            go_upto_region 8 with fail
            generalize V2.alloc (.cells #[.slice A5 (newRevs d ch).length c5, .slice A6 rs.length c6] 31) = V3 at hY7 hA7 hD7 ⊢
            have hg7 : w1.heap.size + 1 < V2.heap.size := by have := HS1.out.box4.lt; have := HB2.out.size; omega
            generalize V2.heap.size = g7 at hY7 hg7 ⊢
            have HG7 := Lib.hid hg7
            clear hg7
            have HY7 := Lib.hid hY7
            have HA7 := Lib.hid hA7
            have HD7 := Lib.hid hD7
            obtain ⟨y0, y1, y2, y3, y4⟩ := box5 (HX1.out.below hA7 HX1.out.lt)
            obtain ⟨z0, z1, -, -⟩ := box2 (HS1.out.box4.below hA7 HS1.out.box4.lt)
            have HA := Lib.hid (HAP2.out V3 hA7)
            clear hY7 hA7 hD7 HAP2
            go_wp2_with fail
            refine HA.out.mono ?_
            rintro e V4 ⟨hb4, ⟨hn, -⟩ | ⟨-, ev', er', rs2, rfl, hR2, hQ2, hpm2, hpw2, hf3, hf4⟩⟩
            case inl => exact absurd H0.out hn
            obtain rfl : rs2 = rs := sorted_one HPS.out.ck.ok H0.out hpm2 hpw2 HPP.out.1 HPP.out.2
            obtain ⟨A7, c7, rfl, -⟩ := id hR2
            obtain ⟨A8, c8, rfl, -⟩ := id hQ2
            have HDP2 : Hid (DepAt V4 (.slice A7 (newRevs d ch).length c7) (.slice A8 rs2.length c8) ⟨newRevs d ch, rs2⟩) := Lib.hid ⟨hR2, hQ2, HD7.out.2.2⟩
            have HFR2 := Lib.hid (show _ ∧ _ from ⟨hf3, hf4⟩)
            have HB4S := Lib.hid hb4.size
            have hY9 := blk_new V4 [.slice A7 (newRevs d ch).length c7, .slice A8 rs2.length c8] 31
            have hA9 : Below V3.heap.size V3 (V4.alloc (.cells #[.slice A7 (newRevs d ch).length c7, .slice A8 rs2.length c8] 31)) := below_alloc' hb4 _
            have hD9 := HDP2.out.below ((Below.refl _ _).alloc (Nat.le_refl _) (.cells #[.slice A7 (newRevs d ch).length c7, .slice A8 rs2.length c8] 31))
            have q0 : (appE d ch == 0) = true := by simpa using H0.out
            have q1 : (appE d ch != 0) = false := by rw [H0.out]; rfl
            clear y0 y1 y2 y3 y4 z0 z1 hb4 hR2 hQ2 hpm2 hpw2 hf3 hf4
            go_upto_region 9 with fail
            generalize V4.alloc (.cells #[.slice A7 (newRevs d ch).length c7, .slice A8 rs2.length c8] 31) = V5 at hY9 hA9 hD9 ⊢
            have hg9 : w1.heap.size + 1 < V4.heap.size := by have := HS1.out.box4.lt; have := HA7.out.size; have := HB4S.out; omega
            generalize V4.heap.size = g9 at hY9 hg9 ⊢
            have HG9 := Lib.hid hg9
            clear hg9
            obtain ⟨y0, y1, -, -⟩ := box2 hY9
            obtain ⟨z0, z1, -, -⟩ := box2 (HY7.out.below hA9 HY7.out.lt)
            have HY9 := Lib.hid hY9
            have HA9 := Lib.hid (show _ ∧ _ from ⟨hA9, below_next HA7.out hA9⟩)
            have HD9 := Lib.hid hD9
            have HSA := Lib.hid (refSame_any ⟨newRevs d ch, rs2⟩ ⟨newRevs d ch, rs2⟩ (.slice A5 (newRevs d ch).length c5) (.slice A6 rs2.length c6) (.slice A7 (newRevs d ch).length c7) (.slice A8 rs2.length c8) V5 (HD7.out.1.below hA9) (HD7.out.2.1.below hA9) hD9.1 hD9.2.1)
            rw [same_self] at HSA
            clear hY9 hA9 hD9
            go_wp2_with fail
            refine HSA.out.mono ?_
            rintro e V6 ⟨rfl, hb6⟩
            clear y0 y1 z0 z1
            have HS6 := Lib.hid (HS1.out.under (below_next HA9.out.2 hb6))
            have HD76 := Lib.hid (HD7.out.below (below_next HA9.out.1 hb6))
            have HD96 := Lib.hid (HD9.out.below hb6)
            obtain ⟨y0, y1, -, -⟩ := box2 (HY9.out.below hb6 HY9.out.lt)
            obtain ⟨z0, z1, -, -⟩ := box2 ((HY7.out.below HA9.out.1 HY7.out.lt).below hb6 (HY7.out.below HA9.out.1 HY7.out.lt).lt)
            obtain ⟨o0, o1, o2, o3⟩ := box2 HS6.out.box3
            obtain ⟨r0, r1, r2, r3⟩ := box2 HS6.out.box4
            have HPUT := Lib.hid (HS6.out.put HSZ1.out HD76.out HD96.out HFR.out.1 HFR.out.2 HFR2.out.1 HFR2.out.2 (by have := HS1.out.box4.lt; omega) (by have := HS1.out.box4.lt; have := HA7.out.size; omega) HPL.out)
            have u1 : ¬ g7 = w1.heap.size := by have := HG7.out; omega
            have u2 : ¬ g7 = w1.heap.size + 1 := by have := HG7.out; omega
            have u3 : ¬ g9 = w1.heap.size := by have := HG9.out; omega
            have u4 : ¬ g9 = w1.heap.size + 1 := by have := HG9.out; omega
            have u5 : ¬ w1.heap.size = g7 := fun h => u1 h.symm
            have u6 : ¬ w1.heap.size + 1 = g7 := fun h => u2 h.symm
            have u7 : ¬ w1.heap.size = g9 := fun h => u3 h.symm
            have u8 : ¬ w1.heap.size + 1 = g9 := fun h => u4 h.symm
            clear hb6
            go_upto_region 12 with fail
            refine wp_region_noPanic ?_
            first
              | go_region_law (fail)
              | fail
            all_goals
              refine NoPanic.normal ?_
              go_wp2_with fail
              go_roundw
              case rel =>
                refine ⟨k + 1, .slice A5 (newRevs d ch).length c5, .slice A6 rs2.length c6, .slice A7 (newRevs d ch).length c7, .slice A8 rs2.length c8, ⟨newRevs d ch, rs2⟩, by go_num, by omega, ?_⟩
                rw [HT.out, List.map_append, List.map_cons, List.map_nil]
                exact HPUT.out.1.under (Below.refl _ _).drew
              case measure => simp [intOf]; omega
        · have hke : k = ps.length := by omega
          have q : decide ((k : Int) < (ps.length : Int)) = false := by simp; omega
          have q' : decide (k < ps.length) = false := by simp; omega
          have HB := Lib.hid HI.out.bel
          clear hke
          go_wp2_with fail
          go_meet
          exact HB.out
end Go.Proofs.YtmhmnchdhacdbaaDoor
