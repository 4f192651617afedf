/- history.List walked. -/
import Derived.Test.YtnblfaagchflaaaGreatDoorMgw25
import Derived.Test.YtnblfaagchflaaaGreatDoorMzOrd
import Derived.Test.YtnblfaagchflaaaGreatDoorMgw19
import Derived.Test.YtnblfaagchflaaaGreatDoorMgw26
namespace Go.Proofs.YtnblfaagchflaaaGreatDoor
open Go.RowKit
set_option linter.unusedVariables false
set_option linter.unusedSimpArgs false

def ListPost (w : World) (D : List Rev) (p : Pat) (m : Int) (e : Ending) (w' : World) : Prop := ∃ v l, e = .returned v ∧ Below w.heap.size w w' ∧ Revs w' v l ∧ LsOk D p m l ∧ l.length ≤ D.length
theorem revs_none (w : World) : Revs w (.slice none 0 0) [] := Row.of_own (base := 0) (e := 0) (World.ownsRow_nil _ _ _ _)
/-- The state of the first loop. -/
structure L1St (w wr : World) (D : List Rev) (p : Pat) (m : Int) (Ap : Option Addr) (cp g4 B k : Nat) : Prop where
  bel : Below w.heap.size w wr
  pat : Blk wr g4 25 [.slice Ap p.parts.length cp, .bool p.rest]
  map : NMap Value.string Rev.val wr B (lsOf (D.take k) m)
theorem L1St.under {w wr X : World} {D : List Rev} {p : Pat} {m : Int} {Ap : Option Addr} {cp g4 B k : Nat} (h : L1St w wr D p m Ap cp g4 B k) (hX : Below wr.heap.size wr X) : L1St w X D p m Ap cp g4 B k :=
  ⟨below_next h.bel hX, h.pat.below hX h.pat.lt, h.map.below hX⟩
set_option maxRecDepth 100000 in
set_option maxHeartbeats 8000000 in
theorem list_any (D : List Rev) (p : Pat) (m : Int) (dv dr : Value) (Ap : Option Addr) (cp : Nat) (w : World) (he : Env w) (hR : Revs w dv D) (hl : D.length ≤ 1000000) (hv : ∀ r ∈ D, validS r.path = true ∧ r.path.size ≤ 1000000)
    (hS : Strs w (.slice Ap p.parts.length cp) p.parts) (hz : ∀ x ∈ p.parts, x.size ≤ maxLen) :
    Calls Tryz.prog 8 #[.agg #[dv, dr], .agg #[.slice Ap p.parts.length cp, .bool p.rest], .int .i64 m] w (ListPost w D p m) := by
  obtain ⟨Ar, cr, rfl, hcr, hmr, -⟩ := id hR
  have HR := Lib.hid hR
  have HEN := Lib.hid he
  have HS := Lib.hid hS
  have HZ := Lib.hid hz
  have HV := Lib.hid hv
  have HL := Lib.hid hl
  clear hR he hS hz hv
  unfold maxLen at hmr
  have hmm := @run_makeMap Tryz.prog
  have hb0 : Below w.heap.size w ((w.alloc (.cells #[.slice Ar D.length cr, dr] 31)).alloc (.cells #[.slice Ap p.parts.length cp, .bool p.rest] 25)) := ((Below.refl _ _).alloc (Nat.le_refl _) _).alloc (by simp) _
  have hD : Blk ((w.alloc (.cells #[.slice Ar D.length cr, dr] 31)).alloc (.cells #[.slice Ap p.parts.length cp, .bool p.rest] 25)) w.heap.size 31 [.slice Ar D.length cr, dr] := (blk_new w _ _).alloc _
  have hP : Blk ((w.alloc (.cells #[.slice Ar D.length cr, dr] 31)).alloc (.cells #[.slice Ap p.parts.length cp, .bool p.rest] 25)) (w.heap.size + 1) 25 [.slice Ap p.parts.length cp, .bool p.rest] := by
    have := blk_new (w.alloc (.cells #[.slice Ar D.length cr, dr] 31)) [.slice Ap p.parts.length cp, .bool p.rest] 25
    simp only [World.size_alloc] at this
    exact this
  go_enter Tryz.func8, Tryz.ntmps8
  go_upto_region 1 with fail
  generalize (w.alloc (.cells #[.slice Ar D.length cr, dr] 31)).alloc (.cells #[.slice Ap p.parts.length cp, .bool p.rest] 25) = W1 at hb0 hD hP ⊢
  have HB0 := Lib.hid hb0
  have HD := Lib.hid hD
  have HP := Lib.hid hP
  have HCK := Lib.hid (patCheck_any p Ap cp W1 (HS.out.below hb0) HZ.out)
  obtain ⟨p0, p1, -, -⟩ := box2 hP
  clear hb0 hD hP
  go_wp2_with fail
  refine HCK.out.mono ?_
  rintro e w2 ⟨rfl, hb2⟩
  have HB2 := Lib.hid (below_next HB0.out hb2)
  have HP2 := Lib.hid (HP.out.below hb2 HP.out.lt)
  have HD2 := Lib.hid (HD.out.below hb2 HD.out.lt)
  clear hb2 p0 p1 HP HD HCK
  by_cases h0 : patE p = 0
  case neg =>
    have q0 : (patE p != 0) = true := by simpa using h0
    have HK := Lib.hid (lsOk_none (D := D) (m := m) h0)
    clear h0
    go_wp2_with fail
    go_ret
    exact ⟨_, [], rfl, HB2.out, revs_none _, HK.out, Nat.zero_le _⟩
  case pos =>
    have q0 : (patE p != 0) = false := by simp [h0]
    have HK0 := Lib.hid h0
    have HS1 : Hid (L1St w (w2.alloc (.map #[] 0)) D p m Ap cp (w.heap.size + 1) w2.heap.size 0) := Lib.hid ⟨HB2.out.alloc HB2.out.size _, HP2.out.alloc _, by rw [List.take_zero]; exact NMap.new Value.string Rev.val w2⟩
    have HDA := Lib.hid (HD2.out.alloc (.map #[] 0))
    clear h0
    go_upto_region 4 with fail
    clear hmm q0
    generalize hBm : w2.heap.size = B at HS1 ⊢
    have HBm := Lib.hid hBm
    clear hBm
    generalize w2.alloc (.map #[] 0) = W4 at HS1 HDA ⊢
    obtain ⟨d0, d1, -, -⟩ := box2 HDA.out
    go_upto_block 0 with fail
    clear d0 d1
    go_cut [] (fun wx => Hid (L1St w wx D p m Ap cp (w.heap.size + 1) B D.length))
    case first =>
      go_wp2_with fail
      go_loopw [24] (fun s wr => ∃ k : Nat, s = .int .i64 k ∧ k ≤ D.length ∧ Hid (L1St w wr D p m Ap cp (w.heap.size + 1) B k)) (fun s _ => D.length - (intOf s).toNat)
      case atStart => exact ⟨0, rfl, Nat.zero_le _, HS1.out⟩
      case round =>
        obtain ⟨k, rfl, hk, HI⟩ := hrel
        by_cases hlt : k < D.length
        · obtain ⟨ad, rfl, hab, hld⟩ := Revs.at_ (HR.out.below HI.out.bel) hlt
          have HN := Lib.hid (lsOf_snoc D m k hlt)
          generalize D[k] = r at hld HN
          obtain ⟨x0, x1, x2, x3, x4, x5, x6, x7, x8, x9, x10, x11⟩ := hld
          have hX := blk_new wr [.string r.path, .int .i64 r.num, .int .i64 r.chg, .int .i64 r.act, .int .i64 r.ty.base, .bool r.ty.k, .bool r.ty.l, .bool r.ty.x, .int .u64 r.sum, .int .i64 r.size, .string r.frm, .int .i64 r.fnum] 40
          have hS1 := HI.out.under ((Below.refl wr.heap.size wr).alloc (Nat.le_refl _) (.cells #[.string r.path, .int .i64 r.num, .int .i64 r.chg, .int .i64 r.act, .int .i64 r.ty.base, .bool r.ty.k, .bool r.ty.l, .bool r.ty.x, .int .u64 r.sum, .int .i64 r.size, .string r.frm, .int .i64 r.fnum] 40))
          go_upto_region 7 with fail
          clear x0 x1 x2 x3 x4 x5 x6 x7 x8 x9 x10 x11
          generalize wr.alloc (.cells #[.string r.path, .int .i64 r.num, .int .i64 r.chg, .int .i64 r.act, .int .i64 r.ty.base, .bool r.ty.k, .bool r.ty.l, .bool r.ty.x, .int .u64 r.sum, .int .i64 r.size, .string r.frm, .int .i64 r.fnum] 40) = V1 at hX hS1 ⊢
          have HX1 := Lib.hid hX
          have HS2 := Lib.hid hS1
          obtain ⟨c0, -⟩ := box12 hX
          have hlk := LastMap.look2 (w := V1) (hS1.map.fmap) r.path
          obtain ⟨r0, hr0⟩ : ∃ r0, lastR (lsOf (D.take k) m) r.path = r0 := ⟨_, rfl⟩
          obtain ⟨bs, hbs⟩ : ∃ b, (lsOf (D.take k) m r.path).isSome = b := ⟨_, rfl⟩
          rw [hr0, hbs] at hlk
          have HM : Hid (lsM m (lsOf (D.take k) m) r = if r.chg ≤ m ∧ (bs = false ∨ r0.num < r.num) then upd (lsOf (D.take k) m) r.path r else lsOf (D.take k) m) := Lib.hid (by
            rw [← hbs, ← hr0]; rfl)
          have hY := blk_new V1 [.string r0.path, .int .i64 r0.num, .int .i64 r0.chg, .int .i64 r0.act, .int .i64 r0.ty.base, .bool r0.ty.k, .bool r0.ty.l, .bool r0.ty.x, .int .u64 r0.sum, .int .i64 r0.size, .string r0.frm, .int .i64 r0.fnum] 40
          have hS3 := hS1.under ((Below.refl V1.heap.size V1).alloc (Nat.le_refl _) (.cells #[.string r0.path, .int .i64 r0.num, .int .i64 r0.chg, .int .i64 r0.act, .int .i64 r0.ty.base, .bool r0.ty.k, .bool r0.ty.l, .bool r0.ty.x, .int .u64 r0.sum, .int .i64 r0.size, .string r0.frm, .int .i64 r0.fnum] 40))
          have hX3 := hX.alloc (.cells #[.string r0.path, .int .i64 r0.num, .int .i64 r0.chg, .int .i64 r0.act, .int .i64 r0.ty.base, .bool r0.ty.k, .bool r0.ty.l, .bool r0.ty.x, .int .u64 r0.sum, .int .i64 r0.size, .string r0.frm, .int .i64 r0.fnum] 40)
          clear hr0 hbs hX hS1
          go_upto_region 8 with fail
          clear hlk c0
          generalize V1.alloc (.cells #[.string r0.path, .int .i64 r0.num, .int .i64 r0.chg, .int .i64 r0.act, .int .i64 r0.ty.base, .bool r0.ty.k, .bool r0.ty.l, .bool r0.ty.x, .int .u64 r0.sum, .int .i64 r0.size, .string r0.frm, .int .i64 r0.fnum] 40) = V2 at hY hS3 hX3 ⊢
          have HS3 := Lib.hid hS3
          have HX3 := Lib.hid hX3
          obtain ⟨c0, c1, c2, c3, c4, c5, c6, c7, c8, c9, c10, c11⟩ := box12 hX3
          have y1 : V2.cell? ⟨V1.heap.size, 1, none⟩ = some (.int .i64 r0.num) := hY.cell 1
          clear hY hS3 hX3 HX1 HS2
          obtain ⟨u, hu⟩ : ∃ u : Bool, u = decide (r.chg ≤ m ∧ (bs = false ∨ r0.num < r.num)) := ⟨_, rfl⟩
          have HU := Lib.hid hu
          clear hu
          go_cut [49] (fun v wx => v = .bool u ∧ wx = V2)
          case first =>
            clear c0 c3 c4 c5 c6 c7 c8 c9 c10 c11
            by_cases hc : r.chg ≤ m
            · have qc : decide (r.chg ≤ m) = true := by simpa using hc
              cases bs with
              | false =>
                have HE : Hid (u = true) := Lib.hid (by rw [HU.out]; simp [hc])
                clear hc
                go_wp2_with fail
                go_meet
                exact ⟨by rw [HE.out], rfl⟩
              | true =>
                by_cases hn : r0.num < r.num
                · have qn : decide (r0.num < r.num) = true := by simpa using hn
                  have HE : Hid (u = true) := Lib.hid (by rw [HU.out]; simp [hc, hn])
                  clear hc hn
                  go_wp2_with fail
                  go_meet
                  exact ⟨by rw [HE.out], rfl⟩
                · have qn : decide (r0.num < r.num) = false := by simpa using hn
                  have HE : Hid (u = false) := Lib.hid (by rw [HU.out]; simp [hn])
                  clear hc hn
                  go_wp2_with fail
                  go_meet
                  exact ⟨by rw [HE.out], rfl⟩
            · have qc : decide (r.chg ≤ m) = false := by simpa using hc
              have HE : Hid (u = false) := Lib.hid (by rw [HU.out]; simp [hc])
              clear hc
              go_wp2_with fail
              go_meet
              exact ⟨by rw [HE.out], rfl⟩
          case rest =>
            obtain ⟨rfl, rfl⟩ := hcut
            cases u with
            | false =>
              have HE : Hid (lsOf (D.take (k + 1)) m = lsOf (D.take k) m) := Lib.hid (by rw [HN.out, HM.out, if_neg (of_decide_eq_false HU.out.symm)])
              clear c0 c1 c2 c3 c4 c5 c6 c7 c8 c9 c10 c11 y1
              go_wp2_with fail
              go_roundw
              case rel => exact ⟨k + 1, by go_num, by omega, HS3.out.bel, HS3.out.pat, by rw [HE.out]; exact HS3.out.map⟩
              case measure => simp [intOf]; omega
            | true =>
              have HE : Hid (lsOf (D.take (k + 1)) m = upd (lsOf (D.take k) m) r.path r) := Lib.hid (by rw [HN.out, HM.out, if_pos (of_decide_eq_true HU.out.symm)])
              obtain ⟨w3, hup, hM3, hg3, hs3⟩ := NMap.update HS3.out.map keyOk_str Tryz.underlying63 r.path r
              have hup' : (Instr.mapUpdate 63 (.map (some B)) (.string r.path) (.agg #[.string r.path, .int .i64 r.num, .int .i64 r.chg, .int .i64 r.act, .int .i64 r.ty.base, .bool r.ty.k, .bool r.ty.l, .bool r.ty.x, .int .u64 r.sum, .int .i64 r.size, .string r.frm, .int .i64 r.fnum])).run Tryz.prog wc = .ok () w3 := hup
              have HG : Hid (L1St w w3 D p m Ap cp (w.heap.size + 1) B (k + 1)) := Lib.hid ⟨HS3.out.bel.grown hg3 HS3.out.bel.size (fun j e => by injection e with e; have := HBm.out; have := HB2.out.size; omega), HS3.out.pat.turn (FMap.obj HS3.out.map.fmap) hg3, by rw [HE.out]; exact hM3⟩
              clear hup hM3 hg3 hs3 y1
              go_wp2_with fail
              go_roundw
              case rel => exact ⟨k + 1, by go_num, by omega, HG.out⟩
              case measure => simp [intOf]; omega
        · have HST : Hid (L1St w wr D p m Ap cp (w.heap.size + 1) B D.length) := Lib.hid (by
            have : k = D.length := by omega
            subst this; exact HI.out)
          clear HI
          go_wp2_with fail
          go_meet
          exact HST.out
    case rest =>
      have HST := Lib.hid hcut.out
      clear hcut
      have hk := ‹∀ (a : Act) (w : World), Code.wp _ _ _ a w → _›
      exact hk _ _ (lsT11 _ (by kernel_rfl) _ D p m Ap cp (w.heap.size + 1) B _ (HEN.out.below HST.out.bel) HST.out.pat (HS.out.below HST.out.bel) HZ.out (by have := HST.out.map; rwa [List.take_length] at this) HV.out HL.out (fun v l w' h1 h2 h3 h4 => ⟨v, l, rfl, below_next HST.out.bel h1, h2, h3, h4⟩) _ _ _ _ _ _ _ _ _ _ _ _ _ _ _ _ _ _ _ _ _ _ _ _ _ _ _ _ _ _ _ _ _ _ _ _ _ _ _ _ _ _ _ _ _ _ _ _ _ _ _ _ _ _ _ _ _ _ _ _ _ _ _ _ _ _ _ _ _ _ _ _ _ _ _ _ _ _ _)
end Go.Proofs.YtnblfaagchflaaaGreatDoor
/- The reference's examination of an edit: the walk. -/
namespace Go.Proofs.YtnblfaagchflaaaGreatDoor
open Go.RowKit
set_option linter.unusedVariables false
set_option linter.unusedSimpArgs false

set_option maxRecDepth 100000 in
set_option maxHeartbeats 16000000 in
theorem refEdit_any (d : Dep) (c : Chg) (dv dr : Value) (Ae Ac : Option Addr) (ce cc i : Nat) (w : World) (he : Env w) (hR : Revs w dv d.revs) (hl : d.revs.length ≤ 100000) (hE : Edts w (.slice Ae c.edits.length ce) c.edits) (hi : i < c.edits.length) (hel : c.edits.length ≤ 100000) (hlog : ∀ p, LogOk d.revs p)
    (hsz : ∀ e ∈ c.edits, e.path.size ≤ 2000000) (hval : ∀ j (h : j < c.edits.length), j < i → validS (c.edits[j]).path = true) :
    Calls Tryz.prog 94 #[.agg #[dv, dr], .agg #[.int .i64 c.num, .string c.client, .string c.text, .slice Ae c.edits.length ce, .slice Ac c.recs.length cc], .int .i64 i] w
      fun e w' => e = .returned (.int .i64 (editE (lastOf d.revs) (aheadQ emptyS c.edits i) c.edits[i])) ∧ Below w.heap.size w w' := by
  obtain ⟨Ar, cr, rfl, -⟩ := id hR
  have HR := Lib.hid hR
  have HE := Lib.hid hE
  have HEN := Lib.hid he
  have HLOG := Lib.hid hlog
  have HLIVE := Lib.hid (fun p X (hX : Below w.heap.size w X) => refLive_any d.revs p (.slice Ar d.revs.length cr) dr X (HR.out.below hX) (by omega))
  have HSZ := Lib.hid hsz
  have HVL := Lib.hid hval
  clear hR hE he hlog hsz hval
  have hb0 : Below w.heap.size w ((w.alloc (.cells #[.slice Ar d.revs.length cr, dr] 31)).alloc (.cells #[.int .i64 c.num, .string c.client, .string c.text, .slice Ae c.edits.length ce, .slice Ac c.recs.length cc] 53)) := ((Below.refl _ _).alloc (Nat.le_refl _) _).alloc (by simp) _
  have hC : Blk ((w.alloc (.cells #[.slice Ar d.revs.length cr, dr] 31)).alloc (.cells #[.int .i64 c.num, .string c.client, .string c.text, .slice Ae c.edits.length ce, .slice Ac c.recs.length cc] 53)) (w.heap.size + 1) 53 [.int .i64 c.num, .string c.client, .string c.text, .slice Ae c.edits.length ce, .slice Ac c.recs.length cc] := by
    have h1 := blk_new (w.alloc (.cells #[.slice Ar d.revs.length cr, dr] 31)) [.int .i64 c.num, .string c.client, .string c.text, .slice Ae c.edits.length ce, .slice Ac c.recs.length cc] 53
    simp only [World.size_alloc] at h1
    exact h1
  have hD : Blk ((w.alloc (.cells #[.slice Ar d.revs.length cr, dr] 31)).alloc (.cells #[.int .i64 c.num, .string c.client, .string c.text, .slice Ae c.edits.length ce, .slice Ac c.recs.length cc] 53)) w.heap.size 31 [.slice Ar d.revs.length cr, dr] := (blk_new w _ _).alloc _
  have hld0 := fun X (hX : Below w.heap.size w X) => Edts.at_ (HE.out.below hX) hi
  have HXM : Hid ((c.edits[i]).path.size ≤ 2000000) := Lib.hid (HSZ.out _ (List.getElem_mem hi))
  generalize c.edits[i] = x at hld0 HXM ⊢
  have HLD := Lib.hid hld0
  clear hld0
  have HT8 := Lib.hid (fun T hT R g3 g4 g7 W x hR hD hC hX hRR => edT8 T hT R d.revs c x Ar Ae Ac dr cr ce cc g3 g4 g7 W hR hl HLOG.out hD hC hX hRR)
  have HL8 := Lib.hid (fun p => rLiveB_last HLOG.out p)
  have HS8 := Lib.hid (fun p => someR_last HLOG.out p)
  generalize lastOf d.revs = f at HT8 HL8 HS8 ⊢
  obtain ⟨b, hbe⟩ : ∃ b, b = aheadQ emptyS c.edits i := ⟨_, rfl⟩
  have HBE := Lib.hid hbe
  rw [← hbe]
  clear hbe
  go_enter Tryz.func94, Tryz.ntmps94
  go_upto_region 1 with fail
  generalize (w.alloc (.cells #[.slice Ar d.revs.length cr, dr] 31)).alloc (.cells #[.int .i64 c.num, .string c.client, .string c.text, .slice Ae c.edits.length ce, .slice Ac c.recs.length cc] 53) = W1 at hb0 hC hD ⊢
  obtain ⟨k0, k1, k2, k3, k4⟩ := box5 hC
  obtain ⟨ad, rfl, hab, hld⟩ := HLD.out _ hb0
  have hiz : (i : Int) < (c.edits.length : Int) := by omega
  obtain ⟨x0, x1, x2, x3, x4, x5, x6, x7, x8, x9, x10, x11⟩ := hld
  have hX := blk_new W1 [.string x.path, .int .i64 x.act, .int .i64 x.ty.base, .bool x.ty.k, .bool x.ty.l, .bool x.ty.x, .int .u64 x.sum, .int .i64 x.size, .int .i64 x.base, .string x.frm, .int .i64 x.fnum, .int .i64 x.fence] 55
  have hA1 := hb0.alloc hb0.size (.cells #[.string x.path, .int .i64 x.act, .int .i64 x.ty.base, .bool x.ty.k, .bool x.ty.l, .bool x.ty.x, .int .u64 x.sum, .int .i64 x.size, .int .i64 x.base, .string x.frm, .int .i64 x.fnum, .int .i64 x.fence] 55)
  have HC1 := Lib.hid (hC.alloc (.cells #[.string x.path, .int .i64 x.act, .int .i64 x.ty.base, .bool x.ty.k, .bool x.ty.l, .bool x.ty.x, .int .u64 x.sum, .int .i64 x.size, .int .i64 x.base, .string x.frm, .int .i64 x.fnum, .int .i64 x.fence] 55))
  have HD1 := Lib.hid (hD.alloc (.cells #[.string x.path, .int .i64 x.act, .int .i64 x.ty.base, .bool x.ty.k, .bool x.ty.l, .bool x.ty.x, .int .u64 x.sum, .int .i64 x.size, .int .i64 x.base, .string x.frm, .int .i64 x.fnum, .int .i64 x.fence] 55))
  go_upto_region 2 with fail
  clear x0 x1 x2 x3 x4 x5 x6 x7 x8 x9 x10 x11 k0 k1 k2 k3 k4 hC hD hb0
  generalize W1.alloc (.cells #[.string x.path, .int .i64 x.act, .int .i64 x.ty.base, .bool x.ty.k, .bool x.ty.l, .bool x.ty.x, .int .u64 x.sum, .int .i64 x.size, .int .i64 x.base, .string x.frm, .int .i64 x.fnum, .int .i64 x.fence] 55) = W2 at hX hA1 HC1 HD1 ⊢
  generalize W1.heap.size = g7 at hX ⊢
  have HX1 := Lib.hid hX
  have HW1 := Lib.hid hA1
  clear hX hA1
  obtain ⟨c0, c1, c2, c3, c4, c5, c6, c7, c8, c9, c10, c11⟩ := box12 HX1.out
  cases hdp : dirL x.path.data.toList 2 with
  | none =>
    have HF : Hid (editE f b x = 111) := Lib.hid (ed111 (.inl (valid_none hdp)))
    have HPN := Lib.hid (refPath_none x.path W2 (HEN.out.below HW1.out) HXM.out hdp)
    clear hdp
    go_wp2_with fail
    refine HPN.out.mono ?_
    rintro e w2 ⟨rfl, hb2⟩
    have HB2 := Lib.hid hb2
    clear hb2
    go_wp2_with fail
    go_ret
    exact ⟨ret_int HF.out.symm, below_next HW1.out HB2.out⟩
  | some ps =>
    have HVX : Hid (validS x.path = true) := Lib.hid (by unfold validS validB; rw [hdp]; rfl)
    have HPS := Lib.hid (refPath_some x.path ps W2 (HEN.out.below HW1.out) HXM.out hdp)
    have hA2 : Below W2.heap.size W2 (W2.alloc (.cells (strCells ps).toArray 9)) := (Below.refl _ _).alloc (Nat.le_refl _) _
    clear hdp
    go_wp2_with fail
    refine HPS.out.mono ?_
    rintro e w2 ⟨rfl, rfl⟩
    have HX2 := Lib.hid (HX1.out.below hA2 HX1.out.lt)
    have HC2 := Lib.hid (HC1.out.below hA2 HC1.out.lt)
    have HD2 := Lib.hid (HD1.out.below hA2 HD1.out.lt)
    have HW2 := Lib.hid (below_next HW1.out hA2)
    clear hA2 c0 c1 c2 c3 c4 c5 c6 c7 c8 c9 c10 c11
    generalize W2.alloc (.cells (strCells ps).toArray 9) = w2 at HX2 HC2 HD2 HW2 ⊢
    generalize Value.slice (some ⟨W2.heap.size, 0, none⟩) ps.length ps.length = pv
    obtain ⟨c0, c1, c2, c3, c4, c5, c6, c7, c8, c9, c10, c11⟩ := box12 HX2.out
    by_cases h200 : 200 < x.path.size
    case pos =>
      have q : decide ((200 : Int) < (x.path.size : Int)) = true := by simp; omega
      have HF : Hid (editE f b x = 111) := Lib.hid (ed111 (.inr h200))
      clear h200
      go_wp2_with fail
      go_ret
      exact ⟨ret_int HF.out.symm, HW2.out⟩
    have q : decide ((200 : Int) < (x.path.size : Int)) = false := by simp; omega
    have HOK : Hid (¬ (validS x.path = false ∨ 200 < x.path.size)) := Lib.hid (fun h => by rcases h with h | h; (rw [HVX.out] at h; cases h); exact h200 h)
    clear h200
    go_upto_region 5 with fail
    clear q
    go_cut [49] (fun v wx => ∃ bb, v = .bool bb ∧ Hid (Below w2.heap.size w2 wx ∧ (bb = true → b ≠ emptyS ∧ 0 ≤ cmpP b x.path) ∧ (bb = false → ¬ (b ≠ emptyS ∧ 0 ≤ cmpP b x.path))))
    case first =>
      by_cases h0 : i = 0
      · have d0 : decide (0 < i) = false := by simp; omega
        have d1 : decide ((0 : Int) < (i : Int)) = false := by simp; omega
        have HB0 : Hid (b = emptyS) := Lib.hid (by rw [HBE.out, h0]; rfl)
        clear h0
        go_quiet (fail)
        go_wp2_with fail
        go_meet
        exact ⟨false, rfl, below_dN (Below.refl _ _) _, fun h => (by cases h), fun _ h => h.1 HB0.out⟩
      · obtain ⟨j, rfl⟩ : ∃ j, i = j + 1 := ⟨i - 1, by omega⟩
        have hj : j < c.edits.length := by omega
        obtain ⟨ad2, had, hab2, hld2⟩ := Edts.at_ (HE.out.below HW2.out) hj
        injection had with had
        subst had
        have HBY : Hid (b = (c.edits[j]).path) := Lib.hid (by rw [HBE.out]; unfold aheadQ; rw [if_neg (by omega), Nat.add_sub_cancel, List.getElem?_eq_getElem hj]; rfl)
        have HVY := Lib.hid (HVL.out j hj (Nat.lt_succ_self j))
        have HSY := Lib.hid (HSZ.out _ (List.getElem_mem hj))
        generalize c.edits[j] = y at hld2 HBY HVY HSY
        have e0 := hld2.1
        obtain ⟨k0, k1, k2, k3, k4⟩ := box5 HC2.out
        have d0 : decide (0 < j + 1) = true := by simp
        have d1 : decide ((0 : Int) < ((j + 1 : Nat) : Int)) = true := decide_eq_true (by omega)
        have d2 : decide ((0 : Int) < (j : Int) + 1) = true := decide_eq_true (by omega)
        have hwp : IntKind.i64.wrap (j : Int) = (j : Int) := by rw [IntKind.wrap_i64]; omega
        have hjz : (j : Int) < (c.edits.length : Int) := by omega
        have HOR := Lib.hid (fun X (hX : Below w2.heap.size w2 X) => order_any y.path x.path X (HEN.out.below (below_next HW2.out hX)) HSY.out HXM.out)
        clear hld2 h0
        refine wp_region_noPanic ?_
        first
          | go_region_law (go_simp; go_at_call 63; refine (HOR.out _ (Below.refl _ _).drew).mono ?_; rintro e w5 ⟨n, rfl, hb5, hn⟩; have HB5 := Lib.hid ((Below.refl w2.heap.size w2).drew.trans hb5); have HN5 := Lib.hid hn; clear hb5 hn)
          | fail
        all_goals
          refine NoPanic.normal ?_
          go_wp2_with fail
          go_meet
          exact ⟨decide (0 ≤ n), rfl, HB5.out, fun h => by rw [HBY.out]; exact ⟨valid_ne HVY.out, by rw [← HN5.out HVY.out HVX.out]; exact of_decide_eq_true h⟩, fun h hh => by rw [HBY.out, ← HN5.out HVY.out HVX.out] at hh; exact of_decide_eq_false h hh.2⟩
    case rest =>
      obtain ⟨bb, rfl, HBB⟩ := hcut
      have HW3 := Lib.hid (below_next HW2.out HBB.out.1)
      have HX3 := Lib.hid (HX2.out.below HBB.out.1 HX2.out.lt)
      have HD3 := Lib.hid (HD2.out.below HBB.out.1 HD2.out.lt)
      have HC3 := Lib.hid (HC2.out.below HBB.out.1 HC2.out.lt)
      cases bb with
      | true =>
        have HF : Hid (editE f b x = 112) := Lib.hid (ed112 HOK.out (HBB.out.2.1 rfl))
        go_wp2_with fail
        go_ret
        exact ⟨ret_int HF.out.symm, HW3.out⟩
      | false =>
        have HO0 : Hid (editE f b x = oneE f x) := Lib.hid (edOne HOK.out (HBB.out.2.2 rfl))
        clear HBB
        generalize wc = w30 at HW3 HX3 HD3 HC3 ⊢
        obtain ⟨d0, d1, -, -⟩ := box2 HD3.out
        obtain ⟨c0, c1, c2, c3, c4, c5, c6, c7, c8, c9, c10, c11⟩ := box12 HX3.out
        have HLV1 := Lib.hid (HLIVE.out x.path w30 HW3.out)
        go_upto_region 7 with fail
        go_cut [10, 11] (fun v10 v11 wx => ∃ (lv : Bool) (ln : Int), v10 = .bool lv ∧ v11 = .int .i64 ln ∧ Hid (Below w30.heap.size w30 wx ∧ lv = isLast f x.path ∧ ln = (lastR f x.path).num))
        case first =>
          go_wp2_with fail
          refine HLV1.out.mono ?_
          rintro e w3 ⟨rfl, hb3⟩
          have HB3 := Lib.hid hb3
          clear hb3
          go_wp2_with fail
          go_meet
          exact ⟨_, _, rfl, rfl, HB3.out, HL8.out x.path, by rw [HS8.out x.path]⟩
        case rest =>
          obtain ⟨lv, ln, rfl, rfl, HV⟩ := hcut
          have hk := ‹∀ (a : Act) (w : World), Code.wp _ _ _ a w → _›
          refine hk _ _ (HT8.out _ (by kernel_rfl) _ _ _ _ _ x (HR.out.below (below_next HW3.out HV.out.1)) (HD3.out.below HV.out.1 HD3.out.lt) (HC3.out.below HV.out.1 HC3.out.lt) (HX3.out.below HV.out.1 HX3.out.lt) (fun n w' hn hb => ⟨by rw [hn, HO0.out], below_next (below_next HW3.out HV.out.1) hb⟩) _ _ _ _ _ _ _ _ _ _ _ _ _ _ _ _ _ _ _ _ _ _ _ _ _ _ _ _ _ _ _ _ _ _ _ _ _ _ _ _ _ _ _ _ _ _ _ _ _ _ _ _ _ _ _ _ _ _ _ _ _ _ _ _ _ _ _ _ _ _ _ _ _ _ _ _ _ _ _ _ _ _ _ _ _ _ _ _ _ _ _ _ _ _ _ _ _ _ _ _ _ _ _ _ _ _ _ _ _ _ _ _ _ _ _ _ _ _ _ _ _ _ _ _ _ _ _ _ _ _ _ _ _ _ _ _ _ _ _ _ _ _ _ lv ln HV.out.2.1 HV.out.2.2)
end Go.Proofs.YtnblfaagchflaaaGreatDoor
