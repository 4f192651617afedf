/- newCheck. -/
import Derived.Test.YtnblfaagchflaaaGreatDoorMgw9
import Derived.Test.YtnblfaagchflaaaGreatDoorMgw6
import Derived.Laws.EntriesVeiled
import Derived.Lib.AppendZeros
import Derived.Deep.DeepCutAuto
import Derived.Deep.RegionLaw
import Derived.Deep.RegionHeld3
namespace Go.Proofs.YtnblfaagchflaaaGreatDoor
open Go.RowKit
open Go.Sort (grow)
set_option linter.unusedVariables false
set_option linter.unusedSimpArgs false

theorem linesOf_snoc (a : List Rev) (r : Rev) : linesOf (a ++ [r]) = lineM (linesOf a) r := by unfold linesOf; rw [List.foldl_append]; rfl
theorem lastOf_snoc (a : List Rev) (r : Rev) : lastOf (a ++ [r]) = lastM (lastOf a) r := by unfold lastOf; rw [List.foldl_append]; rfl
theorem keep9 {W : World} {g gx bl be bn : Nat} {dv dr ev rv : Value} {n : Int} {cl tx : ByteArray} {x : Rev} (hK : Chk W g dv dr n cl tx ev rv bl be bn) (hX : Blk W gx 40 [.string x.path, .int .i64 x.num, .int .i64 x.chg, .int .i64 x.act, .int .i64 x.ty.base, .bool x.ty.k, .bool x.ty.l, .bool x.ty.x, .int .u64 x.sum, .int .i64 x.size, .string x.frm, .int .i64 x.fnum]) :
    W.cell? ⟨g, 9, none⟩ = some (.map (some bn)) ∧ W.cell? ⟨gx, 0, none⟩ = some (.string x.path) ∧ W.cell? ⟨gx, 1, none⟩ = some (.int .i64 x.num) ∧ W.cell? ⟨gx, 2, none⟩ = some (.int .i64 x.chg) ∧ W.cell? ⟨gx, 3, none⟩ = some (.int .i64 x.act) ∧ W.cell? ⟨gx, 4, none⟩ = some (.int .i64 x.ty.base) ∧ W.cell? ⟨gx, 5, none⟩ = some (.bool x.ty.k) ∧ W.cell? ⟨gx, 6, none⟩ = some (.bool x.ty.l) ∧ W.cell? ⟨gx, 7, none⟩ = some (.bool x.ty.x) ∧ W.cell? ⟨gx, 8, none⟩ = some (.int .u64 x.sum) ∧ W.cell? ⟨gx, 9, none⟩ = some (.int .i64 x.size) ∧ W.cell? ⟨gx, 10, none⟩ = some (.string x.frm) ∧ W.cell? ⟨gx, 11, none⟩ = some (.int .i64 x.fnum) :=
  ⟨Blk.cell hK 9, hX.cell 0, hX.cell 1, hX.cell 2, hX.cell 3, hX.cell 4, hX.cell 5, hX.cell 6, hX.cell 7, hX.cell 8, hX.cell 9, hX.cell 10, hX.cell 11⟩
/-- The maps of an examination, as far as the first revisions lead. -/
structure NCh (w : World) (g : Nat) (dv dr : Value) (c : Chg) (ev rv : Value) (b : Nat) (revs : List Rev) : Prop where
  chk : Chk w g dv dr c.num c.client c.text ev rv b (b + 1) (b + 1 + 1)
  last : LastMap w b (lastOf revs)
  edits : EditMap w (b + 1) (fun _ => none)
  lines : LineMap w (b + 1 + 1) (linesOf revs)

set_option maxRecDepth 100000 in
set_option maxHeartbeats 8000000 in
theorem newCheck_any (revs : List Rev) (c : Chg) (dv dr ev rv : Value) (w : World) (hR : Revs w dv revs) (hl : revs.length ≤ 1000000) (hn : ∀ r ∈ revs, 0 < r.num ∧ r.num ≤ 1000000) :
    Calls Tryz.prog 37 #[.agg #[dv, dr], .agg #[.int .i64 c.num, .string c.client, .string c.text, ev, rv]] w
      fun e w' => ∃ g b, e = .returned (.pointer (some ⟨g, 0, none⟩)) ∧ Below w.heap.size w w' ∧ w.heap.size ≤ b ∧ NCh w' g dv dr c ev rv b revs := by
  obtain ⟨Ar, cr, rfl, hcr, hmr, -⟩ := id hR
  have HR := Lib.hid hR
  have HN := Lib.hid hn
  clear hR hn
  unfold maxLen at hmr
  have hmm := @run_makeMap Tryz.prog
  go_enter Tryz.func37, Tryz.ntmps37
  go_wp2_with fail
  clear hmm
  have hst : NCh ((((((w.alloc (.cells #[.slice Ar revs.length cr, dr] 31)).alloc (.cells #[.int .i64 c.num, .string c.client, .string c.text, ev, rv] 53)).alloc (.map #[] 0)).alloc (.map #[] 0)).alloc (.map #[] 0)).alloc (.cells #[.slice Ar revs.length cr, dr, .int .i64 c.num, .string c.client, .string c.text, ev, rv, .map (some (w.heap.size + 1 + 1)), .map (some (w.heap.size + 1 + 1 + 1)), .map (some (w.heap.size + 1 + 1 + 1 + 1))] 122)) (w.heap.size + 1 + 1 + 1 + 1 + 1) (.slice Ar revs.length cr) dr c ev rv (w.heap.size + 1 + 1) [] := by
    refine ⟨?_, ?_, ?_, ?_⟩
    · have := blk_new (((((w.alloc (.cells #[.slice Ar revs.length cr, dr] 31)).alloc (.cells #[.int .i64 c.num, .string c.client, .string c.text, ev, rv] 53)).alloc (.map #[] 0)).alloc (.map #[] 0)).alloc (.map #[] 0)) [.slice Ar revs.length cr, dr, .int .i64 c.num, .string c.client, .string c.text, ev, rv, .map (some (w.heap.size + 1 + 1)), .map (some (w.heap.size + 1 + 1 + 1)), .map (some (w.heap.size + 1 + 1 + 1 + 1))] 122
      simp only [World.size_alloc] at this
      exact this
    · have := FMap.new Value.string Rev.val ((w.alloc (.cells #[.slice Ar revs.length cr, dr] 31)).alloc (.cells #[.int .i64 c.num, .string c.client, .string c.text, ev, rv] 53))
      simp only [World.size_alloc] at this
      exact FMap.alloc (FMap.alloc (FMap.alloc this _) _) _
    · have := FMap.new Value.string Edt.val (((w.alloc (.cells #[.slice Ar revs.length cr, dr] 31)).alloc (.cells #[.int .i64 c.num, .string c.client, .string c.text, ev, rv] 53)).alloc (.map #[] 0))
      simp only [World.size_alloc] at this
      exact FMap.alloc (FMap.alloc this _) _
    · have := FMap.new filV filV ((((w.alloc (.cells #[.slice Ar revs.length cr, dr] 31)).alloc (.cells #[.int .i64 c.num, .string c.client, .string c.text, ev, rv] 53)).alloc (.map #[] 0)).alloc (.map #[] 0))
      simp only [World.size_alloc] at this
      exact FMap.alloc this _
  have hbst : Below w.heap.size w ((((((w.alloc (.cells #[.slice Ar revs.length cr, dr] 31)).alloc (.cells #[.int .i64 c.num, .string c.client, .string c.text, ev, rv] 53)).alloc (.map #[] 0)).alloc (.map #[] 0)).alloc (.map #[] 0)).alloc (.cells #[.slice Ar revs.length cr, dr, .int .i64 c.num, .string c.client, .string c.text, ev, rv, .map (some (w.heap.size + 1 + 1)), .map (some (w.heap.size + 1 + 1 + 1)), .map (some (w.heap.size + 1 + 1 + 1 + 1))] 122)) :=
    ((((((Below.refl _ _).alloc (Nat.le_refl _) _).alloc (by simp) _).alloc (by simp; omega) _).alloc (by simp; omega) _).alloc (by simp; omega) _).alloc (by simp; omega) _
  generalize ((((((w.alloc (.cells #[.slice Ar revs.length cr, dr] 31)).alloc (.cells #[.int .i64 c.num, .string c.client, .string c.text, ev, rv] 53)).alloc (.map #[] 0)).alloc (.map #[] 0)).alloc (.map #[] 0)).alloc (.cells #[.slice Ar revs.length cr, dr, .int .i64 c.num, .string c.client, .string c.text, ev, rv, .map (some (w.heap.size + 1 + 1)), .map (some (w.heap.size + 1 + 1 + 1)), .map (some (w.heap.size + 1 + 1 + 1 + 1))] 122)) = W0 at hst hbst ⊢
  go_loopw [20] (fun i wr => ∃ k : Nat, k ≤ revs.length ∧ i = .int .i64 k ∧ Below w.heap.size w wr ∧ NCh wr (w.heap.size + 1 + 1 + 1 + 1 + 1) (.slice Ar revs.length cr) dr c ev rv (w.heap.size + 1 + 1) (revs.take k)) (fun i _ => revs.length - (intOf i).toNat)
  case atStart => exact ⟨0, Nat.zero_le _, rfl, hbst, hst⟩
  case round =>
    obtain ⟨k, hk, rfl, hbr, hch⟩ := hrel
    by_cases hlt : k < revs.length
    · obtain ⟨ad, rfl, hab, hld⟩ := Revs.at_ (HR.out.below hbr) hlt
      have HT := Lib.hid (show revs.take (k + 1) = revs.take k ++ [revs[k]] from List.take_succ_eq_append_getElem hlt)
      have hxn := HN.out revs[k] (List.getElem_mem _)
      generalize revs[k] = x at hld HT hxn
      obtain ⟨x0, x1, x2, x3, x4, x5, x6, x7, x8, x9, x10, x11⟩ := hld
      have hX1 := blk_new wr [.string x.path, .int .i64 x.num, .int .i64 x.chg, .int .i64 x.act, .int .i64 x.ty.base, .bool x.ty.k, .bool x.ty.l, .bool x.ty.x, .int .u64 x.sum, .int .i64 x.size, .string x.frm, .int .i64 x.fnum] 40
      have hb1 := hbr.alloc hbr.size (.cells #[.string x.path, .int .i64 x.num, .int .i64 x.chg, .int .i64 x.act, .int .i64 x.ty.base, .bool x.ty.k, .bool x.ty.l, .bool x.ty.x, .int .u64 x.sum, .int .i64 x.size, .string x.frm, .int .i64 x.fnum] 40)
      obtain ⟨hK0, hL0, hE0, hN0⟩ := hch
      have hK1 : Chk (wr.alloc (.cells #[.string x.path, .int .i64 x.num, .int .i64 x.chg, .int .i64 x.act, .int .i64 x.ty.base, .bool x.ty.k, .bool x.ty.l, .bool x.ty.x, .int .u64 x.sum, .int .i64 x.size, .string x.frm, .int .i64 x.fnum] 40)) (w.heap.size + 1 + 1 + 1 + 1 + 1) (.slice (some ad) revs.length cr) dr c.num c.client c.text ev rv (w.heap.size + 1 + 1) (w.heap.size + 1 + 1 + 1) (w.heap.size + 1 + 1 + 1 + 1) := Blk.alloc hK0 _
      have hL1 : LastMap (wr.alloc (.cells #[.string x.path, .int .i64 x.num, .int .i64 x.chg, .int .i64 x.act, .int .i64 x.ty.base, .bool x.ty.k, .bool x.ty.l, .bool x.ty.x, .int .u64 x.sum, .int .i64 x.size, .string x.frm, .int .i64 x.fnum] 40)) (w.heap.size + 1 + 1) (lastOf (revs.take k)) := FMap.alloc hL0 _
      have hE1 : EditMap (wr.alloc (.cells #[.string x.path, .int .i64 x.num, .int .i64 x.chg, .int .i64 x.act, .int .i64 x.ty.base, .bool x.ty.k, .bool x.ty.l, .bool x.ty.x, .int .u64 x.sum, .int .i64 x.size, .string x.frm, .int .i64 x.fnum] 40)) (w.heap.size + 1 + 1 + 1) (fun _ => none) := FMap.alloc hE0 _
      have hN1 : LineMap (wr.alloc (.cells #[.string x.path, .int .i64 x.num, .int .i64 x.chg, .int .i64 x.act, .int .i64 x.ty.base, .bool x.ty.k, .bool x.ty.l, .bool x.ty.x, .int .u64 x.sum, .int .i64 x.size, .string x.frm, .int .i64 x.fnum] 40)) (w.heap.size + 1 + 1 + 1 + 1) (linesOf (revs.take k)) := FMap.alloc hN0 _
      clear hK0 hL0 hE0 hN0 hst hbst
      go_upto_region 5 with fail
      generalize wr.alloc (.cells #[.string x.path, .int .i64 x.num, .int .i64 x.chg, .int .i64 x.act, .int .i64 x.ty.base, .bool x.ty.k, .bool x.ty.l, .bool x.ty.x, .int .u64 x.sum, .int .i64 x.size, .string x.frm, .int .i64 x.fnum] 40) = V1 at hX1 hb1 hK1 hL1 hE1 hN1 ⊢
      obtain ⟨r0, hr0⟩ : ∃ r, lastR (lastOf (revs.take k)) x.path = r := ⟨_, rfl⟩
      obtain ⟨bs, hbs⟩ : ∃ b, (lastOf (revs.take k) x.path).isSome = b := ⟨_, rfl⟩
      have hlk : ∀ w', Below V1.heap.size V1 w' → _ := fun w' hb => LastMap.look2 (w := w') (FMap.below hL1 hb) x.path
      rw [hr0, hbs] at hlk
      have HM : Hid (lastM (lastOf (revs.take k)) x = if bs = false ∨ r0.num < x.num then upd (lastOf (revs.take k)) x.path x else lastOf (revs.take k)) := Lib.hid (by
        rw [← hbs, ← hr0]
        unfold lastM lastR
        cases lastOf (revs.take k) x.path with
        | none => simp
        | some b => simp)
      clear hr0 hbs
      obtain ⟨-, -, -, -, -, k7, -, -⟩ := box10 hK1
      have c0 := hX1.cell 0
      have HC1 : Hid (∀ w', Below V1.heap.size V1 w' → w'.cell? ⟨w.heap.size + 1 + 1 + 1 + 1 + 1, 7, none⟩ = some (.map (some (w.heap.size + 1 + 1))) ∧ w'.cell? ⟨wr.heap.size, 0, none⟩ = some (.string x.path)) := Lib.hid fun w' hb => ⟨cell_below k7 hb (cell_lt k7), cell_below c0 hb (cell_lt c0)⟩
      clear k7 c0
      go_cut [8, 9] (fun s8 s9 wx => ∃ ge : Nat, s8 = .pointer (some ⟨ge, 0, none⟩) ∧ s9 = .bool bs ∧ Below V1.heap.size V1 wx ∧ Blk wx ge 40 [.string r0.path, .int .i64 r0.num, .int .i64 r0.chg, .int .i64 r0.act, .int .i64 r0.ty.base, .bool r0.ty.k, .bool r0.ty.l, .bool r0.ty.x, .int .u64 r0.sum, .int .i64 r0.size, .string r0.frm, .int .i64 r0.fnum])
      case first =>
        go_region_held3 (fun w' => Below V1.heap.size V1 w' ∧ w'.cell? ⟨w.heap.size + 1 + 1 + 1 + 1 + 1, 7, none⟩ = some (.map (some (w.heap.size + 1 + 1))) ∧ w'.cell? ⟨wr.heap.size, 0, none⟩ = some (.string x.path))
          ((refine and_of ?_ (HC1.out _); first | with_reducible exact (Below.refl _ _).drew | with_reducible assumption | with_reducible exact ((Below.refl _ _).alloc (Nat.le_refl _) _).drew)) (fail)
        all_goals
          have hq1 : Below V1.heap.size V1 (V1.alloc (.cells #[.string r0.path, .int .i64 r0.num, .int .i64 r0.chg, .int .i64 r0.act, .int .i64 r0.ty.base, .bool r0.ty.k, .bool r0.ty.l, .bool r0.ty.x, .int .u64 r0.sum, .int .i64 r0.size, .string r0.frm, .int .i64 r0.fnum] 40)).drew := ((Below.refl _ _).alloc (Nat.le_refl _) _).drew
          have hq2 : Blk (V1.alloc (.cells #[.string r0.path, .int .i64 r0.num, .int .i64 r0.chg, .int .i64 r0.act, .int .i64 r0.ty.base, .bool r0.ty.k, .bool r0.ty.l, .bool r0.ty.x, .int .u64 r0.sum, .int .i64 r0.size, .string r0.frm, .int .i64 r0.fnum] 40)).drew V1.heap.size 40 [.string r0.path, .int .i64 r0.num, .int .i64 r0.chg, .int .i64 r0.act, .int .i64 r0.ty.base, .bool r0.ty.k, .bool r0.ty.l, .bool r0.ty.x, .int .u64 r0.sum, .int .i64 r0.size, .string r0.frm, .int .i64 r0.fnum] := blk_new V1 _ _
          go_wp2_with fail
          go_meet
          exact ⟨_, rfl, rfl, hq1, hq2⟩
      case rest =>
        obtain ⟨ge, rfl, rfl, hb12, hO2⟩ := hcut
        generalize wc = W2 at hb12 hO2 ⊢
        have hX2 := hX1.below hb12 hX1.lt
        have hK2 : Chk W2 (w.heap.size + 1 + 1 + 1 + 1 + 1) (.slice (some ad) revs.length cr) dr c.num c.client c.text ev rv (w.heap.size + 1 + 1) (w.heap.size + 1 + 1 + 1) (w.heap.size + 1 + 1 + 1 + 1) := Blk.below hK1 hb12 (Blk.lt hK1)
        have hL2 : LastMap W2 (w.heap.size + 1 + 1) (lastOf (revs.take k)) := FMap.below hL1 hb12
        have hE2 : EditMap W2 (w.heap.size + 1 + 1 + 1) (fun _ => none) := FMap.below hE1 hb12
        have hN2 : LineMap W2 (w.heap.size + 1 + 1 + 1 + 1) (linesOf (revs.take k)) := FMap.below hN1 hb12
        have hb2 := below_next hb1 hb12
        clear hlk HC1 hX1 hK1 hL1 hE1 hN1 hb12 x0 x1 x2 x3 x4 x5 x6 x7 x8 x9 x10 x11
        have d1 := hO2.cell 1
        have d1' : W2.cell? ⟨ge, 1, none⟩ = some (.int .i64 r0.num) := d1
        clear d1
        cases bs
        · have HM2 : Hid (lastM (lastOf (revs.take k)) x = upd (lastOf (revs.take k)) x.path x) := Lib.hid (by rw [HM.out, if_pos (.inl rfl)])
          obtain ⟨w3, hup, hL3', hg3, hs3⟩ := FMap.update (w := W2.drew) hL2 keyOk_str Tryz.underlying63 x.path x
          have hup' : (Instr.mapUpdate 63 (.map (some (w.heap.size + 1 + 1))) (.string x.path) (.agg #[.string x.path, .int .i64 x.num, .int .i64 x.chg, .int .i64 x.act, .int .i64 x.ty.base, .bool x.ty.k, .bool x.ty.l, .bool x.ty.x, .int .u64 x.sum, .int .i64 x.size, .string x.frm, .int .i64 x.fnum])).run Tryz.prog W2.drew = .ok () w3 := hup
          have hX3 := Blk.turn (w := W2.drew) hX2 (FMap.obj hL2) hg3
          have hK3 : Chk w3 (w.heap.size + 1 + 1 + 1 + 1 + 1) (.slice (some ad) revs.length cr) dr c.num c.client c.text ev rv (w.heap.size + 1 + 1) (w.heap.size + 1 + 1 + 1) (w.heap.size + 1 + 1 + 1 + 1) := Blk.turn (w := W2.drew) hK2 (FMap.obj hL2) hg3
          have hE3 : EditMap w3 (w.heap.size + 1 + 1 + 1) (fun _ => none) := FMap.grown (w := W2.drew) hE2 hg3 (by intro e; injection e with e; omega)
          have hN3 : LineMap w3 (w.heap.size + 1 + 1 + 1 + 1) (linesOf (revs.take k)) := FMap.grown (w := W2.drew) hN2 hg3 (by intro e; injection e with e; omega)
          have hb3 : Below w.heap.size w w3 := Below.grown (w := W2.drew) hb2.drew hg3 hb2.drew.size (fun j e => by injection e with e; omega)
          have hL3 : LastMap w3 (w.heap.size + 1 + 1) (lastM (lastOf (revs.take k)) x) := by rw [HM2.out]; exact hL3'
          obtain ⟨-, -, -, -, -, k7, -, -⟩ := box10 hK2
          obtain ⟨c0, c1, c2, c3, c4, c5, c6, c7, c8, c9, c10, c11⟩ := box12 hX2
          clear hup
          go_wp2_with fail
          go_still_tail 7, (by kernel_rfl)
          change wpList _ _ _ _ _ W2.drew
          clear c0 c1 c2 c3 c4 c5 c6 c7 c8 c9 c10 c11 k7
          go_upto_region 8 with fail
          clear hup' hL3' hg3 hs3 hX2 hK2 hL2 hE2 hN2 hb2 hO2
          generalize w3 = W3 at hX3 hK3 hE3 hN3 hb3 hL3 ⊢
          by_cases h5 : x.act = 5
          · have q5 : (x.act != 5) = false := by rw [bne_dec]; simp [h5]
            have HLN : Hid (lineM (linesOf (revs.take k)) x = linesOf (revs.take k)) := Lib.hid (by unfold lineM; rw [if_pos h5])
            clear h5
            obtain ⟨c0, c1, c2, c3, c4, c5, c6, c7, c8, c9, c10, c11⟩ := box12 hX3
            go_wp2_with fail
            go_roundw
            case rel => exact ⟨k + 1, by omega, by go_num, hb3, hK3, by rw [HT.out, lastOf_snoc]; exact hL3, hE3, by rw [HT.out, linesOf_snoc, HLN.out]; exact hN3⟩
            case measure => simp [intOf]; omega
          · have q5 : (x.act != 5) = true := by rw [bne_dec]; simp [h5]
            obtain ⟨t, ht⟩ : ∃ t, lineV (linesOf (revs.take k)) x = t := ⟨_, rfl⟩
            have HLN : Hid (lineM (linesOf (revs.take k)) x = upd (linesOf (revs.take k)) (x.path, x.num) t) := Lib.hid (by unfold lineM; rw [if_neg h5, ht])
            have HLO := Lib.hid (fun W' (h : Below (World.heap W3).size W3 W') => lineOf_is t (linesOf (revs.take k)) x ht (w.heap.size + 1 + 1 + 1 + 1 + 1) (.slice (some ad) revs.length cr) dr ev rv c.num c.client c.text (w.heap.size + 1 + 1) (w.heap.size + 1 + 1 + 1) (w.heap.size + 1 + 1 + 1 + 1) W' (Blk.below hK3 h (Blk.lt hK3)) (FMap.below hN3 h) hxn.1 hxn.2)
            clear h5 ht
            obtain ⟨-, -, -, -, -, -, -, k9⟩ := box10 hK3
            have HC : Hid (∀ w', Below (World.heap W3).size W3 w' → w'.cell? ⟨w.heap.size + 1 + 1 + 1 + 1 + 1, 9, none⟩ = some (.map (some (w.heap.size + 1 + 1 + 1 + 1))) ∧ w'.cell? ⟨wr.heap.size, 0, none⟩ = some (.string x.path) ∧ w'.cell? ⟨wr.heap.size, 1, none⟩ = some (.int .i64 x.num) ∧ w'.cell? ⟨wr.heap.size, 2, none⟩ = some (.int .i64 x.chg) ∧ w'.cell? ⟨wr.heap.size, 3, none⟩ = some (.int .i64 x.act) ∧ w'.cell? ⟨wr.heap.size, 4, none⟩ = some (.int .i64 x.ty.base) ∧ w'.cell? ⟨wr.heap.size, 5, none⟩ = some (.bool x.ty.k) ∧ w'.cell? ⟨wr.heap.size, 6, none⟩ = some (.bool x.ty.l) ∧ w'.cell? ⟨wr.heap.size, 7, none⟩ = some (.bool x.ty.x) ∧ w'.cell? ⟨wr.heap.size, 8, none⟩ = some (.int .u64 x.sum) ∧ w'.cell? ⟨wr.heap.size, 9, none⟩ = some (.int .i64 x.size) ∧ w'.cell? ⟨wr.heap.size, 10, none⟩ = some (.string x.frm) ∧ w'.cell? ⟨wr.heap.size, 11, none⟩ = some (.int .i64 x.fnum)) := Lib.hid fun w' hb => ⟨cell_below k9 hb (cell_lt k9), (Blk.below hX3 hb (Blk.lt hX3)).cell 0, (Blk.below hX3 hb (Blk.lt hX3)).cell 1, (Blk.below hX3 hb (Blk.lt hX3)).cell 2, (Blk.below hX3 hb (Blk.lt hX3)).cell 3, (Blk.below hX3 hb (Blk.lt hX3)).cell 4, (Blk.below hX3 hb (Blk.lt hX3)).cell 5, (Blk.below hX3 hb (Blk.lt hX3)).cell 6, (Blk.below hX3 hb (Blk.lt hX3)).cell 7, (Blk.below hX3 hb (Blk.lt hX3)).cell 8, (Blk.below hX3 hb (Blk.lt hX3)).cell 9, (Blk.below hX3 hb (Blk.lt hX3)).cell 10, (Blk.below hX3 hb (Blk.lt hX3)).cell 11⟩
            obtain ⟨c0, c1, c2, c3, c4, c5, c6, c7, c8, c9, c10, c11⟩ := box12 hX3
            go_upto_region 9 with fail
            clear k9 c0 c1 c2 c3 c4 c5 c6 c7 c8 c9 c10 c11
            go_region_held3 (fun w' => w'.cell? ⟨w.heap.size + 1 + 1 + 1 + 1 + 1, 9, none⟩ = some (.map (some (w.heap.size + 1 + 1 + 1 + 1))) ∧ w'.cell? ⟨wr.heap.size, 0, none⟩ = some (.string x.path) ∧ w'.cell? ⟨wr.heap.size, 1, none⟩ = some (.int .i64 x.num) ∧ w'.cell? ⟨wr.heap.size, 2, none⟩ = some (.int .i64 x.chg) ∧ w'.cell? ⟨wr.heap.size, 3, none⟩ = some (.int .i64 x.act) ∧ w'.cell? ⟨wr.heap.size, 4, none⟩ = some (.int .i64 x.ty.base) ∧ w'.cell? ⟨wr.heap.size, 5, none⟩ = some (.bool x.ty.k) ∧ w'.cell? ⟨wr.heap.size, 6, none⟩ = some (.bool x.ty.l) ∧ w'.cell? ⟨wr.heap.size, 7, none⟩ = some (.bool x.ty.x) ∧ w'.cell? ⟨wr.heap.size, 8, none⟩ = some (.int .u64 x.sum) ∧ w'.cell? ⟨wr.heap.size, 9, none⟩ = some (.int .i64 x.size) ∧ w'.cell? ⟨wr.heap.size, 10, none⟩ = some (.string x.frm) ∧ w'.cell? ⟨wr.heap.size, 11, none⟩ = some (.int .i64 x.fnum))
              (first | exact HC.out _ (Below.refl _ _).drew | exact HC.out _ hS5 | exact keep9 (Blk.turn (w := w5) (Blk.below hK3 hS5 (Blk.lt hK3)) (FMap.obj (FMap.below hN3 hS5)) hg6) (Blk.turn (w := w5) (Blk.below hX3 hS5 (Blk.lt hX3)) (FMap.obj (FMap.below hN3 hS5)) hg6))
              ((go_at_call 69; refine (HLO.out _ (Below.refl _ _).drew).mono ?_; rintro e' w5 ⟨rfl, hb5⟩; have hS5 : Below (World.heap W3).size W3 w5 := (Below.refl _ _).drew.trans hb5; obtain ⟨w6, hup, hN6, hg6, hs6⟩ := FMap.update (w := w5) (FMap.below hN3 hS5) keyOk_fil Tryz.underlying120 (x.path, x.num) t; have hup' : (Instr.mapUpdate 120 (.map (some (w.heap.size + 1 + 1 + 1 + 1))) (.agg #[.string x.path, .int .i64 x.num]) (.agg #[.string t.1, .int .i64 t.2])).run Tryz.prog w5 = .ok () w6 := hup; clear hup))
            all_goals
              have hK6 : Chk w6 (w.heap.size + 1 + 1 + 1 + 1 + 1) (.slice (some ad) revs.length cr) dr c.num c.client c.text ev rv (w.heap.size + 1 + 1) (w.heap.size + 1 + 1 + 1) (w.heap.size + 1 + 1 + 1 + 1) := Blk.turn (w := w5) (Blk.below hK3 hS5 (Blk.lt hK3)) (FMap.obj (FMap.below hN3 hS5)) hg6
              have hL6 : LastMap w6 (w.heap.size + 1 + 1) (lastM (lastOf (revs.take k)) x) := FMap.grown (w := w5) (FMap.below hL3 hS5) hg6 (by intro e; injection e with e; omega)
              have hE6 : EditMap w6 (w.heap.size + 1 + 1 + 1) (fun _ => none) := FMap.grown (w := w5) (FMap.below hE3 hS5) hg6 (by intro e; injection e with e; omega)
              have hb5w := below_next hb3 hS5
              have hb6 : Below w.heap.size w w6 := hb5w.grown hg6 hb5w.size (fun j e => by injection e with e; omega)
              clear hup'
              go_wp2_with fail
              go_roundw
              case rel => exact ⟨k + 1, by omega, by go_num, hb6, hK6, by rw [HT.out, lastOf_snoc]; exact hL6, hE6, by rw [HT.out, linesOf_snoc, HLN.out]; exact hN6⟩
              case measure => simp [intOf]; omega
        · by_cases hn : r0.num < x.num
          · have HM2 : Hid (lastM (lastOf (revs.take k)) x = upd (lastOf (revs.take k)) x.path x) := Lib.hid (by rw [HM.out, if_pos (.inr hn)])
            obtain ⟨w3, hup, hL3', hg3, hs3⟩ := FMap.update (w := W2.drew) hL2 keyOk_str Tryz.underlying63 x.path x
            have hup' : (Instr.mapUpdate 63 (.map (some (w.heap.size + 1 + 1))) (.string x.path) (.agg #[.string x.path, .int .i64 x.num, .int .i64 x.chg, .int .i64 x.act, .int .i64 x.ty.base, .bool x.ty.k, .bool x.ty.l, .bool x.ty.x, .int .u64 x.sum, .int .i64 x.size, .string x.frm, .int .i64 x.fnum])).run Tryz.prog W2.drew = .ok () w3 := hup
            have hX3 := Blk.turn (w := W2.drew) hX2 (FMap.obj hL2) hg3
            have hK3 : Chk w3 (w.heap.size + 1 + 1 + 1 + 1 + 1) (.slice (some ad) revs.length cr) dr c.num c.client c.text ev rv (w.heap.size + 1 + 1) (w.heap.size + 1 + 1 + 1) (w.heap.size + 1 + 1 + 1 + 1) := Blk.turn (w := W2.drew) hK2 (FMap.obj hL2) hg3
            have hE3 : EditMap w3 (w.heap.size + 1 + 1 + 1) (fun _ => none) := FMap.grown (w := W2.drew) hE2 hg3 (by intro e; injection e with e; omega)
            have hN3 : LineMap w3 (w.heap.size + 1 + 1 + 1 + 1) (linesOf (revs.take k)) := FMap.grown (w := W2.drew) hN2 hg3 (by intro e; injection e with e; omega)
            have hb3 : Below w.heap.size w w3 := Below.grown (w := W2.drew) hb2.drew hg3 hb2.drew.size (fun j e => by injection e with e; omega)
            have hL3 : LastMap w3 (w.heap.size + 1 + 1) (lastM (lastOf (revs.take k)) x) := by rw [HM2.out]; exact hL3'
            obtain ⟨-, -, -, -, -, k7, -, -⟩ := box10 hK2
            obtain ⟨c0, c1, c2, c3, c4, c5, c6, c7, c8, c9, c10, c11⟩ := box12 hX2
            clear hup
            go_wp2_with fail
            go_still_tail 7, (by kernel_rfl)
            change wpList _ _ _ _ _ W2.drew
            clear c0 c1 c2 c3 c4 c5 c6 c7 c8 c9 c10 c11 k7
            go_upto_region 8 with fail
            clear hup' hL3' hg3 hs3 hX2 hK2 hL2 hE2 hN2 hb2 hO2
            generalize w3 = W3 at hX3 hK3 hE3 hN3 hb3 hL3 ⊢
            by_cases h5 : x.act = 5
            · have q5 : (x.act != 5) = false := by rw [bne_dec]; simp [h5]
              have HLN : Hid (lineM (linesOf (revs.take k)) x = linesOf (revs.take k)) := Lib.hid (by unfold lineM; rw [if_pos h5])
              clear h5
              obtain ⟨c0, c1, c2, c3, c4, c5, c6, c7, c8, c9, c10, c11⟩ := box12 hX3
              go_wp2_with fail
              go_roundw
              case rel => exact ⟨k + 1, by omega, by go_num, hb3, hK3, by rw [HT.out, lastOf_snoc]; exact hL3, hE3, by rw [HT.out, linesOf_snoc, HLN.out]; exact hN3⟩
              case measure => simp [intOf]; omega
            · have q5 : (x.act != 5) = true := by rw [bne_dec]; simp [h5]
              obtain ⟨t, ht⟩ : ∃ t, lineV (linesOf (revs.take k)) x = t := ⟨_, rfl⟩
              have HLN : Hid (lineM (linesOf (revs.take k)) x = upd (linesOf (revs.take k)) (x.path, x.num) t) := Lib.hid (by unfold lineM; rw [if_neg h5, ht])
              have HLO := Lib.hid (fun W' (h : Below (World.heap W3).size W3 W') => lineOf_is t (linesOf (revs.take k)) x ht (w.heap.size + 1 + 1 + 1 + 1 + 1) (.slice (some ad) revs.length cr) dr ev rv c.num c.client c.text (w.heap.size + 1 + 1) (w.heap.size + 1 + 1 + 1) (w.heap.size + 1 + 1 + 1 + 1) W' (Blk.below hK3 h (Blk.lt hK3)) (FMap.below hN3 h) hxn.1 hxn.2)
              clear h5 ht
              obtain ⟨-, -, -, -, -, -, -, k9⟩ := box10 hK3
              have HC : Hid (∀ w', Below (World.heap W3).size W3 w' → w'.cell? ⟨w.heap.size + 1 + 1 + 1 + 1 + 1, 9, none⟩ = some (.map (some (w.heap.size + 1 + 1 + 1 + 1))) ∧ w'.cell? ⟨wr.heap.size, 0, none⟩ = some (.string x.path) ∧ w'.cell? ⟨wr.heap.size, 1, none⟩ = some (.int .i64 x.num) ∧ w'.cell? ⟨wr.heap.size, 2, none⟩ = some (.int .i64 x.chg) ∧ w'.cell? ⟨wr.heap.size, 3, none⟩ = some (.int .i64 x.act) ∧ w'.cell? ⟨wr.heap.size, 4, none⟩ = some (.int .i64 x.ty.base) ∧ w'.cell? ⟨wr.heap.size, 5, none⟩ = some (.bool x.ty.k) ∧ w'.cell? ⟨wr.heap.size, 6, none⟩ = some (.bool x.ty.l) ∧ w'.cell? ⟨wr.heap.size, 7, none⟩ = some (.bool x.ty.x) ∧ w'.cell? ⟨wr.heap.size, 8, none⟩ = some (.int .u64 x.sum) ∧ w'.cell? ⟨wr.heap.size, 9, none⟩ = some (.int .i64 x.size) ∧ w'.cell? ⟨wr.heap.size, 10, none⟩ = some (.string x.frm) ∧ w'.cell? ⟨wr.heap.size, 11, none⟩ = some (.int .i64 x.fnum)) := Lib.hid fun w' hb => ⟨cell_below k9 hb (cell_lt k9), (Blk.below hX3 hb (Blk.lt hX3)).cell 0, (Blk.below hX3 hb (Blk.lt hX3)).cell 1, (Blk.below hX3 hb (Blk.lt hX3)).cell 2, (Blk.below hX3 hb (Blk.lt hX3)).cell 3, (Blk.below hX3 hb (Blk.lt hX3)).cell 4, (Blk.below hX3 hb (Blk.lt hX3)).cell 5, (Blk.below hX3 hb (Blk.lt hX3)).cell 6, (Blk.below hX3 hb (Blk.lt hX3)).cell 7, (Blk.below hX3 hb (Blk.lt hX3)).cell 8, (Blk.below hX3 hb (Blk.lt hX3)).cell 9, (Blk.below hX3 hb (Blk.lt hX3)).cell 10, (Blk.below hX3 hb (Blk.lt hX3)).cell 11⟩
              obtain ⟨c0, c1, c2, c3, c4, c5, c6, c7, c8, c9, c10, c11⟩ := box12 hX3
              go_upto_region 9 with fail
              clear k9 c0 c1 c2 c3 c4 c5 c6 c7 c8 c9 c10 c11
              go_region_held3 (fun w' => w'.cell? ⟨w.heap.size + 1 + 1 + 1 + 1 + 1, 9, none⟩ = some (.map (some (w.heap.size + 1 + 1 + 1 + 1))) ∧ w'.cell? ⟨wr.heap.size, 0, none⟩ = some (.string x.path) ∧ w'.cell? ⟨wr.heap.size, 1, none⟩ = some (.int .i64 x.num) ∧ w'.cell? ⟨wr.heap.size, 2, none⟩ = some (.int .i64 x.chg) ∧ w'.cell? ⟨wr.heap.size, 3, none⟩ = some (.int .i64 x.act) ∧ w'.cell? ⟨wr.heap.size, 4, none⟩ = some (.int .i64 x.ty.base) ∧ w'.cell? ⟨wr.heap.size, 5, none⟩ = some (.bool x.ty.k) ∧ w'.cell? ⟨wr.heap.size, 6, none⟩ = some (.bool x.ty.l) ∧ w'.cell? ⟨wr.heap.size, 7, none⟩ = some (.bool x.ty.x) ∧ w'.cell? ⟨wr.heap.size, 8, none⟩ = some (.int .u64 x.sum) ∧ w'.cell? ⟨wr.heap.size, 9, none⟩ = some (.int .i64 x.size) ∧ w'.cell? ⟨wr.heap.size, 10, none⟩ = some (.string x.frm) ∧ w'.cell? ⟨wr.heap.size, 11, none⟩ = some (.int .i64 x.fnum))
                (first | exact HC.out _ (Below.refl _ _).drew | exact HC.out _ hS5 | exact keep9 (Blk.turn (w := w5) (Blk.below hK3 hS5 (Blk.lt hK3)) (FMap.obj (FMap.below hN3 hS5)) hg6) (Blk.turn (w := w5) (Blk.below hX3 hS5 (Blk.lt hX3)) (FMap.obj (FMap.below hN3 hS5)) hg6))
                ((go_at_call 69; refine (HLO.out _ (Below.refl _ _).drew).mono ?_; rintro e' w5 ⟨rfl, hb5⟩; have hS5 : Below (World.heap W3).size W3 w5 := (Below.refl _ _).drew.trans hb5; obtain ⟨w6, hup, hN6, hg6, hs6⟩ := FMap.update (w := w5) (FMap.below hN3 hS5) keyOk_fil Tryz.underlying120 (x.path, x.num) t; have hup' : (Instr.mapUpdate 120 (.map (some (w.heap.size + 1 + 1 + 1 + 1))) (.agg #[.string x.path, .int .i64 x.num]) (.agg #[.string t.1, .int .i64 t.2])).run Tryz.prog w5 = .ok () w6 := hup; clear hup))
              all_goals
                have hK6 : Chk w6 (w.heap.size + 1 + 1 + 1 + 1 + 1) (.slice (some ad) revs.length cr) dr c.num c.client c.text ev rv (w.heap.size + 1 + 1) (w.heap.size + 1 + 1 + 1) (w.heap.size + 1 + 1 + 1 + 1) := Blk.turn (w := w5) (Blk.below hK3 hS5 (Blk.lt hK3)) (FMap.obj (FMap.below hN3 hS5)) hg6
                have hL6 : LastMap w6 (w.heap.size + 1 + 1) (lastM (lastOf (revs.take k)) x) := FMap.grown (w := w5) (FMap.below hL3 hS5) hg6 (by intro e; injection e with e; omega)
                have hE6 : EditMap w6 (w.heap.size + 1 + 1 + 1) (fun _ => none) := FMap.grown (w := w5) (FMap.below hE3 hS5) hg6 (by intro e; injection e with e; omega)
                have hb5w := below_next hb3 hS5
                have hb6 : Below w.heap.size w w6 := hb5w.grown hg6 hb5w.size (fun j e => by injection e with e; omega)
                clear hup'
                go_wp2_with fail
                go_roundw
                case rel => exact ⟨k + 1, by omega, by go_num, hb6, hK6, by rw [HT.out, lastOf_snoc]; exact hL6, hE6, by rw [HT.out, linesOf_snoc, HLN.out]; exact hN6⟩
                case measure => simp [intOf]; omega
          · have HM2 : Hid (lastM (lastOf (revs.take k)) x = lastOf (revs.take k)) := Lib.hid (by rw [HM.out, if_neg (by simp; omega)])
            have hL2' : LastMap W2 (w.heap.size + 1 + 1) (lastM (lastOf (revs.take k)) x) := by rw [HM2.out]; exact hL2
            obtain ⟨c0, c1, c2, c3, c4, c5, c6, c7, c8, c9, c10, c11⟩ := box12 hX2
            go_upto_region 8 with fail
            clear c0 c1 c2 c3 c4 c5 c6 c7 c8 c9 c10 c11
            by_cases h5 : x.act = 5
            · have q5 : (x.act != 5) = false := by rw [bne_dec]; simp [h5]
              have HLN : Hid (lineM (linesOf (revs.take k)) x = linesOf (revs.take k)) := Lib.hid (by unfold lineM; rw [if_pos h5])
              clear h5
              obtain ⟨c0, c1, c2, c3, c4, c5, c6, c7, c8, c9, c10, c11⟩ := box12 hX2
              go_wp2_with fail
              go_roundw
              case rel => exact ⟨k + 1, by omega, by go_num, hb2, hK2, by rw [HT.out, lastOf_snoc]; exact hL2', hE2, by rw [HT.out, linesOf_snoc, HLN.out]; exact hN2⟩
              case measure => simp [intOf]; omega
            · have q5 : (x.act != 5) = true := by rw [bne_dec]; simp [h5]
              obtain ⟨t, ht⟩ : ∃ t, lineV (linesOf (revs.take k)) x = t := ⟨_, rfl⟩
              have HLN : Hid (lineM (linesOf (revs.take k)) x = upd (linesOf (revs.take k)) (x.path, x.num) t) := Lib.hid (by unfold lineM; rw [if_neg h5, ht])
              have HLO := Lib.hid (fun W' (h : Below (World.heap W2).size W2 W') => lineOf_is t (linesOf (revs.take k)) x ht (w.heap.size + 1 + 1 + 1 + 1 + 1) (.slice (some ad) revs.length cr) dr ev rv c.num c.client c.text (w.heap.size + 1 + 1) (w.heap.size + 1 + 1 + 1) (w.heap.size + 1 + 1 + 1 + 1) W' (Blk.below hK2 h (Blk.lt hK2)) (FMap.below hN2 h) hxn.1 hxn.2)
              clear h5 ht
              obtain ⟨-, -, -, -, -, -, -, k9⟩ := box10 hK2
              have HC : Hid (∀ w', Below (World.heap W2).size W2 w' → w'.cell? ⟨w.heap.size + 1 + 1 + 1 + 1 + 1, 9, none⟩ = some (.map (some (w.heap.size + 1 + 1 + 1 + 1))) ∧ w'.cell? ⟨wr.heap.size, 0, none⟩ = some (.string x.path) ∧ w'.cell? ⟨wr.heap.size, 1, none⟩ = some (.int .i64 x.num) ∧ w'.cell? ⟨wr.heap.size, 2, none⟩ = some (.int .i64 x.chg) ∧ w'.cell? ⟨wr.heap.size, 3, none⟩ = some (.int .i64 x.act) ∧ w'.cell? ⟨wr.heap.size, 4, none⟩ = some (.int .i64 x.ty.base) ∧ w'.cell? ⟨wr.heap.size, 5, none⟩ = some (.bool x.ty.k) ∧ w'.cell? ⟨wr.heap.size, 6, none⟩ = some (.bool x.ty.l) ∧ w'.cell? ⟨wr.heap.size, 7, none⟩ = some (.bool x.ty.x) ∧ w'.cell? ⟨wr.heap.size, 8, none⟩ = some (.int .u64 x.sum) ∧ w'.cell? ⟨wr.heap.size, 9, none⟩ = some (.int .i64 x.size) ∧ w'.cell? ⟨wr.heap.size, 10, none⟩ = some (.string x.frm) ∧ w'.cell? ⟨wr.heap.size, 11, none⟩ = some (.int .i64 x.fnum)) := Lib.hid fun w' hb => ⟨cell_below k9 hb (cell_lt k9), (Blk.below hX2 hb (Blk.lt hX2)).cell 0, (Blk.below hX2 hb (Blk.lt hX2)).cell 1, (Blk.below hX2 hb (Blk.lt hX2)).cell 2, (Blk.below hX2 hb (Blk.lt hX2)).cell 3, (Blk.below hX2 hb (Blk.lt hX2)).cell 4, (Blk.below hX2 hb (Blk.lt hX2)).cell 5, (Blk.below hX2 hb (Blk.lt hX2)).cell 6, (Blk.below hX2 hb (Blk.lt hX2)).cell 7, (Blk.below hX2 hb (Blk.lt hX2)).cell 8, (Blk.below hX2 hb (Blk.lt hX2)).cell 9, (Blk.below hX2 hb (Blk.lt hX2)).cell 10, (Blk.below hX2 hb (Blk.lt hX2)).cell 11⟩
              obtain ⟨c0, c1, c2, c3, c4, c5, c6, c7, c8, c9, c10, c11⟩ := box12 hX2
              go_upto_region 9 with fail
              clear k9 c0 c1 c2 c3 c4 c5 c6 c7 c8 c9 c10 c11
              go_region_held3 (fun w' => w'.cell? ⟨w.heap.size + 1 + 1 + 1 + 1 + 1, 9, none⟩ = some (.map (some (w.heap.size + 1 + 1 + 1 + 1))) ∧ w'.cell? ⟨wr.heap.size, 0, none⟩ = some (.string x.path) ∧ w'.cell? ⟨wr.heap.size, 1, none⟩ = some (.int .i64 x.num) ∧ w'.cell? ⟨wr.heap.size, 2, none⟩ = some (.int .i64 x.chg) ∧ w'.cell? ⟨wr.heap.size, 3, none⟩ = some (.int .i64 x.act) ∧ w'.cell? ⟨wr.heap.size, 4, none⟩ = some (.int .i64 x.ty.base) ∧ w'.cell? ⟨wr.heap.size, 5, none⟩ = some (.bool x.ty.k) ∧ w'.cell? ⟨wr.heap.size, 6, none⟩ = some (.bool x.ty.l) ∧ w'.cell? ⟨wr.heap.size, 7, none⟩ = some (.bool x.ty.x) ∧ w'.cell? ⟨wr.heap.size, 8, none⟩ = some (.int .u64 x.sum) ∧ w'.cell? ⟨wr.heap.size, 9, none⟩ = some (.int .i64 x.size) ∧ w'.cell? ⟨wr.heap.size, 10, none⟩ = some (.string x.frm) ∧ w'.cell? ⟨wr.heap.size, 11, none⟩ = some (.int .i64 x.fnum))
                (first | exact HC.out _ (Below.refl _ _).drew | exact HC.out _ hS5 | exact keep9 (Blk.turn (w := w5) (Blk.below hK2 hS5 (Blk.lt hK2)) (FMap.obj (FMap.below hN2 hS5)) hg6) (Blk.turn (w := w5) (Blk.below hX2 hS5 (Blk.lt hX2)) (FMap.obj (FMap.below hN2 hS5)) hg6))
                ((go_at_call 69; refine (HLO.out _ (Below.refl _ _).drew).mono ?_; rintro e' w5 ⟨rfl, hb5⟩; have hS5 : Below (World.heap W2).size W2 w5 := (Below.refl _ _).drew.trans hb5; obtain ⟨w6, hup, hN6, hg6, hs6⟩ := FMap.update (w := w5) (FMap.below hN2 hS5) keyOk_fil Tryz.underlying120 (x.path, x.num) t; have hup' : (Instr.mapUpdate 120 (.map (some (w.heap.size + 1 + 1 + 1 + 1))) (.agg #[.string x.path, .int .i64 x.num]) (.agg #[.string t.1, .int .i64 t.2])).run Tryz.prog w5 = .ok () w6 := hup; clear hup))
              all_goals
                have hK6 : Chk w6 (w.heap.size + 1 + 1 + 1 + 1 + 1) (.slice (some ad) revs.length cr) dr c.num c.client c.text ev rv (w.heap.size + 1 + 1) (w.heap.size + 1 + 1 + 1) (w.heap.size + 1 + 1 + 1 + 1) := Blk.turn (w := w5) (Blk.below hK2 hS5 (Blk.lt hK2)) (FMap.obj (FMap.below hN2 hS5)) hg6
                have hL6 : LastMap w6 (w.heap.size + 1 + 1) (lastM (lastOf (revs.take k)) x) := FMap.grown (w := w5) (FMap.below hL2' hS5) hg6 (by intro e; injection e with e; omega)
                have hE6 : EditMap w6 (w.heap.size + 1 + 1 + 1) (fun _ => none) := FMap.grown (w := w5) (FMap.below hE2 hS5) hg6 (by intro e; injection e with e; omega)
                have hb5w := below_next hb2 hS5
                have hb6 : Below w.heap.size w w6 := hb5w.grown hg6 hb5w.size (fun j e => by injection e with e; omega)
                clear hup'
                go_wp2_with fail
                go_roundw
                case rel => exact ⟨k + 1, by omega, by go_num, hb6, hK6, by rw [HT.out, lastOf_snoc]; exact hL6, hE6, by rw [HT.out, linesOf_snoc, HLN.out]; exact hN6⟩
                case measure => simp [intOf]; omega
    · rw [List.take_of_length_le (by omega)] at hch
      go_wp2_with fail
      go_ret
      exact ⟨_, _, rfl, hbr, by omega, hch⟩
end Go.Proofs.YtnblfaagchflaaaGreatDoor
/- steps. -/
namespace Go.Proofs.YtnblfaagchflaaaGreatDoor
open Go.RowKit
set_option linter.unusedVariables false
set_option linter.unusedSimpArgs false

def stepV (n g : Nat) : Value := .func (.func n) #[.pointer (some ⟨g, 0, none⟩)] #[]
set_option maxHeartbeats 1000000 in
theorem steps_any (g : Nat) (w : World) :
    Calls Tryz.prog 38 #[.pointer (some ⟨g, 0, none⟩)] w
      fun e w' => e = .returned (.slice (some ⟨w.heap.size, 0, none⟩) 5 5) ∧ Below w.heap.size w w' ∧ Blk w' w.heap.size 82 [stepV 70 g, stepV 71 g, stepV 72 g, stepV 73 g, stepV 74 g] := by
  go_enter Tryz.func38, Tryz.ntmps38
  go_wp2_with fail
  go_ret
  exact ⟨rfl, (Below.refl _ _).alloc (Nat.le_refl _) _, blk_new w _ _⟩
end Go.Proofs.YtnblfaagchflaaaGreatDoor
/- slices.Clone at revisions; slices.Concat at records. -/
namespace Go.Proofs.YtnblfaagchflaaaGreatDoor
open Go.RowKit
set_option linter.unusedVariables false
set_option linter.unusedSimpArgs false

theorem revElem : ElemOk Tryz.prog 28 40 12 96 := elemOk_of Tryz.underlying28 (z := zeroRev.val) (by kernel_rfl) rfl (by decide)
theorem rcdElem : ElemOk Tryz.prog 29 57 6 64 := elemOk_of Tryz.underlying29 (z := .agg #[.string ⟨#[]⟩, .int .i64 0, .int .i64 0, .string ⟨#[]⟩, .int .i64 0, .int .i64 0]) (by kernel_rfl) rfl (by decide)
set_option maxHeartbeats 1000000 in
theorem clone_any (revs : List Rev) (v : Value) (w : World) (hR : Revs w v revs) (hl : revs.length ≤ 1000000) :
    Calls Tryz.prog 39 #[v] w
      fun e w' => ∃ v', e = .returned v' ∧ Below w.heap.size w w' ∧ w'.ownsRow w.heap.size 40 12 v' revs.length (revs.flatMap Rev.cells) := by
  obtain ⟨A, c, rfl, hc, hm, hlen, h0, hx⟩ := id hR
  cases A with
  | none =>
    have hc0 := h0 rfl
    have hn0 : revs = [] := List.eq_nil_of_length_eq_zero (by omega)
    subst hn0 hc0
    go_enter Tryz.func39, Tryz.ntmps39
    have heq : ∀ W, (binOp .eql 28 (.slice none 0 0) (.slice none 0 0)).run Tryz.prog W = .ok (.bool true) W := fun W => by kernel_rfl
    clear hx hlen h0 hR
    go_wp2_with fail
    go_ret
    exact ⟨_, rfl, Below.refl _ _, World.ownsRow_nil _ _ _ _⟩
  | some ad =>
    have heq : ∀ W, (binOp .eql 28 (.slice (some ad) revs.length c) (.slice none 0 0)).run Tryz.prog W = .ok (.bool false) W := fun W => by kernel_rfl
    clear hx hlen h0
    have HR := Lib.hid hR
    clear hR
    have hb0 : Below w.heap.size w (w.alloc (.cells #[] 40)) := (Below.refl _ _).alloc (Nat.le_refl _) _
    have hown : (w.alloc (.cells #[] 40)).ownsRow w.heap.size 40 12 (.slice (some ⟨w.heap.size, 0, none⟩) 0 0) 0 [] := ⟨rfl, .inr ⟨w.heap.size, 0, #[], rfl, Nat.le_refl _, heap_alloc_new w _, Nat.le_refl _, by unfold maxLen; omega, rfl, rfl⟩⟩
    have h1 : ∀ u ∈ revs.flatMap Rev.cells, u.oneCell' = true := by
      intro u hu
      obtain ⟨r, -, hr⟩ := List.mem_flatMap.1 hu
      simp only [Rev.cells, List.mem_cons, List.not_mem_nil, or_false] at hr
      rcases hr with rfl | rfl | rfl | rfl | rfl | rfl | rfl | rfl | rfl | rfl | rfl | rfl <;> rfl
    have H1 := Lib.hid h1
    clear h1
    go_enter Tryz.func39, Tryz.ntmps39
    go_wp2_with (at_builtin; refine wpList_push rfl rfl revElem hown rfl (HR.out.below hb0) rfl hb0 hb0.size H1.out (by omega) (by unfold maxLen; omega) ?_; intro A' c' w1 hown1 hbl1)
    go_ret
    exact ⟨_, rfl, hbl1, by simpa using hown1⟩
end Go.Proofs.YtnblfaagchflaaaGreatDoor
/- slices.Grow and slices.Concat at records. -/
namespace Go.Proofs.YtnblfaagchflaaaGreatDoor
open Go.RowKit
set_option linter.unusedVariables false
set_option linter.unusedSimpArgs false

set_option maxRecDepth 100000 in
set_option maxHeartbeats 1000000 in
theorem grow_any (n : Nat) (w : World) (hn : n ≤ 1000000) :
    Calls Tryz.prog 75 #[.slice none 0 0, .int .i64 n] w
      fun e w' => ∃ v', e = .returned v' ∧ Below w.heap.size w w' ∧ w'.ownsRow w.heap.size 57 6 v' 0 [] := by
  by_cases h0 : n = 0
  · subst h0
    go_enter Tryz.func75, Tryz.ntmps75
    go_wp2
    go_ret
    exact ⟨_, rfl, Below.refl _ _, World.ownsRow_nil _ _ _ _⟩
  · obtain ⟨i, z, ht, hi, hz, hsize, hby, hzs, hsz⟩ := rcdElem
    have hr := Lib.run_append_nil_zeros (P := Tryz.prog) w 29 3 29 57 i z .i64 .i64 Tryz.underlying29 Tryz.underlying3 hi hz n (by omega) (by omega) (by omega) (by rw [hby]; omega)
    have hb1 : Below w.heap.size w (w.drew.alloc (.cells (Builtin.zeroCells z.cells n ++ Builtin.zeroCells z.cells (grownCap w n 0 57 - n)) 57)) := (Below.refl _ _).drew.alloc (by simp) _
    have hge := grownCap_ge w n 0 57
    have hle := grownCap_le_maxLen w n 0 57 (by unfold maxLen; omega)
    have hown : (w.drew.alloc (.cells (Builtin.zeroCells z.cells n ++ Builtin.zeroCells z.cells (grownCap w n 0 57 - n)) 57)).ownsRow w.heap.size 57 6 (.slice (some ⟨w.heap.size, 0, none⟩) 0 (grownCap w n 0 57)) 0 [] :=
      ⟨rfl, .inr ⟨w.heap.size, _, _, rfl, Nat.le_refl _, heap_alloc_new w.drew _, Nat.zero_le _, hle, by rw [Array.size_append, size_zeroCells, size_zeroCells, hzs, ← Nat.add_mul]; congr 1; omega, by simp⟩⟩
    clear hz hsize hby hzs hsz ht hi
    generalize w.drew.alloc (.cells (Builtin.zeroCells z.cells n ++ Builtin.zeroCells z.cells (grownCap w n 0 57 - n)) 57) = w1 at hr hb1 hown
    generalize grownCap w n 0 57 = cp at hr hown hge hle
    have HO := Lib.hid hown
    have HB := Lib.hid hb1
    have hnz : (0 : Int) < (n : Int) := by omega
    unfold maxLen at hle
    clear hown hb1
    go_enter Tryz.func75, Tryz.ntmps75
    go_wp2_with (at_builtin; refine Lib.wpList_append_run _ rfl _ _ _ _ rfl _ _ rfl rfl _ _ hr ?_)
    go_ret
    exact ⟨_, rfl, HB.out, HO.out⟩

theorem rcd_one (l : List Rcd) : ∀ u ∈ l.flatMap Rcd.cells, u.oneCell' = true := by
  intro u hu
  obtain ⟨r, -, hr⟩ := List.mem_flatMap.1 hu
  simp only [Rcd.cells, List.mem_cons, List.not_mem_nil, or_false] at hr
  rcases hr with rfl | rfl | rfl | rfl | rfl | rfl <;> rfl
set_option maxHeartbeats 2000000 in
theorem concat_any (l1 l2 : List Rcd) (v1 v2 : Value) (g : Nat) (w : World) (hB : Blk w g 29 [v1, v2]) (h1 : Rcds w v1 l1) (h2 : Rcds w v2 l2) (hl1 : l1.length ≤ 100000) (hl2 : l2.length ≤ 100000) :
    Calls Tryz.prog 40 #[.slice (some ⟨g, 0, none⟩) 2 2] w
      fun e w' => ∃ v', e = .returned v' ∧ Below w.heap.size w w' ∧ w'.ownsRow w.heap.size 57 6 v' (l1.length + l2.length) ((l1 ++ l2).flatMap Rcd.cells) := by
  obtain ⟨A1, c1, rfl, -, -, -⟩ := id h1
  obtain ⟨A2, c2, rfl, -, -, -⟩ := id h2
  have b0 := hB.cell 0
  have b1 := hB.cell 1
  have b0' : w.cell? ⟨g, 0, none⟩ = some (.slice A1 l1.length c1) := b0
  have b1' : w.cell? ⟨g, 1, none⟩ = some (.slice A2 l2.length c2) := b1
  clear b0 b1
  have HB := Lib.hid hB
  have H1 := Lib.hid h1
  have H2 := Lib.hid h2
  have HG := Lib.hid (grow_any (l1.length + l2.length) w (by omega))
  rw [Int.natCast_add] at HG
  clear hB h1 h2
  go_enter Tryz.func40, Tryz.ntmps40
  go_wp2_with fail
  refine wp_loop_rounds 3 ?_
  rw [rounds_succ]
  go_wp2_with fail
  rw [rounds_succ]
  go_wp2_with fail
  rw [rounds_succ]
  go_wp2_with fail
  refine HG.out.mono ?_
  rintro e w1 ⟨v', rfl, hb1, hown1⟩
  have q0 := cell_below b0' hb1 (cell_lt b0')
  have q1 := cell_below b1' hb1 (cell_lt b1')
  have hr1 : Row w1 6 (.slice A1 l1.length c1) l1.length (l1.flatMap Rcd.cells) := Row.below H1.out hb1
  have B1 := Lib.hid b1'
  have HOW := Lib.hid hown1
  have HBL := Lib.hid hb1
  have HR1 := Lib.hid hr1
  clear hb1 hown1 b0' b1' hr1
  go_wp2_with fail
  refine wp_loop_rounds 3 ?_
  rw [rounds_succ]
  go_wp2_with (at_builtin; refine wpList_push rfl rfl rcdElem HOW.out rfl HR1.out rfl HBL.out HBL.out.size (rcd_one _) (by omega) (by unfold maxLen; omega) ?_; intro A' c' w2 hown2 hbl2)
  have q2 := cell_below B1.out hbl2 (cell_lt B1.out)
  have hr2 : Row w2 6 (.slice A2 l2.length c2) l2.length (l2.flatMap Rcd.cells) := Row.below H2.out hbl2
  rw [Nat.zero_add, List.nil_append] at hown2
  have HOW2 := Lib.hid hown2
  have HBL2 := Lib.hid hbl2
  have HR2 := Lib.hid hr2
  clear hown2 hbl2 hr2 q0 q1
  rw [rounds_succ]
  go_wp2_with (at_builtin; refine wpList_push rfl rfl rcdElem HOW2.out rfl HR2.out rfl HBL2.out HBL2.out.size (rcd_one _) (by omega) (by unfold maxLen; omega) ?_; intro A3 c3 w3 hown3 hbl3)
  have HOW3 := Lib.hid hown3
  have HBL3 := Lib.hid hbl3
  clear hown3 hbl3
  rw [rounds_succ]
  go_wp2_with fail
  go_ret
  refine ⟨_, rfl, HBL3.out, ?_⟩
  have := HOW3.out
  rw [List.flatMap_append]
  simpa using this
end Go.Proofs.YtnblfaagchflaaaGreatDoor
/- Plain Lean: what the walk of Append leans on, and that Append keeps it. -/
namespace Go.Proofs.YtnblfaagchflaaaGreatDoor
open Go.RowKit
set_option linter.unusedVariables false
set_option linter.unusedSimpArgs false

structure DepW (d : Dep) : Prop where
  len : d.revs.length ≤ 512
  rlen : d.recs.length ≤ 512
  num : ∀ r ∈ d.revs, 0 < r.num ∧ r.num ≤ d.revs.length
  path : ∀ r ∈ d.revs, validS r.path = true
  rec_ : ∀ r ∈ d.recs, r.good
structure ChgW (c : Chg) : Prop where
  len : c.edits.length ≤ 1000
  rlen : c.recs.length ≤ 1000
  path : ∀ x ∈ c.edits, x.path.size ≤ 1000
  rec_ : ∀ r ∈ c.recs, r.small ∧ r.last ≤ 9223372036854775807

theorem lastM_mem {f : ByteArray → Option Rev} {revs : List Rev} {x : Rev} (h : ∀ p r, f p = some r → r ∈ revs ∧ r.path = p) : ∀ p r, lastM f x p = some r → r ∈ revs ++ [x] ∧ r.path = p := by
  intro p r hr
  have hu : ∀ p r, upd f x.path x p = some r → r ∈ revs ++ [x] ∧ r.path = p := by
    intro p r hr
    unfold upd at hr
    by_cases e : p = x.path
    · rw [if_pos (by simpa using e)] at hr
      injection hr with hr
      subst hr
      exact ⟨by simp, e.symm⟩
    · rw [if_neg (by simpa using e)] at hr
      obtain ⟨h1, h2⟩ := h p r hr
      exact ⟨by simp [h1], h2⟩
  unfold lastM at hr
  cases hb : f x.path with
  | none => rw [hb] at hr; exact hu p r hr
  | some b =>
    rw [hb] at hr
    simp only at hr
    by_cases hlt : b.num < x.num
    · rw [if_pos hlt] at hr; exact hu p r hr
    · rw [if_neg hlt] at hr
      obtain ⟨h1, h2⟩ := h p r hr
      exact ⟨by simp [h1], h2⟩
theorem lastOf_mem (revs : List Rev) : ∀ p r, lastOf revs p = some r → r ∈ revs ∧ r.path = p := by
  suffices H : ∀ (l done : List Rev) (f : ByteArray → Option Rev), (∀ p r, f p = some r → r ∈ done ∧ r.path = p) → ∀ p r, l.foldl lastM f p = some r → r ∈ done ++ l ∧ r.path = p by
    intro p r hr
    have := H revs [] (fun _ => none) (fun p r h => by cases h) p r hr
    simpa using this
  intro l
  induction l with
  | nil => intro done f h p r hr; simpa using h p r hr
  | cons x l ih =>
    intro done f h p r hr
    have := ih (done ++ [x]) (lastM f x) (lastM_mem h) p r hr
    simpa using this
theorem DepW.lastNum {d : Dep} (h : DepW d) (p : ByteArray) : 0 ≤ (lastR (lastOf d.revs) p).num ∧ (lastR (lastOf d.revs) p).num ≤ d.revs.length := by
  unfold lastR
  cases hl : lastOf d.revs p with
  | none => simp [zeroRev]
  | some r =>
    have := h.num r (lastOf_mem _ _ _ hl).1
    simp; omega
theorem editsOf_mem (es : List Edt) : ∀ p e, editsOf es p = some e → e ∈ es ∧ e.path = p := by
  suffices H : ∀ (l done : List Edt) (f : ByteArray → Option Edt), (∀ p r, f p = some r → r ∈ done ∧ r.path = p) → ∀ p r, l.foldl (fun f e => upd f e.path e) f p = some r → r ∈ done ++ l ∧ r.path = p by
    intro p r hr
    have := H es [] (fun _ => none) (fun p r h => by cases h) p r hr
    simpa using this
  intro l
  induction l with
  | nil => intro done f h p r hr; simpa using h p r hr
  | cons x l ih =>
    intro done f h p r hr
    have := ih (done ++ [x]) (upd f x.path x) (fun p r hr => by
      unfold upd at hr
      by_cases e : p = x.path
      · rw [if_pos (by simpa using e)] at hr
        injection hr with hr
        subst hr
        exact ⟨by simp, e.symm⟩
      · rw [if_neg (by simpa using e)] at hr
        obtain ⟨h1, h2⟩ := h p r hr
        exact ⟨by simp [h1], h2⟩) p r hr
    simpa using this
theorem greatest_mem {revs : List Rev} {q : ByteArray} {p : Rev → Bool} {v : Rev} (h : greatest revs q p = some v) : v ∈ revs ∧ v.path = q ∧ p v = true := by
  suffices H : ∀ (l : List Rev) (o : Option Rev) (S : Rev → Prop), (∀ x, o = some x → S x ∧ x.path = q ∧ p x = true) → (∀ x ∈ l, S x) → ∀ v, l.foldl (fun o r => if r.path = q ∧ p r = true then (match o with
    | none => some r
    | some b => if b.num < r.num then some r else some b) else o) o = some v → S v ∧ v.path = q ∧ p v = true by
    exact H revs none (fun x => x ∈ revs) (fun x hx => by cases hx) (fun x hx => hx) v h
  intro l
  induction l with
  | nil => intro o S ho hl v hv; exact ho v hv
  | cons x l ih =>
    intro o S ho hl v hv
    refine ih _ S ?_ (fun y hy => hl y (List.mem_cons_of_mem _ hy)) v hv
    intro y hy
    simp only at hy
    split at hy
    · rename_i hx
      split at hy
      · injection hy with hy; subst hy; exact ⟨hl _ (List.mem_cons_self ..), hx⟩
      · split at hy
        · injection hy with hy; subst hy; exact ⟨hl _ (List.mem_cons_self ..), hx⟩
        · injection hy with hy; subst hy; exact ho _ rfl
    · exact ho y hy
theorem recsF_all {revs : List Rev} {c : Chg} {ed : ByteArray → Option Edt} : ∀ (rs : List Rcd) (b : Option Rcd), recsF revs c ed b rs = true → ∀ r ∈ rs, recOk revs c ed r = true
  | [], b, h, r, hr => by cases hr
  | x :: rs, b, h, r, hr => by
    unfold recsF at h
    simp only [Bool.and_eq_true] at h
    rcases List.mem_cons.1 hr with rfl | hr
    · exact h.1.2
    · exact recsF_all rs _ h.2 r hr
theorem recsE_zero {revs : List Rev} {c : Chg} (h : recsE revs c = 0) : recsF revs c (editsOf c.edits) none c.recs = true := by
  unfold recsE at h; split at h
  · assumption
  · cases h
/-- A record that is accepted: its target is an edit, its source a revision. -/
theorem isRec_parts {revs : List Rev} {n : Int} {ed : ByteArray → Option Edt} {r : Rcd} (h : isRec revs n ed r = true) : (∃ e, ed r.to = some e ∧ e.act ≠ 5 ∧ r.num = e.base + 1) ∧ ∃ v, greatest revs r.frm (fun v => decide (v.num = r.last)) = some v := by
  unfold isRec at h
  cases he : ed r.to with
  | none => rw [he] at h; cases h
  | some e =>
    rw [he] at h
    simp only at h
    split at h
    · cases h
    · rename_i hn
      refine ⟨⟨e, rfl, fun h5 => hn (.inl h5), ?_⟩, ?_⟩
      · exact Classical.byContradiction fun hc => hn (.inr (.inl hc))
      · unfold sourceR at h
        cases hg : greatest revs r.frm (fun v => decide (v.num = r.last)) with
        | none => rw [hg] at h; cases h
        | some v => exact ⟨v, rfl⟩
theorem appE_goods {d : Dep} {c : Chg} (hd : DepW d) (hc : ChgW c) (h2 : everyE (lastOf d.revs) emptyS c.edits = 0) (h4 : recsE d.revs c = 0) : ∀ r ∈ c.recs, r.good := by
  intro r hr
  have h1 := recsF_all _ _ (recsE_zero h4) r hr
  unfold recOk at h1
  rw [Bool.and_eq_true] at h1
  obtain ⟨⟨e, he, -, -⟩, v, hv⟩ := isRec_parts h1.1
  obtain ⟨g1, g2, -⟩ := greatest_mem hv
  obtain ⟨k1, k2⟩ := editsOf_mem _ _ _ he
  refine ⟨(hc.rec_ r hr).1, ?_, ?_⟩
  · rw [← g2]; exact hd.path v g1
  · rw [← k2]; exact ((everyE_paths h2).2 e k1).1
theorem roomE_zero {d : Dep} {c : Chg} (h : roomE d c = 0) : d.revs.length + c.edits.length ≤ 512 ∧ d.recs.length + c.recs.length ≤ 512 := by
  unfold roomE at h; split at h
  · cases h
  · omega
theorem appE_keeps {d : Dep} {c : Chg} (hd : DepW d) (hc : ChgW c) (h : appE d c = 0) (l : List Rcd) (hl : l.Perm (d.recs ++ c.recs)) : DepW ⟨newRevs d c, l⟩ := by
  obtain ⟨h1, h2, h3, h4, h5⟩ := appE_zero h
  obtain ⟨r1, r2⟩ := roomE_zero h5
  obtain ⟨s1, -⟩ := sizeE_zero h1
  have hlen : (newRevs d c).length = d.revs.length + c.edits.length := by unfold newRevs; simp
  refine ⟨by simp only [hlen]; exact r1, by simp only [hl.length_eq, List.length_append]; exact r2, ?_, ?_, ?_⟩
  · intro r hr
    simp only [hlen]
    rcases List.mem_append.1 hr with hr | hr
    · have := hd.num r hr; omega
    · obtain ⟨e, he, rfl⟩ := List.mem_map.1 hr
      have := hd.lastNum e.path
      simp only [madeR]; omega
  · intro r hr
    rcases List.mem_append.1 hr with hr | hr
    · exact hd.path r hr
    · obtain ⟨e, he, rfl⟩ := List.mem_map.1 hr
      exact ((everyE_paths h2).2 e he).1
  · intro r hr
    rcases List.mem_append.1 (hl.mem_iff.1 hr) with hr | hr
    · exact hd.rec_ r hr
    · exact appE_goods hd hc h2 h4 r hr
theorem appE_bases {d : Dep} {c : Chg} (hd : DepW d) (h2 : everyE (lastOf d.revs) emptyS c.edits = 0) : ∀ p e, editsOf c.edits p = some e → 0 ≤ e.base ∧ e.base ≤ 1000000 := by
  intro p e he
  obtain ⟨k1, k2⟩ := editsOf_mem _ _ _ he
  have := (oneE_zero ((everyE_paths h2).2 e k1).2.2).2.1
  have h3 := hd.lastNum e.path
  have := hd.len
  omega
/-- Records that are good, as elements of the sort. -/
theorem goods_list {l : List Rcd} (h : ∀ r ∈ l, r.good) : ∃ l' : List OkRcd, l'.map (·.1) = l ∧ l'.length = l.length ∧ l'.flatMap OkRcd.enc = l.flatMap Rcd.cells := by
  induction l with
  | nil => exact ⟨[], rfl, rfl, rfl⟩
  | cons r l ih =>
    obtain ⟨l', h1, h2, h3⟩ := ih fun x hx => h x (List.mem_cons_of_mem _ hx)
    exact ⟨⟨r, h r (List.mem_cons_self ..)⟩ :: l', by simp [h1], by simp [h2], by simp [h3, OkRcd.enc]⟩
theorem enc_list (l : List OkRcd) : l.flatMap OkRcd.enc = (l.map (·.1)).flatMap Rcd.cells := by
  induction l with
  | nil => rfl
  | cons r l ih => simp [ih, OkRcd.enc]
end Go.Proofs.YtnblfaagchflaaaGreatDoor
/- Words for history.Append. -/
namespace Go.Proofs.YtnblfaagchflaaaGreatDoor
open Go.RowKit
set_option linter.unusedVariables false
set_option linter.unusedSimpArgs false

/-- The state of Append while its steps run. -/
structure ApSt (w0 w : World) (d : Dep) (c : Chg) (dv dr ev rv : Value) (g b gd gc gr gs : Nat) (ed : Option (ByteArray → Option Edt)) : Prop where
  bel : Below w0.heap.size w0 w
  le : w0.heap.size ≤ b
  ler : w0.heap.size ≤ gr
  chk : Chk w g dv dr c.num c.client c.text ev rv b (b + 1) (b + 1 + 1)
  last : LastMap w b (lastOf d.revs)
  edits : ∀ f, ed = some f → EditMap w (b + 1) f
  lines : LineMap w (b + 1 + 1) (linesOf d.revs)
  boxD : Blk w gd 31 [dv, dr]
  boxC : Blk w gc 53 [.int .i64 c.num, .string c.client, .string c.text, ev, rv]
  boxR : Blk w gr 31 [.slice none 0 0, .slice none 0 0]
  stp : Blk w gs 82 [stepV 70 g, stepV 71 g, stepV 72 g, stepV 73 g, stepV 74 g]
  revs : Revs w dv d.revs
  recs : Rcds w dr d.recs
  eds : Edts w ev c.edits
  rcs : Rcds w rv c.recs
section
variable {w0 w w' : World} {d : Dep} {c : Chg} {dv dr ev rv : Value} {g b gd gc gr gs : Nat} {ed : Option (ByteArray → Option Edt)}
theorem ApSt.below (h : ApSt w0 w d c dv dr ev rv g b gd gc gr gs ed) (hb : Below w.heap.size w w') : ApSt w0 w' d c dv dr ev rv g b gd gc gr gs ed :=
  ⟨below_next h.bel hb, h.le, h.ler, Blk.below h.chk hb (Blk.lt h.chk), FMap.below h.last hb, fun f e => FMap.below (h.edits f e) hb, FMap.below h.lines hb, h.boxD.below hb h.boxD.lt, h.boxC.below hb h.boxC.lt, h.boxR.below hb h.boxR.lt, h.stp.below hb h.stp.lt, h.revs.below hb, h.recs.below hb, h.eds.below hb, h.rcs.below hb⟩
theorem ApSt.every {f : ByteArray → Option Edt} {es : List Edt} {r : Int} (h : ApSt w0 w d c dv dr ev rv g b gd gc gr gs (some f)) (he : EvRel w (b + 1) es r w') (hr : r = 0) : ApSt w0 w' d c dv dr ev rv g b gd gc gr gs (some (editsOf es)) := by
  have hg := he.1
  have hm := FMap.obj (h.edits f rfl)
  have hb : Below w0.heap.size w0 w' := h.bel.grown hg h.bel.size (fun j e => by injection e with e; have := h.le; omega)
  exact ⟨hb, h.le, h.ler, Blk.turn h.chk hm hg, FMap.grown h.last hg (by intro e; injection e with e; omega), fun f' e => by injection e with e; subst e; exact he.2 hr, FMap.grown h.lines hg (by intro e; injection e with e; omega), h.boxD.turn hm hg, h.boxC.turn hm hg, h.boxR.turn hm hg, h.stp.turn hm hg, Row.turn h.revs (by decide) hm hg, Row.turn h.recs (by decide) hm hg, Row.turn h.eds (by decide) hm hg, Row.turn h.rcs (by decide) hm hg⟩
theorem ApSt.every' {f : ByteArray → Option Edt} {es : List Edt} {r : Int} (h : ApSt w0 w d c dv dr ev rv g b gd gc gr gs (some f)) (he : EvRel w (b + 1) es r w') : Below w0.heap.size w0 w' ∧ Blk w' gr 31 [.slice none 0 0, .slice none 0 0] := by
  have hg := he.1
  have hm := FMap.obj (h.edits f rfl)
  exact ⟨h.bel.grown hg h.bel.size (fun j e => by injection e with e; have := h.le; omega), h.boxR.turn hm hg⟩
end
theorem box5 {w : World} {g : Nat} {e : TypeId} {a b c d x : Value} (h : Blk w g e [a, b, c, d, x]) :
    w.cell? ⟨g, 0, none⟩ = some a ∧ w.cell? ⟨g, 1, none⟩ = some b ∧ w.cell? ⟨g, 2, none⟩ = some c ∧ w.cell? ⟨g, 3, none⟩ = some d ∧ w.cell? ⟨g, 4, none⟩ = some x :=
  ⟨h.cell 0, h.cell 1, h.cell 2, h.cell 3, h.cell 4⟩

/-- v's row, if it has a block, lies from B on. -/
def Fresh (B : Nat) (v : Value) : Prop := ∀ x, v.ownBlock = some x → B ≤ x
/-- What Append leaves. -/
def ApPost (w : World) (d : Dep) (c : Chg) (e : Ending) (w' : World) : Prop :=
  Below w.heap.size w w' ∧ (appE d c ≠ 0 ∧ e = .returned (.tuple #[.agg #[.slice none 0 0, .slice none 0 0], .int .i64 (appE d c)]) ∨
    appE d c = 0 ∧ ∃ (dv' dr' : Value) (l : List Rcd), e = .returned (.tuple #[.agg #[dv', dr'], .int .i64 0]) ∧ Revs w' dv' (newRevs d c) ∧ Rcds w' dr' l ∧ l.Perm (d.recs ++ c.recs) ∧ l.Pairwise (fun a b => 0 ≤ cmpR b a) ∧ Fresh w.heap.size dv' ∧ Fresh w.heap.size dr')

theorem own_mono {w : World} {base base' : Nat} {e : TypeId} {size n : Nat} {v : Value} {xs : List Value} (h : w.ownsRow base e size v n xs) (hb : base' ≤ base) : w.ownsRow base' e size v n xs := by
  obtain ⟨h1, h2 | ⟨g, cap, cur, e1, h3, h4⟩⟩ := h
  · exact ⟨h1, .inl h2⟩
  · exact ⟨h1, .inr ⟨g, cap, cur, e1, Nat.le_trans hb h3, h4⟩⟩
theorem own_grown {w w' : World} {base : Nat} {e : TypeId} {size n : Nat} {v : Value} {xs : List Value} {row : Option Nat} (h : w.ownsRow base e size v n xs) (hg : w.grownBy w' row) (hne : ∀ x, v.ownBlock = some x → row ≠ some x) : w'.ownsRow base e size v n xs := by
  obtain ⟨h1, h2 | ⟨g, cap, cur, e1, h3, h4, h5⟩⟩ := h
  · exact ⟨h1, .inl h2⟩
  · exact ⟨h1, .inr ⟨g, cap, cur, e1, h3, by rw [hg.block g (Array.getElem?_eq_some_iff.1 h4).1 (fun e => hne g (by rw [e1]; rfl) e.symm)]; exact h4, h5⟩⟩
theorem own_setCell {w : World} {base : Nat} {e : TypeId} {size n : Nat} {v : Value} {xs : List Value} (h : w.ownsRow base e size v n xs) {p : Addr} (hne : v.ownBlock ≠ some p.block) (u : Value) : (w.setCell p u).ownsRow base e size v n xs := by
  obtain ⟨h1, h2 | ⟨g, cap, cur, e1, h3, h4, h5⟩⟩ := h
  · exact ⟨h1, .inl h2⟩
  · exact ⟨h1, .inr ⟨g, cap, cur, e1, h3, by rw [Below.heap_setCell w p u g (fun e => hne (by rw [e1, ← e]; rfl))]; exact h4, h5⟩⟩
theorem clone_own (revs : List Rev) (v : Value) (V X : World) (hX : Below V.heap.size V X) (hR : Revs X v revs) (hl : revs.length ≤ 1000000) :
    Calls Tryz.prog 39 #[v] X
      fun e w' => ∃ A' c', e = .returned (.slice A' revs.length c') ∧ Below V.heap.size V w' ∧ w'.ownsRow X.heap.size 40 12 (.slice A' revs.length c') revs.length (revs.flatMap Rev.cells) ∧ Below X.heap.size X w' :=
  (clone_any revs v X hR hl).mono fun e w' ⟨v', h1, h2, h3⟩ => by
    obtain ⟨A', c', rfl⟩ := own_slice h3
    exact ⟨A', c', h1, below_next hX h2, h3, h2⟩
theorem concat_own (l1 l2 : List Rcd) (v1 v2 : Value) (g : Nat) (V w : World) (hX : Below V.heap.size V w) (hB : Blk w g 29 [v1, v2]) (h1 : Rcds w v1 l1) (h2 : Rcds w v2 l2) (hl1 : l1.length ≤ 100000) (hl2 : l2.length ≤ 100000) :
    Calls Tryz.prog 40 #[.slice (some ⟨g, 0, none⟩) 2 2] w
      fun e w' => ∃ A' c', e = .returned (.slice A' (l1.length + l2.length) c') ∧ Below V.heap.size V w' ∧ w'.ownsRow w.heap.size 57 6 (.slice A' (l1.length + l2.length) c') (l1.length + l2.length) ((l1 ++ l2).flatMap Rcd.cells) ∧ Below w.heap.size w w' :=
  (concat_any l1 l2 v1 v2 g w hB h1 h2 hl1 hl2).mono fun e w' ⟨v', k1, k2, k3⟩ => by
    obtain ⟨A', c', rfl⟩ := own_slice k3
    exact ⟨A', c', k1, below_next hX k2, k3, k2⟩
/-- Append's result while it is made: in block g10, of two rows of its own. -/
structure ApR (V wx : World) (g10 : Nat) (v1 v2 : Value) (n m : Nat) (xs ys : List Value) : Prop where
  bel : Below V.heap.size V wx
  le : V.heap.size ≤ g10
  box : Blk wx g10 31 [v1, v2]
  one : wx.ownsRow V.heap.size 40 12 v1 n xs
  two : wx.ownsRow V.heap.size 57 6 v2 m ys
  ne1 : v1.ownBlock ≠ some g10
  ne2 : v2.ownBlock ≠ some g10
  ne12 : ∀ x, v1.ownBlock = some x → v2.ownBlock ≠ some x

/-- 'append(s, x...)' as one step of a region that draws its order. -/
theorem step_app {P : Program} {W : World} {ops : Array Oper} {o : Oper} {a : Act} {K : Act → World → Prop} {Q : Exit → Act → World → Prop} {E : Prop} (hgd : o.guard = none) {s x : Operand} {t : TypeId}
    (ho : o.op = .call { callee := .builtin .append, args := #[s, x], argTypes := #[t, t] })
    {e : TypeId} {size bytes base : Nat} (he : ElemOk P t e size bytes) {v : Value} {n : Nat} {xs : List Value} (hown : W.ownsRow base e size v n xs) (hs : a.eval s = v)
    {u : Value} {m : Nat} {news : List Value} (hr : Row W size u m news) (hx : a.eval x = u) (h1 : ∀ u ∈ news, u.oneCell' = true) (hbytes : (n + m) * bytes ≤ 140737488355328) (h63 : n + m ≤ maxLen) (hbase : base ≤ W.heap.size)
    (h : ∀ A' c' w', w'.ownsRow base e size (.slice A' (n + m) c') (n + m) (xs ++ news) → W.grownBy w' v.ownBlock →
      ((Value.slice A' (n + m) c').ownBlock = v.ownBlock ∨ (Value.slice A' (n + m) c').ownBlock = some W.heap.size) → K (a.put o.dst (.slice A' (n + m) c')) w') :
    if Region.wanted o (yielded ops a.tmps) = true then Oper.wp P o a W K Q else E := by
  have hw : Region.wanted o (yielded ops a.tmps) = true := by simp [Region.wanted, hgd]
  rw [if_pos hw]
  obtain ⟨A', c', w', hrun, h2, h3, h4⟩ := run_app (ty := o.type) he hown hr h1 hbytes h63 hbase
  unfold Oper.wp execOp
  simp only [ho, resolve, invoke, builtin, Sem.run_bind, Sem.run_pure, Result.andThen_ok, List.map_toArray, List.map_cons, List.map_nil, hs, hx, hrun]
  exact h A' c' w' h2 h3 h4
theorem below_alloc' {a w : World} (h : Below a.heap.size a w) (o : Obj) : Below a.heap.size a (w.alloc o) := h.alloc h.size o
theorem Blk.below' {w w' : World} {g : Nat} {e : TypeId} {cs : List Value} (h : Blk w g e cs) (hb : Below w.heap.size w w') : Blk w' g e cs := h.below hb h.lt
theorem Blk.drew' {w : World} {g : Nat} {e : TypeId} {cs : List Value} (h : Blk w g e cs) : Blk w.drew g e cs := h
theorem own_drew' {w : World} {B : Nat} {e : TypeId} {k : Nat} {v : Value} {n : Nat} {xs : List Value} (h : w.ownsRow B e k v n xs) : w.drew.ownsRow B e k v n xs := h
theorem own_alloc' {w : World} {B : Nat} {e : TypeId} {k : Nat} {v : Value} {n : Nat} {xs : List Value} (h : w.ownsRow B e k v n xs) (o : Obj) : (w.alloc o).ownsRow B e k v n xs := own_below h ((Below.refl _ _).alloc (Nat.le_refl _) _)
theorem drew_heap (w : World) : w.drew.heap = w.heap := rfl
theorem blk_at {w : World} {g : Nat} {cs : List Value} {e : TypeId} (hg : g = w.heap.size) : Blk (w.alloc (.cells cs.toArray e)) g e cs := by rw [hg]; exact blk_new w cs e
theorem apR_of {V X w5 Y w6 W : World} {v1 v2 : Value} {g10 n m : Nat} {xs ys : List Value} (hX : Below V.heap.size V X) (h5 : Below X.heap.size X w5) (hY : Below w5.heap.size w5 Y) (h6 : Below Y.heap.size Y w6) (hW : Below w6.heap.size w6 W)
    (o5 : w5.ownsRow X.heap.size 40 12 v1 n xs) (o6 : w6.ownsRow Y.heap.size 57 6 v2 m ys)
    (hb : Blk W g10 31 [.slice none 0 0, .slice none 0 0]) (hg : (V.heap.size ≤ g10 ∧ g10 < X.heap.size) ∨ (w5.heap.size ≤ g10 ∧ g10 < Y.heap.size) ∨ w6.heap.size ≤ g10) :
    ApR V ((W.setCell ⟨g10, 0, none⟩ v1).setCell ⟨g10, 1, none⟩ v2) g10 v1 v2 n m xs ys := by
  have b5 := below_next hX h5
  have h56 := below_next hY h6
  have b6 := below_next b5 h56
  have bW := below_next b6 hW
  have l1 := o5.lt
  have l2 := o6.lt
  have s1 := hX.size
  have s2 := h5.size
  have s3 := hY.size
  have s4 := h6.size
  have s5 := hW.size
  have n1 : v1.ownBlock ≠ some g10 := fun e => by have := l1 _ e; omega
  have n2 : v2.ownBlock ≠ some g10 := fun e => by have := l2 _ e; omega
  have hle : V.heap.size ≤ g10 := by omega
  refine ⟨(bW.setCell (p := ⟨g10, 0, none⟩) hle _).setCell (p := ⟨g10, 1, none⟩) hle _, hle, (hb.set_ 0 v1).set_ 1 v2, ?_, ?_, n1, n2, ?_⟩
  · exact own_mono (own_setCell (own_setCell (own_below (own_below o5 h56) hW) (p := ⟨g10, 0, none⟩) n1 _) (p := ⟨g10, 1, none⟩) n1 _) s1
  · exact own_mono (own_setCell (own_setCell (own_below o6 hW) (p := ⟨g10, 0, none⟩) n2 _) (p := ⟨g10, 1, none⟩) n2 _) (by omega)
  · intro x e1 e2
    have := l1 _ e1
    have := l2 _ e2
    omega

theorem apR_of2 {V X w5 Y w6 : World} {v1 v2 : Value} {n m : Nat} {xs ys : List Value} (hX : Below V.heap.size V X) (h5 : Below X.heap.size X w5) (hY : Below w5.heap.size w5 Y) (h6 : Below Y.heap.size Y w6)
    (o5 : w5.ownsRow X.heap.size 40 12 v1 n xs) (o6 : w6.ownsRow Y.heap.size 57 6 v2 m ys) :
    ApR V (w6.alloc (.cells #[v1, v2] 31)) w6.heap.size v1 v2 n m xs ys := by
  have b5 := below_next hX h5
  have h56 := below_next hY h6
  have b6 := below_next b5 h56
  have l1 := o5.lt
  have l2 := o6.lt
  have s1 := hX.size
  have s2 := h5.size
  have s3 := hY.size
  have s4 := h6.size
  refine ⟨below_alloc' b6 _, b6.size, blk_new w6 [v1, v2] _, own_mono (own_alloc' (own_below o5 h56) _) s1, own_mono (own_alloc' o6 _) (by omega), fun e => by have := l1 _ e; omega, fun e => by have := l2 _ e; omega, ?_⟩
  intro x e1 e2
  have := l1 _ e1
  have := l2 _ e2
  omega

/-- One more revision appended: X is the world ahead of the append, the element's block laid. -/
theorem ApR.push {V wr X w5 : World} {g10 : Nat} {v1 v2 v3 : Value} {n n' m : Nat} {xs xs' ys : List Value} (h : ApR V wr g10 v1 v2 n m xs ys) (hX : Below wr.heap.size wr X) (ho : w5.ownsRow V.heap.size 40 12 v3 n' xs') (hg : X.grownBy w5 v1.ownBlock) (hw : v3.ownBlock = v1.ownBlock ∨ v3.ownBlock = some X.heap.size) :
    ApR V (w5.setCell ⟨g10, 0, none⟩ v3) g10 v3 v2 n' m xs' ys := by
  have l1 := h.one.lt
  have l2 := h.two.lt
  have lb := h.box.lt
  have hs := hX.size
  have n3 : v3.ownBlock ≠ some g10 := fun e => by
    rcases hw with hw | hw
    · exact h.ne1 (hw ▸ e)
    · rw [hw] at e; injection e with e; omega
  have b5 : Below V.heap.size V w5 := (below_next h.bel hX).grown hg (by have := h.bel.size; omega) (fun k e => (l1 k e).1)
  refine ⟨b5.setCell (p := ⟨g10, 0, none⟩) h.le _, h.le, ?_, own_setCell ho (p := ⟨g10, 0, none⟩) n3 _, ?_, n3, h.ne2, ?_⟩
  · exact ((h.box.below hX lb).grown hg (fun e => h.ne1 e.symm)).set_ 0 v3
  · exact own_setCell (own_grown (own_below h.two hX) hg (fun x e e2 => h.ne12 x e2 e)) (p := ⟨g10, 0, none⟩) h.ne2 _
  · intro x e1 e2
    rcases hw with hw | hw
    · exact h.ne12 x (hw ▸ e1) e2
    · rw [hw] at e1; injection e1 with e1
      have := l2 _ e2; omega

theorem ApR.under {V wr X : World} {g10 : Nat} {v1 v2 : Value} {n m : Nat} {xs ys : List Value} (h : ApR V wr g10 v1 v2 n m xs ys) (hX : Below wr.heap.size wr X) : ApR V X g10 v1 v2 n m xs ys :=
  ⟨below_next h.bel hX, h.le, h.box.below hX h.box.lt, own_below h.one hX, own_below h.two hX, h.ne1, h.ne2, h.ne12⟩
/-- The operations of region n of a function's text. -/
def regAt (n : Nat) : Code → Option (Array Oper)
  | .region i ops _ => if i = n then some ops else none
  | .seq a b => (regAt n a).or (regAt n b)
  | .cond _ a b => (regAt n a).or (regAt n b)
  | .block _ a => regAt n a
  | .loop a => regAt n a
  | _ => none
end Go.Proofs.YtnblfaagchflaaaGreatDoor
/- Region 13 of history.Append: one more revision. -/
namespace Go.Proofs.YtnblfaagchflaaaGreatDoor
open Go.RowKit
set_option linter.unusedVariables false
set_option linter.unusedSimpArgs false

set_option maxRecDepth 100000 in
set_option maxHeartbeats 8000000 in
theorem region13 (ops : Array Oper) (hops : Tryz.f15.body.bind (regAt 13) = some ops) (Q : Exit → Act → World → Prop) (g g10 ge n m : Nat) (x : Edt) (r : Rev) (v1 v2 : Value) (xs ys : List Value) (V V1 : World)
    (hR : ApR V V1 g10 v1 v2 n m xs ys) (hB : Blk V1 ge 55 [.string x.path, .int .i64 x.act, .int .i64 x.ty.base, .bool x.ty.k, .bool x.ty.l, .bool x.ty.x, .int .u64 x.sum, .int .i64 x.size, .int .i64 x.base, .string x.frm, .int .i64 x.fnum, .int .i64 x.fence]) (hge : V.heap.size ≤ ge) (hne : v1.ownBlock ≠ some ge) (hn : n ≤ 100000)
    (hrev : ∀ X, Below V1.heap.size V1 X → Calls Tryz.prog 41 #[.pointer (some ⟨g, 0, none⟩), .agg #[.string x.path, .int .i64 x.act, .int .i64 x.ty.base, .bool x.ty.k, .bool x.ty.l, .bool x.ty.x, .int .u64 x.sum, .int .i64 x.size, .int .i64 x.base, .string x.frm, .int .i64 x.fnum, .int .i64 x.fence]] X fun e w' => e = .returned (.agg #[.string r.path, .int .i64 r.num, .int .i64 r.chg, .int .i64 r.act, .int .i64 r.ty.base, .bool r.ty.k, .bool r.ty.l, .bool r.ty.x, .int .u64 r.sum, .int .i64 r.size, .string r.frm, .int .i64 r.fnum]) ∧ Below X.heap.size X w')
    (u0 u1 u2 u3 u4 u5 u7 u8 u9 u11 u13 u14 u15 u16 u17 u18 u19 u20 u21 u22 u23 u24 u25 u26 u27 u28 u29 u30 u31 u32 u33 u34 u35 u36 u37 u38 u39 u40 u41 u42 u43 u44 u45 u46 u47 u48 u49 u50 u51 u52 u53 u54 u55 u56 u57 u58 u59 : Value)
    (hQ : ∀ (t47 t48 t49 t50 t51 t52 t53 t54 : Value) (v3 : Value) (w' : World), Hid (ApR V w' g10 v3 v2 (n + 1) m (xs ++ [.string r.path, .int .i64 r.num, .int .i64 r.chg, .int .i64 r.act, .int .i64 r.ty.base, .bool r.ty.k, .bool r.ty.l, .bool r.ty.x, .int .u64 r.sum, .int .i64 r.size, .string r.frm, .int .i64 r.fnum]) ys) → Q .normal ⟨#[u0, u1, u2, u3, u4, u5, .pointer (some ⟨g, 0, none⟩), u7, u8, u9, .pointer (some ⟨g10, 0, none⟩), u11, .pointer (some ⟨ge, 0, none⟩), u13, u14, u15, u16, u17, u18, u19, u20, u21, u22, u23, u24, u25, u26, u27, u28, u29, u30, u31, u32, u33, u34, u35, u36, u37, u38, u39, u40, u41, u42, u43, u44, u45, u46, t47, t48, t49, t50, t51, t52, t53, t54, u55, u56, u57, u58, u59], []⟩ w') :
    (Code.region 13 ops true).wp Tryz.prog Q ⟨#[u0, u1, u2, u3, u4, u5, .pointer (some ⟨g, 0, none⟩), u7, u8, u9, .pointer (some ⟨g10, 0, none⟩), u11, .pointer (some ⟨ge, 0, none⟩), u13, u14, u15, u16, u17, u18, u19, u20, u21, u22, u23, u24, u25, u26, u27, u28, u29, u30, u31, u32, u33, u34, u35, u36, u37, u38, u39, u40, u41, u42, u43, u44, u45, u46, u47, u48, u49, u50, u51, u52, u53, u54, u55, u56, u57, u58, u59], []⟩ V1 := by
  simp only [Tryz.f15, Option.bind_some, regAt] at hops
  simp at hops
  subst hops
  obtain ⟨A1, c1, hv1⟩ := own_slice hR.one
  subst hv1
  have HQ := Lib.hid hQ
  have HR := Lib.hid hR
  have HB := Lib.hid hB
  have HRV2 := Lib.hid hrev
  clear hQ hR hB hrev
  have f0 : V1.cell? ⟨g10, 0, none⟩ = some (.slice A1 n c1) := HR.out.box.cell 0
  obtain ⟨c0, c1', c2, c3, c4, c5, c6, c7, c8, c9, c10, c11⟩ := box12 HB.out
  refine wp_region_noPanic ?_
  go_region_law (first
    | (refine step_app rfl rfl revElem (own_below (own_below HR.out.one hS5) ((Below.refl _ _).alloc (Nat.le_refl _) _)) (by simp [Act.eval, Act.put]) (row_new w5 [.string r.path, .int .i64 r.num, .int .i64 r.chg, .int .i64 r.act, .int .i64 r.ty.base, .bool r.ty.k, .bool r.ty.l, .bool r.ty.x, .int .u64 r.sum, .int .i64 r.size, .string r.frm, .int .i64 r.fnum] _ 12 1 rfl (by decide) _ rfl) (by simp [Act.eval, Act.put]) (by simp [Value.oneCell']) (by omega) (by unfold maxLen; omega) (by have := hS5.size; have := HR.out.bel.size; simp; omega) ?_; intro A6 c6' w6 hO6 hG6 hw6; have hbx := (HR.out.box.below (below_next hS5 ((Below.refl _ _).alloc (Nat.le_refl _) _)) HR.out.box.lt).grown hG6 (fun e => HR.out.ne1 e.symm); obtain ⟨b0, b1, g0, g1⟩ := box2 hbx)
    | (go_simp; go_at_call 41; refine (HRV2.out _ (Below.refl _ _).drew).mono ?_; rintro e w5 ⟨rfl, hX5⟩; have hS5 : Below V1.heap.size V1 w5 := (Below.refl _ _).drew.trans hX5; have f5 : w5.cell? ⟨g10, 0, none⟩ = some (.slice A1 n c1) := (HR.out.box.below hS5 HR.out.box.lt).cell 0; have f6 : (w5.alloc (.cells #[.string r.path, .int .i64 r.num, .int .i64 r.chg, .int .i64 r.act, .int .i64 r.ty.base, .bool r.ty.k, .bool r.ty.l, .bool r.ty.x, .int .u64 r.sum, .int .i64 r.size, .string r.frm, .int .i64 r.fnum] 40)).cell? ⟨g10, 0, none⟩ = some (.slice A1 n c1) := (HR.out.box.below (hS5.alloc hS5.size _) HR.out.box.lt).cell 0))
  all_goals exact NoPanic.normal (HQ.out _ _ _ _ _ _ _ _ _ _ (HR.out.push (below_next hS5 ((Below.refl _ _).alloc (Nat.le_refl _) _)) hO6 hG6 hw6))
end Go.Proofs.YtnblfaagchflaaaGreatDoor
