/- newCheck. -/
import Derived.Test.YteolonjmgojoeaaGreatDoorMzEvery
import Derived.Test.YteolonjmgojoeaaGreatDoorMgw4
namespace Go.Proofs.YteolonjmgojoeaaGreatDoor
open Go.RowKit
open Go.Sort (grow)
set_option linter.unusedVariables false
set_option linter.unusedSimpArgs false

theorem linesOf_snoc (a : List Rev) (r : Rev) : linesOf (a ++ [r]) = lineM (linesOf a) r := by unfold linesOf; rw [List.foldl_append]; rfl
theorem lastOf_snoc (a : List Rev) (r : Rev) : lastOf (a ++ [r]) = lastM (lastOf a) r := by unfold lastOf; rw [List.foldl_append]; rfl
theorem keep9 {W : World} {g gx bl be bn : Nat} {dv dr ev rv : Value} {n : Int} {cl tx : ByteArray} {x : Rev} (hK : Chk W g dv dr n cl tx ev rv bl be bn) (hX : Blk W gx 74 [.string x.path, .int .i64 x.num, .int .i64 x.chg, .int .i64 x.act, .int .i64 x.ty.base, .bool x.ty.k, .bool x.ty.l, .bool x.ty.x, .int .u64 x.sum, .int .i64 x.size, .string x.frm, .int .i64 x.fnum]) :
    W.cell? ⟨g, 9, none⟩ = some (.map (some bn)) ∧ W.cell? ⟨gx, 0, none⟩ = some (.string x.path) ∧ W.cell? ⟨gx, 1, none⟩ = some (.int .i64 x.num) ∧ W.cell? ⟨gx, 2, none⟩ = some (.int .i64 x.chg) ∧ W.cell? ⟨gx, 3, none⟩ = some (.int .i64 x.act) ∧ W.cell? ⟨gx, 4, none⟩ = some (.int .i64 x.ty.base) ∧ W.cell? ⟨gx, 5, none⟩ = some (.bool x.ty.k) ∧ W.cell? ⟨gx, 6, none⟩ = some (.bool x.ty.l) ∧ W.cell? ⟨gx, 7, none⟩ = some (.bool x.ty.x) ∧ W.cell? ⟨gx, 8, none⟩ = some (.int .u64 x.sum) ∧ W.cell? ⟨gx, 9, none⟩ = some (.int .i64 x.size) ∧ W.cell? ⟨gx, 10, none⟩ = some (.string x.frm) ∧ W.cell? ⟨gx, 11, none⟩ = some (.int .i64 x.fnum) :=
  ⟨Blk.cell hK 9, hX.cell 0, hX.cell 1, hX.cell 2, hX.cell 3, hX.cell 4, hX.cell 5, hX.cell 6, hX.cell 7, hX.cell 8, hX.cell 9, hX.cell 10, hX.cell 11⟩
/-- The maps of an examination, as far as the first revisions lead. -/
structure NCh (w : World) (g : Nat) (dv dr : Value) (c : Chg) (ev rv : Value) (b : Nat) (revs : List Rev) : Prop where
  chk : Chk w g dv dr c.num c.client c.text ev rv b (b + 1) (b + 1 + 1)
  last : LastMap w b (lastOf revs)
  edits : EditMap w (b + 1) (fun _ => none)
  lines : LineMap w (b + 1 + 1) (linesOf revs)

set_option maxRecDepth 100000 in
set_option maxHeartbeats 8000000 in
theorem newCheck_any (revs : List Rev) (c : Chg) (dv dr ev rv : Value) (w : World) (hR : Revs w dv revs) (hl : revs.length ≤ 1000000) (hn : ∀ r ∈ revs, 0 < r.num ∧ r.num ≤ 1000000) :
    Calls Tryz.prog 13 #[.agg #[dv, dr], .agg #[.int .i64 c.num, .string c.client, .string c.text, ev, rv]] w
      fun e w' => ∃ g b, e = .returned (.pointer (some ⟨g, 0, none⟩)) ∧ Below w.heap.size w w' ∧ w.heap.size ≤ b ∧ NCh w' g dv dr c ev rv b revs := by
  obtain ⟨Ar, cr, rfl, hcr, hmr, -⟩ := id hR
  have HR := Lib.hid hR
  have HN := Lib.hid hn
  clear hR hn
  unfold maxLen at hmr
  have hmm := @run_makeMap Tryz.prog
  go_enter Tryz.func13, Tryz.ntmps13
  go_wp2_with fail
  clear hmm
  have hst : NCh ((((((w.alloc (.cells #[.slice Ar revs.length cr, dr] 48)).alloc (.cells #[.int .i64 c.num, .string c.client, .string c.text, ev, rv] 57)).alloc (.map #[] 0)).alloc (.map #[] 0)).alloc (.map #[] 0)).alloc (.cells #[.slice Ar revs.length cr, dr, .int .i64 c.num, .string c.client, .string c.text, ev, rv, .map (some (w.heap.size + 1 + 1)), .map (some (w.heap.size + 1 + 1 + 1)), .map (some (w.heap.size + 1 + 1 + 1 + 1))] 104)) (w.heap.size + 1 + 1 + 1 + 1 + 1) (.slice Ar revs.length cr) dr c ev rv (w.heap.size + 1 + 1) [] := by
    refine ⟨?_, ?_, ?_, ?_⟩
    · have := blk_new (((((w.alloc (.cells #[.slice Ar revs.length cr, dr] 48)).alloc (.cells #[.int .i64 c.num, .string c.client, .string c.text, ev, rv] 57)).alloc (.map #[] 0)).alloc (.map #[] 0)).alloc (.map #[] 0)) [.slice Ar revs.length cr, dr, .int .i64 c.num, .string c.client, .string c.text, ev, rv, .map (some (w.heap.size + 1 + 1)), .map (some (w.heap.size + 1 + 1 + 1)), .map (some (w.heap.size + 1 + 1 + 1 + 1))] 104
      simp only [World.size_alloc] at this
      exact this
    · have := FMap.new Value.string Rev.val ((w.alloc (.cells #[.slice Ar revs.length cr, dr] 48)).alloc (.cells #[.int .i64 c.num, .string c.client, .string c.text, ev, rv] 57))
      simp only [World.size_alloc] at this
      exact FMap.alloc (FMap.alloc (FMap.alloc this _) _) _
    · have := FMap.new Value.string Edt.val (((w.alloc (.cells #[.slice Ar revs.length cr, dr] 48)).alloc (.cells #[.int .i64 c.num, .string c.client, .string c.text, ev, rv] 57)).alloc (.map #[] 0))
      simp only [World.size_alloc] at this
      exact FMap.alloc (FMap.alloc this _) _
    · have := FMap.new filV filV ((((w.alloc (.cells #[.slice Ar revs.length cr, dr] 48)).alloc (.cells #[.int .i64 c.num, .string c.client, .string c.text, ev, rv] 57)).alloc (.map #[] 0)).alloc (.map #[] 0))
      simp only [World.size_alloc] at this
      exact FMap.alloc this _
  have hbst : Below w.heap.size w ((((((w.alloc (.cells #[.slice Ar revs.length cr, dr] 48)).alloc (.cells #[.int .i64 c.num, .string c.client, .string c.text, ev, rv] 57)).alloc (.map #[] 0)).alloc (.map #[] 0)).alloc (.map #[] 0)).alloc (.cells #[.slice Ar revs.length cr, dr, .int .i64 c.num, .string c.client, .string c.text, ev, rv, .map (some (w.heap.size + 1 + 1)), .map (some (w.heap.size + 1 + 1 + 1)), .map (some (w.heap.size + 1 + 1 + 1 + 1))] 104)) :=
    ((((((Below.refl _ _).alloc (Nat.le_refl _) _).alloc (by simp) _).alloc (by simp; omega) _).alloc (by simp; omega) _).alloc (by simp; omega) _).alloc (by simp; omega) _
  generalize ((((((w.alloc (.cells #[.slice Ar revs.length cr, dr] 48)).alloc (.cells #[.int .i64 c.num, .string c.client, .string c.text, ev, rv] 57)).alloc (.map #[] 0)).alloc (.map #[] 0)).alloc (.map #[] 0)).alloc (.cells #[.slice Ar revs.length cr, dr, .int .i64 c.num, .string c.client, .string c.text, ev, rv, .map (some (w.heap.size + 1 + 1)), .map (some (w.heap.size + 1 + 1 + 1)), .map (some (w.heap.size + 1 + 1 + 1 + 1))] 104)) = W0 at hst hbst ⊢
  go_loopw [20] (fun i wr => ∃ k : Nat, k ≤ revs.length ∧ i = .int .i64 k ∧ Below w.heap.size w wr ∧ NCh wr (w.heap.size + 1 + 1 + 1 + 1 + 1) (.slice Ar revs.length cr) dr c ev rv (w.heap.size + 1 + 1) (revs.take k)) (fun i _ => revs.length - (intOf i).toNat)
  case atStart => exact ⟨0, Nat.zero_le _, rfl, hbst, hst⟩
  case round =>
    obtain ⟨k, hk, rfl, hbr, hch⟩ := hrel
    by_cases hlt : k < revs.length
    · obtain ⟨ad, rfl, hab, hld⟩ := Revs.at_ (HR.out.below hbr) hlt
      have HT := Lib.hid (show revs.take (k + 1) = revs.take k ++ [revs[k]] from List.take_succ_eq_append_getElem hlt)
      have hxn := HN.out revs[k] (List.getElem_mem _)
      generalize revs[k] = x at hld HT hxn
      obtain ⟨x0, x1, x2, x3, x4, x5, x6, x7, x8, x9, x10, x11⟩ := hld
      have hX1 := blk_new wr [.string x.path, .int .i64 x.num, .int .i64 x.chg, .int .i64 x.act, .int .i64 x.ty.base, .bool x.ty.k, .bool x.ty.l, .bool x.ty.x, .int .u64 x.sum, .int .i64 x.size, .string x.frm, .int .i64 x.fnum] 74
      have hb1 := hbr.alloc hbr.size (.cells #[.string x.path, .int .i64 x.num, .int .i64 x.chg, .int .i64 x.act, .int .i64 x.ty.base, .bool x.ty.k, .bool x.ty.l, .bool x.ty.x, .int .u64 x.sum, .int .i64 x.size, .string x.frm, .int .i64 x.fnum] 74)
      obtain ⟨hK0, hL0, hE0, hN0⟩ := hch
      have hK1 : Chk (wr.alloc (.cells #[.string x.path, .int .i64 x.num, .int .i64 x.chg, .int .i64 x.act, .int .i64 x.ty.base, .bool x.ty.k, .bool x.ty.l, .bool x.ty.x, .int .u64 x.sum, .int .i64 x.size, .string x.frm, .int .i64 x.fnum] 74)) (w.heap.size + 1 + 1 + 1 + 1 + 1) (.slice (some ad) revs.length cr) dr c.num c.client c.text ev rv (w.heap.size + 1 + 1) (w.heap.size + 1 + 1 + 1) (w.heap.size + 1 + 1 + 1 + 1) := Blk.alloc hK0 _
      have hL1 : LastMap (wr.alloc (.cells #[.string x.path, .int .i64 x.num, .int .i64 x.chg, .int .i64 x.act, .int .i64 x.ty.base, .bool x.ty.k, .bool x.ty.l, .bool x.ty.x, .int .u64 x.sum, .int .i64 x.size, .string x.frm, .int .i64 x.fnum] 74)) (w.heap.size + 1 + 1) (lastOf (revs.take k)) := FMap.alloc hL0 _
      have hE1 : EditMap (wr.alloc (.cells #[.string x.path, .int .i64 x.num, .int .i64 x.chg, .int .i64 x.act, .int .i64 x.ty.base, .bool x.ty.k, .bool x.ty.l, .bool x.ty.x, .int .u64 x.sum, .int .i64 x.size, .string x.frm, .int .i64 x.fnum] 74)) (w.heap.size + 1 + 1 + 1) (fun _ => none) := FMap.alloc hE0 _
      have hN1 : LineMap (wr.alloc (.cells #[.string x.path, .int .i64 x.num, .int .i64 x.chg, .int .i64 x.act, .int .i64 x.ty.base, .bool x.ty.k, .bool x.ty.l, .bool x.ty.x, .int .u64 x.sum, .int .i64 x.size, .string x.frm, .int .i64 x.fnum] 74)) (w.heap.size + 1 + 1 + 1 + 1) (linesOf (revs.take k)) := FMap.alloc hN0 _
      clear hK0 hL0 hE0 hN0 hst hbst
      go_upto_region 5 with fail
      generalize wr.alloc (.cells #[.string x.path, .int .i64 x.num, .int .i64 x.chg, .int .i64 x.act, .int .i64 x.ty.base, .bool x.ty.k, .bool x.ty.l, .bool x.ty.x, .int .u64 x.sum, .int .i64 x.size, .string x.frm, .int .i64 x.fnum] 74) = V1 at hX1 hb1 hK1 hL1 hE1 hN1 ⊢
      obtain ⟨r0, hr0⟩ : ∃ r, lastR (lastOf (revs.take k)) x.path = r := ⟨_, rfl⟩
      obtain ⟨bs, hbs⟩ : ∃ b, (lastOf (revs.take k) x.path).isSome = b := ⟨_, rfl⟩
      have hlk : ∀ w', Below V1.heap.size V1 w' → _ := fun w' hb => LastMap.look2 (w := w') (FMap.below hL1 hb) x.path
      rw [hr0, hbs] at hlk
      have HM : Hid (lastM (lastOf (revs.take k)) x = if bs = false ∨ r0.num < x.num then upd (lastOf (revs.take k)) x.path x else lastOf (revs.take k)) := Lib.hid (by
        rw [← hbs, ← hr0]
        unfold lastM lastR
        cases lastOf (revs.take k) x.path with
        | none => simp
        | some b => simp)
      clear hr0 hbs
      obtain ⟨-, -, -, -, -, k7, -, -⟩ := box10 hK1
      have c0 := hX1.cell 0
      have HC1 : Hid (∀ w', Below V1.heap.size V1 w' → w'.cell? ⟨w.heap.size + 1 + 1 + 1 + 1 + 1, 7, none⟩ = some (.map (some (w.heap.size + 1 + 1))) ∧ w'.cell? ⟨wr.heap.size, 0, none⟩ = some (.string x.path)) := Lib.hid fun w' hb => ⟨cell_below k7 hb (cell_lt k7), cell_below c0 hb (cell_lt c0)⟩
      clear k7 c0
      go_cut [8, 9] (fun s8 s9 wx => ∃ ge : Nat, s8 = .pointer (some ⟨ge, 0, none⟩) ∧ s9 = .bool bs ∧ Below V1.heap.size V1 wx ∧ Blk wx ge 74 [.string r0.path, .int .i64 r0.num, .int .i64 r0.chg, .int .i64 r0.act, .int .i64 r0.ty.base, .bool r0.ty.k, .bool r0.ty.l, .bool r0.ty.x, .int .u64 r0.sum, .int .i64 r0.size, .string r0.frm, .int .i64 r0.fnum])
      case first =>
        go_region_held3 (fun w' => Below V1.heap.size V1 w' ∧ w'.cell? ⟨w.heap.size + 1 + 1 + 1 + 1 + 1, 7, none⟩ = some (.map (some (w.heap.size + 1 + 1))) ∧ w'.cell? ⟨wr.heap.size, 0, none⟩ = some (.string x.path))
          ((refine and_of ?_ (HC1.out _); first | with_reducible exact (Below.refl _ _).drew | with_reducible assumption | with_reducible exact ((Below.refl _ _).alloc (Nat.le_refl _) _).drew)) (fail)
        all_goals
          have hq1 : Below V1.heap.size V1 (V1.alloc (.cells #[.string r0.path, .int .i64 r0.num, .int .i64 r0.chg, .int .i64 r0.act, .int .i64 r0.ty.base, .bool r0.ty.k, .bool r0.ty.l, .bool r0.ty.x, .int .u64 r0.sum, .int .i64 r0.size, .string r0.frm, .int .i64 r0.fnum] 74)).drew := ((Below.refl _ _).alloc (Nat.le_refl _) _).drew
          have hq2 : Blk (V1.alloc (.cells #[.string r0.path, .int .i64 r0.num, .int .i64 r0.chg, .int .i64 r0.act, .int .i64 r0.ty.base, .bool r0.ty.k, .bool r0.ty.l, .bool r0.ty.x, .int .u64 r0.sum, .int .i64 r0.size, .string r0.frm, .int .i64 r0.fnum] 74)).drew V1.heap.size 74 [.string r0.path, .int .i64 r0.num, .int .i64 r0.chg, .int .i64 r0.act, .int .i64 r0.ty.base, .bool r0.ty.k, .bool r0.ty.l, .bool r0.ty.x, .int .u64 r0.sum, .int .i64 r0.size, .string r0.frm, .int .i64 r0.fnum] := blk_new V1 _ _
          go_wp2_with fail
          go_meet
          exact ⟨_, rfl, rfl, hq1, hq2⟩
      case rest =>
        obtain ⟨ge, rfl, rfl, hb12, hO2⟩ := hcut
        generalize wc = W2 at hb12 hO2 ⊢
        have hX2 := hX1.below hb12 hX1.lt
        have hK2 : Chk W2 (w.heap.size + 1 + 1 + 1 + 1 + 1) (.slice (some ad) revs.length cr) dr c.num c.client c.text ev rv (w.heap.size + 1 + 1) (w.heap.size + 1 + 1 + 1) (w.heap.size + 1 + 1 + 1 + 1) := Blk.below hK1 hb12 (Blk.lt hK1)
        have hL2 : LastMap W2 (w.heap.size + 1 + 1) (lastOf (revs.take k)) := FMap.below hL1 hb12
        have hE2 : EditMap W2 (w.heap.size + 1 + 1 + 1) (fun _ => none) := FMap.below hE1 hb12
        have hN2 : LineMap W2 (w.heap.size + 1 + 1 + 1 + 1) (linesOf (revs.take k)) := FMap.below hN1 hb12
        have hb2 := below_next hb1 hb12
        clear hlk HC1 hX1 hK1 hL1 hE1 hN1 hb12 x0 x1 x2 x3 x4 x5 x6 x7 x8 x9 x10 x11
        have d1 := hO2.cell 1
        have d1' : W2.cell? ⟨ge, 1, none⟩ = some (.int .i64 r0.num) := d1
        clear d1
        cases bs
        · have HM2 : Hid (lastM (lastOf (revs.take k)) x = upd (lastOf (revs.take k)) x.path x) := Lib.hid (by rw [HM.out, if_pos (.inl rfl)])
          obtain ⟨w3, hup, hL3', hg3, hs3⟩ := FMap.update (w := W2.drew) hL2 keyOk_str Tryz.underlying100 x.path x
          have hup' : (Instr.mapUpdate 100 (.map (some (w.heap.size + 1 + 1))) (.string x.path) (.agg #[.string x.path, .int .i64 x.num, .int .i64 x.chg, .int .i64 x.act, .int .i64 x.ty.base, .bool x.ty.k, .bool x.ty.l, .bool x.ty.x, .int .u64 x.sum, .int .i64 x.size, .string x.frm, .int .i64 x.fnum])).run Tryz.prog W2.drew = .ok () w3 := hup
          have hX3 := Blk.turn (w := W2.drew) hX2 (FMap.obj hL2) hg3
          have hK3 : Chk w3 (w.heap.size + 1 + 1 + 1 + 1 + 1) (.slice (some ad) revs.length cr) dr c.num c.client c.text ev rv (w.heap.size + 1 + 1) (w.heap.size + 1 + 1 + 1) (w.heap.size + 1 + 1 + 1 + 1) := Blk.turn (w := W2.drew) hK2 (FMap.obj hL2) hg3
          have hE3 : EditMap w3 (w.heap.size + 1 + 1 + 1) (fun _ => none) := FMap.grown (w := W2.drew) hE2 hg3 (by intro e; injection e with e; omega)
          have hN3 : LineMap w3 (w.heap.size + 1 + 1 + 1 + 1) (linesOf (revs.take k)) := FMap.grown (w := W2.drew) hN2 hg3 (by intro e; injection e with e; omega)
          have hb3 : Below w.heap.size w w3 := Below.grown (w := W2.drew) hb2.drew hg3 hb2.drew.size (fun j e => by injection e with e; omega)
          have hL3 : LastMap w3 (w.heap.size + 1 + 1) (lastM (lastOf (revs.take k)) x) := by rw [HM2.out]; exact hL3'
          obtain ⟨-, -, -, -, -, k7, -, -⟩ := box10 hK2
          obtain ⟨c0, c1, c2, c3, c4, c5, c6, c7, c8, c9, c10, c11⟩ := box12 hX2
          clear hup
          go_wp2_with fail
          go_still_tail 7, (by kernel_rfl)
          change wpList _ _ _ _ _ W2.drew
          clear c0 c1 c2 c3 c4 c5 c6 c7 c8 c9 c10 c11 k7
          go_upto_region 8 with fail
          clear hup' hL3' hg3 hs3 hX2 hK2 hL2 hE2 hN2 hb2 hO2
          generalize w3 = W3 at hX3 hK3 hE3 hN3 hb3 hL3 ⊢
          by_cases h5 : x.act = 5
          · have q5 : (x.act != 5) = false := by rw [bne_dec]; simp [h5]
            have HLN : Hid (lineM (linesOf (revs.take k)) x = linesOf (revs.take k)) := Lib.hid (by unfold lineM; rw [if_pos h5])
            clear h5
            obtain ⟨c0, c1, c2, c3, c4, c5, c6, c7, c8, c9, c10, c11⟩ := box12 hX3
            go_wp2_with fail
            go_roundw
            case rel => exact ⟨k + 1, by omega, by go_num, hb3, hK3, by rw [HT.out, lastOf_snoc]; exact hL3, hE3, by rw [HT.out, linesOf_snoc, HLN.out]; exact hN3⟩
            case measure => simp [intOf]; omega
          · have q5 : (x.act != 5) = true := by rw [bne_dec]; simp [h5]
            obtain ⟨t, ht⟩ : ∃ t, lineV (linesOf (revs.take k)) x = t := ⟨_, rfl⟩
            have HLN : Hid (lineM (linesOf (revs.take k)) x = upd (linesOf (revs.take k)) (x.path, x.num) t) := Lib.hid (by unfold lineM; rw [if_neg h5, ht])
            have HLO := Lib.hid (fun W' (h : Below (World.heap W3).size W3 W') => lineOf_is t (linesOf (revs.take k)) x ht (w.heap.size + 1 + 1 + 1 + 1 + 1) (.slice (some ad) revs.length cr) dr ev rv c.num c.client c.text (w.heap.size + 1 + 1) (w.heap.size + 1 + 1 + 1) (w.heap.size + 1 + 1 + 1 + 1) W' (Blk.below hK3 h (Blk.lt hK3)) (FMap.below hN3 h) hxn.1 hxn.2)
            clear h5 ht
            obtain ⟨-, -, -, -, -, -, -, k9⟩ := box10 hK3
            have HC : Hid (∀ w', Below (World.heap W3).size W3 w' → w'.cell? ⟨w.heap.size + 1 + 1 + 1 + 1 + 1, 9, none⟩ = some (.map (some (w.heap.size + 1 + 1 + 1 + 1))) ∧ w'.cell? ⟨wr.heap.size, 0, none⟩ = some (.string x.path) ∧ w'.cell? ⟨wr.heap.size, 1, none⟩ = some (.int .i64 x.num) ∧ w'.cell? ⟨wr.heap.size, 2, none⟩ = some (.int .i64 x.chg) ∧ w'.cell? ⟨wr.heap.size, 3, none⟩ = some (.int .i64 x.act) ∧ w'.cell? ⟨wr.heap.size, 4, none⟩ = some (.int .i64 x.ty.base) ∧ w'.cell? ⟨wr.heap.size, 5, none⟩ = some (.bool x.ty.k) ∧ w'.cell? ⟨wr.heap.size, 6, none⟩ = some (.bool x.ty.l) ∧ w'.cell? ⟨wr.heap.size, 7, none⟩ = some (.bool x.ty.x) ∧ w'.cell? ⟨wr.heap.size, 8, none⟩ = some (.int .u64 x.sum) ∧ w'.cell? ⟨wr.heap.size, 9, none⟩ = some (.int .i64 x.size) ∧ w'.cell? ⟨wr.heap.size, 10, none⟩ = some (.string x.frm) ∧ w'.cell? ⟨wr.heap.size, 11, none⟩ = some (.int .i64 x.fnum)) := Lib.hid fun w' hb => ⟨cell_below k9 hb (cell_lt k9), (Blk.below hX3 hb (Blk.lt hX3)).cell 0, (Blk.below hX3 hb (Blk.lt hX3)).cell 1, (Blk.below hX3 hb (Blk.lt hX3)).cell 2, (Blk.below hX3 hb (Blk.lt hX3)).cell 3, (Blk.below hX3 hb (Blk.lt hX3)).cell 4, (Blk.below hX3 hb (Blk.lt hX3)).cell 5, (Blk.below hX3 hb (Blk.lt hX3)).cell 6, (Blk.below hX3 hb (Blk.lt hX3)).cell 7, (Blk.below hX3 hb (Blk.lt hX3)).cell 8, (Blk.below hX3 hb (Blk.lt hX3)).cell 9, (Blk.below hX3 hb (Blk.lt hX3)).cell 10, (Blk.below hX3 hb (Blk.lt hX3)).cell 11⟩
            obtain ⟨c0, c1, c2, c3, c4, c5, c6, c7, c8, c9, c10, c11⟩ := box12 hX3
            go_upto_region 9 with fail
            clear k9 c0 c1 c2 c3 c4 c5 c6 c7 c8 c9 c10 c11
            go_region_held3 (fun w' => w'.cell? ⟨w.heap.size + 1 + 1 + 1 + 1 + 1, 9, none⟩ = some (.map (some (w.heap.size + 1 + 1 + 1 + 1))) ∧ w'.cell? ⟨wr.heap.size, 0, none⟩ = some (.string x.path) ∧ w'.cell? ⟨wr.heap.size, 1, none⟩ = some (.int .i64 x.num) ∧ w'.cell? ⟨wr.heap.size, 2, none⟩ = some (.int .i64 x.chg) ∧ w'.cell? ⟨wr.heap.size, 3, none⟩ = some (.int .i64 x.act) ∧ w'.cell? ⟨wr.heap.size, 4, none⟩ = some (.int .i64 x.ty.base) ∧ w'.cell? ⟨wr.heap.size, 5, none⟩ = some (.bool x.ty.k) ∧ w'.cell? ⟨wr.heap.size, 6, none⟩ = some (.bool x.ty.l) ∧ w'.cell? ⟨wr.heap.size, 7, none⟩ = some (.bool x.ty.x) ∧ w'.cell? ⟨wr.heap.size, 8, none⟩ = some (.int .u64 x.sum) ∧ w'.cell? ⟨wr.heap.size, 9, none⟩ = some (.int .i64 x.size) ∧ w'.cell? ⟨wr.heap.size, 10, none⟩ = some (.string x.frm) ∧ w'.cell? ⟨wr.heap.size, 11, none⟩ = some (.int .i64 x.fnum))
              (first | exact HC.out _ (Below.refl _ _).drew | exact HC.out _ hS5 | exact keep9 (Blk.turn (w := w5) (Blk.below hK3 hS5 (Blk.lt hK3)) (FMap.obj (FMap.below hN3 hS5)) hg6) (Blk.turn (w := w5) (Blk.below hX3 hS5 (Blk.lt hX3)) (FMap.obj (FMap.below hN3 hS5)) hg6))
              ((go_at_call 31; refine (HLO.out _ (Below.refl _ _).drew).mono ?_; rintro e' w5 ⟨rfl, hb5⟩; have hS5 : Below (World.heap W3).size W3 w5 := (Below.refl _ _).drew.trans hb5; obtain ⟨w6, hup, hN6, hg6, hs6⟩ := FMap.update (w := w5) (FMap.below hN3 hS5) keyOk_fil Tryz.underlying102 (x.path, x.num) t; have hup' : (Instr.mapUpdate 102 (.map (some (w.heap.size + 1 + 1 + 1 + 1))) (.agg #[.string x.path, .int .i64 x.num]) (.agg #[.string t.1, .int .i64 t.2])).run Tryz.prog w5 = .ok () w6 := hup; clear hup))
            all_goals
              have hK6 : Chk w6 (w.heap.size + 1 + 1 + 1 + 1 + 1) (.slice (some ad) revs.length cr) dr c.num c.client c.text ev rv (w.heap.size + 1 + 1) (w.heap.size + 1 + 1 + 1) (w.heap.size + 1 + 1 + 1 + 1) := Blk.turn (w := w5) (Blk.below hK3 hS5 (Blk.lt hK3)) (FMap.obj (FMap.below hN3 hS5)) hg6
              have hL6 : LastMap w6 (w.heap.size + 1 + 1) (lastM (lastOf (revs.take k)) x) := FMap.grown (w := w5) (FMap.below hL3 hS5) hg6 (by intro e; injection e with e; omega)
              have hE6 : EditMap w6 (w.heap.size + 1 + 1 + 1) (fun _ => none) := FMap.grown (w := w5) (FMap.below hE3 hS5) hg6 (by intro e; injection e with e; omega)
              have hb5w := below_next hb3 hS5
              have hb6 : Below w.heap.size w w6 := hb5w.grown hg6 hb5w.size (fun j e => by injection e with e; omega)
              clear hup'
              go_wp2_with fail
              go_roundw
              case rel => exact ⟨k + 1, by omega, by go_num, hb6, hK6, by rw [HT.out, lastOf_snoc]; exact hL6, hE6, by rw [HT.out, linesOf_snoc, HLN.out]; exact hN6⟩
              case measure => simp [intOf]; omega
        · by_cases hn : r0.num < x.num
          · have HM2 : Hid (lastM (lastOf (revs.take k)) x = upd (lastOf (revs.take k)) x.path x) := Lib.hid (by rw [HM.out, if_pos (.inr hn)])
            obtain ⟨w3, hup, hL3', hg3, hs3⟩ := FMap.update (w := W2.drew) hL2 keyOk_str Tryz.underlying100 x.path x
            have hup' : (Instr.mapUpdate 100 (.map (some (w.heap.size + 1 + 1))) (.string x.path) (.agg #[.string x.path, .int .i64 x.num, .int .i64 x.chg, .int .i64 x.act, .int .i64 x.ty.base, .bool x.ty.k, .bool x.ty.l, .bool x.ty.x, .int .u64 x.sum, .int .i64 x.size, .string x.frm, .int .i64 x.fnum])).run Tryz.prog W2.drew = .ok () w3 := hup
            have hX3 := Blk.turn (w := W2.drew) hX2 (FMap.obj hL2) hg3
            have hK3 : Chk w3 (w.heap.size + 1 + 1 + 1 + 1 + 1) (.slice (some ad) revs.length cr) dr c.num c.client c.text ev rv (w.heap.size + 1 + 1) (w.heap.size + 1 + 1 + 1) (w.heap.size + 1 + 1 + 1 + 1) := Blk.turn (w := W2.drew) hK2 (FMap.obj hL2) hg3
            have hE3 : EditMap w3 (w.heap.size + 1 + 1 + 1) (fun _ => none) := FMap.grown (w := W2.drew) hE2 hg3 (by intro e; injection e with e; omega)
            have hN3 : LineMap w3 (w.heap.size + 1 + 1 + 1 + 1) (linesOf (revs.take k)) := FMap.grown (w := W2.drew) hN2 hg3 (by intro e; injection e with e; omega)
            have hb3 : Below w.heap.size w w3 := Below.grown (w := W2.drew) hb2.drew hg3 hb2.drew.size (fun j e => by injection e with e; omega)
            have hL3 : LastMap w3 (w.heap.size + 1 + 1) (lastM (lastOf (revs.take k)) x) := by rw [HM2.out]; exact hL3'
            obtain ⟨-, -, -, -, -, k7, -, -⟩ := box10 hK2
            obtain ⟨c0, c1, c2, c3, c4, c5, c6, c7, c8, c9, c10, c11⟩ := box12 hX2
            clear hup
            go_wp2_with fail
            go_still_tail 7, (by kernel_rfl)
            change wpList _ _ _ _ _ W2.drew
            clear c0 c1 c2 c3 c4 c5 c6 c7 c8 c9 c10 c11 k7
            go_upto_region 8 with fail
            clear hup' hL3' hg3 hs3 hX2 hK2 hL2 hE2 hN2 hb2 hO2
            generalize w3 = W3 at hX3 hK3 hE3 hN3 hb3 hL3 ⊢
            by_cases h5 : x.act = 5
            · have q5 : (x.act != 5) = false := by rw [bne_dec]; simp [h5]
              have HLN : Hid (lineM (linesOf (revs.take k)) x = linesOf (revs.take k)) := Lib.hid (by unfold lineM; rw [if_pos h5])
              clear h5
              obtain ⟨c0, c1, c2, c3, c4, c5, c6, c7, c8, c9, c10, c11⟩ := box12 hX3
              go_wp2_with fail
              go_roundw
              case rel => exact ⟨k + 1, by omega, by go_num, hb3, hK3, by rw [HT.out, lastOf_snoc]; exact hL3, hE3, by rw [HT.out, linesOf_snoc, HLN.out]; exact hN3⟩
              case measure => simp [intOf]; omega
            · have q5 : (x.act != 5) = true := by rw [bne_dec]; simp [h5]
              obtain ⟨t, ht⟩ : ∃ t, lineV (linesOf (revs.take k)) x = t := ⟨_, rfl⟩
              have HLN : Hid (lineM (linesOf (revs.take k)) x = upd (linesOf (revs.take k)) (x.path, x.num) t) := Lib.hid (by unfold lineM; rw [if_neg h5, ht])
              have HLO := Lib.hid (fun W' (h : Below (World.heap W3).size W3 W') => lineOf_is t (linesOf (revs.take k)) x ht (w.heap.size + 1 + 1 + 1 + 1 + 1) (.slice (some ad) revs.length cr) dr ev rv c.num c.client c.text (w.heap.size + 1 + 1) (w.heap.size + 1 + 1 + 1) (w.heap.size + 1 + 1 + 1 + 1) W' (Blk.below hK3 h (Blk.lt hK3)) (FMap.below hN3 h) hxn.1 hxn.2)
              clear h5 ht
              obtain ⟨-, -, -, -, -, -, -, k9⟩ := box10 hK3
              have HC : Hid (∀ w', Below (World.heap W3).size W3 w' → w'.cell? ⟨w.heap.size + 1 + 1 + 1 + 1 + 1, 9, none⟩ = some (.map (some (w.heap.size + 1 + 1 + 1 + 1))) ∧ w'.cell? ⟨wr.heap.size, 0, none⟩ = some (.string x.path) ∧ w'.cell? ⟨wr.heap.size, 1, none⟩ = some (.int .i64 x.num) ∧ w'.cell? ⟨wr.heap.size, 2, none⟩ = some (.int .i64 x.chg) ∧ w'.cell? ⟨wr.heap.size, 3, none⟩ = some (.int .i64 x.act) ∧ w'.cell? ⟨wr.heap.size, 4, none⟩ = some (.int .i64 x.ty.base) ∧ w'.cell? ⟨wr.heap.size, 5, none⟩ = some (.bool x.ty.k) ∧ w'.cell? ⟨wr.heap.size, 6, none⟩ = some (.bool x.ty.l) ∧ w'.cell? ⟨wr.heap.size, 7, none⟩ = some (.bool x.ty.x) ∧ w'.cell? ⟨wr.heap.size, 8, none⟩ = some (.int .u64 x.sum) ∧ w'.cell? ⟨wr.heap.size, 9, none⟩ = some (.int .i64 x.size) ∧ w'.cell? ⟨wr.heap.size, 10, none⟩ = some (.string x.frm) ∧ w'.cell? ⟨wr.heap.size, 11, none⟩ = some (.int .i64 x.fnum)) := Lib.hid fun w' hb => ⟨cell_below k9 hb (cell_lt k9), (Blk.below hX3 hb (Blk.lt hX3)).cell 0, (Blk.below hX3 hb (Blk.lt hX3)).cell 1, (Blk.below hX3 hb (Blk.lt hX3)).cell 2, (Blk.below hX3 hb (Blk.lt hX3)).cell 3, (Blk.below hX3 hb (Blk.lt hX3)).cell 4, (Blk.below hX3 hb (Blk.lt hX3)).cell 5, (Blk.below hX3 hb (Blk.lt hX3)).cell 6, (Blk.below hX3 hb (Blk.lt hX3)).cell 7, (Blk.below hX3 hb (Blk.lt hX3)).cell 8, (Blk.below hX3 hb (Blk.lt hX3)).cell 9, (Blk.below hX3 hb (Blk.lt hX3)).cell 10, (Blk.below hX3 hb (Blk.lt hX3)).cell 11⟩
              obtain ⟨c0, c1, c2, c3, c4, c5, c6, c7, c8, c9, c10, c11⟩ := box12 hX3
              go_upto_region 9 with fail
              clear k9 c0 c1 c2 c3 c4 c5 c6 c7 c8 c9 c10 c11
              go_region_held3 (fun w' => w'.cell? ⟨w.heap.size + 1 + 1 + 1 + 1 + 1, 9, none⟩ = some (.map (some (w.heap.size + 1 + 1 + 1 + 1))) ∧ w'.cell? ⟨wr.heap.size, 0, none⟩ = some (.string x.path) ∧ w'.cell? ⟨wr.heap.size, 1, none⟩ = some (.int .i64 x.num) ∧ w'.cell? ⟨wr.heap.size, 2, none⟩ = some (.int .i64 x.chg) ∧ w'.cell? ⟨wr.heap.size, 3, none⟩ = some (.int .i64 x.act) ∧ w'.cell? ⟨wr.heap.size, 4, none⟩ = some (.int .i64 x.ty.base) ∧ w'.cell? ⟨wr.heap.size, 5, none⟩ = some (.bool x.ty.k) ∧ w'.cell? ⟨wr.heap.size, 6, none⟩ = some (.bool x.ty.l) ∧ w'.cell? ⟨wr.heap.size, 7, none⟩ = some (.bool x.ty.x) ∧ w'.cell? ⟨wr.heap.size, 8, none⟩ = some (.int .u64 x.sum) ∧ w'.cell? ⟨wr.heap.size, 9, none⟩ = some (.int .i64 x.size) ∧ w'.cell? ⟨wr.heap.size, 10, none⟩ = some (.string x.frm) ∧ w'.cell? ⟨wr.heap.size, 11, none⟩ = some (.int .i64 x.fnum))
                (first | exact HC.out _ (Below.refl _ _).drew | exact HC.out _ hS5 | exact keep9 (Blk.turn (w := w5) (Blk.below hK3 hS5 (Blk.lt hK3)) (FMap.obj (FMap.below hN3 hS5)) hg6) (Blk.turn (w := w5) (Blk.below hX3 hS5 (Blk.lt hX3)) (FMap.obj (FMap.below hN3 hS5)) hg6))
                ((go_at_call 31; refine (HLO.out _ (Below.refl _ _).drew).mono ?_; rintro e' w5 ⟨rfl, hb5⟩; have hS5 : Below (World.heap W3).size W3 w5 := (Below.refl _ _).drew.trans hb5; obtain ⟨w6, hup, hN6, hg6, hs6⟩ := FMap.update (w := w5) (FMap.below hN3 hS5) keyOk_fil Tryz.underlying102 (x.path, x.num) t; have hup' : (Instr.mapUpdate 102 (.map (some (w.heap.size + 1 + 1 + 1 + 1))) (.agg #[.string x.path, .int .i64 x.num]) (.agg #[.string t.1, .int .i64 t.2])).run Tryz.prog w5 = .ok () w6 := hup; clear hup))
              all_goals
                have hK6 : Chk w6 (w.heap.size + 1 + 1 + 1 + 1 + 1) (.slice (some ad) revs.length cr) dr c.num c.client c.text ev rv (w.heap.size + 1 + 1) (w.heap.size + 1 + 1 + 1) (w.heap.size + 1 + 1 + 1 + 1) := Blk.turn (w := w5) (Blk.below hK3 hS5 (Blk.lt hK3)) (FMap.obj (FMap.below hN3 hS5)) hg6
                have hL6 : LastMap w6 (w.heap.size + 1 + 1) (lastM (lastOf (revs.take k)) x) := FMap.grown (w := w5) (FMap.below hL3 hS5) hg6 (by intro e; injection e with e; omega)
                have hE6 : EditMap w6 (w.heap.size + 1 + 1 + 1) (fun _ => none) := FMap.grown (w := w5) (FMap.below hE3 hS5) hg6 (by intro e; injection e with e; omega)
                have hb5w := below_next hb3 hS5
                have hb6 : Below w.heap.size w w6 := hb5w.grown hg6 hb5w.size (fun j e => by injection e with e; omega)
                clear hup'
                go_wp2_with fail
                go_roundw
                case rel => exact ⟨k + 1, by omega, by go_num, hb6, hK6, by rw [HT.out, lastOf_snoc]; exact hL6, hE6, by rw [HT.out, linesOf_snoc, HLN.out]; exact hN6⟩
                case measure => simp [intOf]; omega
          · have HM2 : Hid (lastM (lastOf (revs.take k)) x = lastOf (revs.take k)) := Lib.hid (by rw [HM.out, if_neg (by simp; omega)])
            have hL2' : LastMap W2 (w.heap.size + 1 + 1) (lastM (lastOf (revs.take k)) x) := by rw [HM2.out]; exact hL2
            obtain ⟨c0, c1, c2, c3, c4, c5, c6, c7, c8, c9, c10, c11⟩ := box12 hX2
            go_upto_region 8 with fail
            clear c0 c1 c2 c3 c4 c5 c6 c7 c8 c9 c10 c11
            by_cases h5 : x.act = 5
            · have q5 : (x.act != 5) = false := by rw [bne_dec]; simp [h5]
              have HLN : Hid (lineM (linesOf (revs.take k)) x = linesOf (revs.take k)) := Lib.hid (by unfold lineM; rw [if_pos h5])
              clear h5
              obtain ⟨c0, c1, c2, c3, c4, c5, c6, c7, c8, c9, c10, c11⟩ := box12 hX2
              go_wp2_with fail
              go_roundw
              case rel => exact ⟨k + 1, by omega, by go_num, hb2, hK2, by rw [HT.out, lastOf_snoc]; exact hL2', hE2, by rw [HT.out, linesOf_snoc, HLN.out]; exact hN2⟩
              case measure => simp [intOf]; omega
            · have q5 : (x.act != 5) = true := by rw [bne_dec]; simp [h5]
              obtain ⟨t, ht⟩ : ∃ t, lineV (linesOf (revs.take k)) x = t := ⟨_, rfl⟩
              have HLN : Hid (lineM (linesOf (revs.take k)) x = upd (linesOf (revs.take k)) (x.path, x.num) t) := Lib.hid (by unfold lineM; rw [if_neg h5, ht])
              have HLO := Lib.hid (fun W' (h : Below (World.heap W2).size W2 W') => lineOf_is t (linesOf (revs.take k)) x ht (w.heap.size + 1 + 1 + 1 + 1 + 1) (.slice (some ad) revs.length cr) dr ev rv c.num c.client c.text (w.heap.size + 1 + 1) (w.heap.size + 1 + 1 + 1) (w.heap.size + 1 + 1 + 1 + 1) W' (Blk.below hK2 h (Blk.lt hK2)) (FMap.below hN2 h) hxn.1 hxn.2)
              clear h5 ht
              obtain ⟨-, -, -, -, -, -, -, k9⟩ := box10 hK2
              have HC : Hid (∀ w', Below (World.heap W2).size W2 w' → w'.cell? ⟨w.heap.size + 1 + 1 + 1 + 1 + 1, 9, none⟩ = some (.map (some (w.heap.size + 1 + 1 + 1 + 1))) ∧ w'.cell? ⟨wr.heap.size, 0, none⟩ = some (.string x.path) ∧ w'.cell? ⟨wr.heap.size, 1, none⟩ = some (.int .i64 x.num) ∧ w'.cell? ⟨wr.heap.size, 2, none⟩ = some (.int .i64 x.chg) ∧ w'.cell? ⟨wr.heap.size, 3, none⟩ = some (.int .i64 x.act) ∧ w'.cell? ⟨wr.heap.size, 4, none⟩ = some (.int .i64 x.ty.base) ∧ w'.cell? ⟨wr.heap.size, 5, none⟩ = some (.bool x.ty.k) ∧ w'.cell? ⟨wr.heap.size, 6, none⟩ = some (.bool x.ty.l) ∧ w'.cell? ⟨wr.heap.size, 7, none⟩ = some (.bool x.ty.x) ∧ w'.cell? ⟨wr.heap.size, 8, none⟩ = some (.int .u64 x.sum) ∧ w'.cell? ⟨wr.heap.size, 9, none⟩ = some (.int .i64 x.size) ∧ w'.cell? ⟨wr.heap.size, 10, none⟩ = some (.string x.frm) ∧ w'.cell? ⟨wr.heap.size, 11, none⟩ = some (.int .i64 x.fnum)) := Lib.hid fun w' hb => ⟨cell_below k9 hb (cell_lt k9), (Blk.below hX2 hb (Blk.lt hX2)).cell 0, (Blk.below hX2 hb (Blk.lt hX2)).cell 1, (Blk.below hX2 hb (Blk.lt hX2)).cell 2, (Blk.below hX2 hb (Blk.lt hX2)).cell 3, (Blk.below hX2 hb (Blk.lt hX2)).cell 4, (Blk.below hX2 hb (Blk.lt hX2)).cell 5, (Blk.below hX2 hb (Blk.lt hX2)).cell 6, (Blk.below hX2 hb (Blk.lt hX2)).cell 7, (Blk.below hX2 hb (Blk.lt hX2)).cell 8, (Blk.below hX2 hb (Blk.lt hX2)).cell 9, (Blk.below hX2 hb (Blk.lt hX2)).cell 10, (Blk.below hX2 hb (Blk.lt hX2)).cell 11⟩
              obtain ⟨c0, c1, c2, c3, c4, c5, c6, c7, c8, c9, c10, c11⟩ := box12 hX2
              go_upto_region 9 with fail
              clear k9 c0 c1 c2 c3 c4 c5 c6 c7 c8 c9 c10 c11
              go_region_held3 (fun w' => w'.cell? ⟨w.heap.size + 1 + 1 + 1 + 1 + 1, 9, none⟩ = some (.map (some (w.heap.size + 1 + 1 + 1 + 1))) ∧ w'.cell? ⟨wr.heap.size, 0, none⟩ = some (.string x.path) ∧ w'.cell? ⟨wr.heap.size, 1, none⟩ = some (.int .i64 x.num) ∧ w'.cell? ⟨wr.heap.size, 2, none⟩ = some (.int .i64 x.chg) ∧ w'.cell? ⟨wr.heap.size, 3, none⟩ = some (.int .i64 x.act) ∧ w'.cell? ⟨wr.heap.size, 4, none⟩ = some (.int .i64 x.ty.base) ∧ w'.cell? ⟨wr.heap.size, 5, none⟩ = some (.bool x.ty.k) ∧ w'.cell? ⟨wr.heap.size, 6, none⟩ = some (.bool x.ty.l) ∧ w'.cell? ⟨wr.heap.size, 7, none⟩ = some (.bool x.ty.x) ∧ w'.cell? ⟨wr.heap.size, 8, none⟩ = some (.int .u64 x.sum) ∧ w'.cell? ⟨wr.heap.size, 9, none⟩ = some (.int .i64 x.size) ∧ w'.cell? ⟨wr.heap.size, 10, none⟩ = some (.string x.frm) ∧ w'.cell? ⟨wr.heap.size, 11, none⟩ = some (.int .i64 x.fnum))
                (first | exact HC.out _ (Below.refl _ _).drew | exact HC.out _ hS5 | exact keep9 (Blk.turn (w := w5) (Blk.below hK2 hS5 (Blk.lt hK2)) (FMap.obj (FMap.below hN2 hS5)) hg6) (Blk.turn (w := w5) (Blk.below hX2 hS5 (Blk.lt hX2)) (FMap.obj (FMap.below hN2 hS5)) hg6))
                ((go_at_call 31; refine (HLO.out _ (Below.refl _ _).drew).mono ?_; rintro e' w5 ⟨rfl, hb5⟩; have hS5 : Below (World.heap W2).size W2 w5 := (Below.refl _ _).drew.trans hb5; obtain ⟨w6, hup, hN6, hg6, hs6⟩ := FMap.update (w := w5) (FMap.below hN2 hS5) keyOk_fil Tryz.underlying102 (x.path, x.num) t; have hup' : (Instr.mapUpdate 102 (.map (some (w.heap.size + 1 + 1 + 1 + 1))) (.agg #[.string x.path, .int .i64 x.num]) (.agg #[.string t.1, .int .i64 t.2])).run Tryz.prog w5 = .ok () w6 := hup; clear hup))
              all_goals
                have hK6 : Chk w6 (w.heap.size + 1 + 1 + 1 + 1 + 1) (.slice (some ad) revs.length cr) dr c.num c.client c.text ev rv (w.heap.size + 1 + 1) (w.heap.size + 1 + 1 + 1) (w.heap.size + 1 + 1 + 1 + 1) := Blk.turn (w := w5) (Blk.below hK2 hS5 (Blk.lt hK2)) (FMap.obj (FMap.below hN2 hS5)) hg6
                have hL6 : LastMap w6 (w.heap.size + 1 + 1) (lastM (lastOf (revs.take k)) x) := FMap.grown (w := w5) (FMap.below hL2' hS5) hg6 (by intro e; injection e with e; omega)
                have hE6 : EditMap w6 (w.heap.size + 1 + 1 + 1) (fun _ => none) := FMap.grown (w := w5) (FMap.below hE2 hS5) hg6 (by intro e; injection e with e; omega)
                have hb5w := below_next hb2 hS5
                have hb6 : Below w.heap.size w w6 := hb5w.grown hg6 hb5w.size (fun j e => by injection e with e; omega)
                clear hup'
                go_wp2_with fail
                go_roundw
                case rel => exact ⟨k + 1, by omega, by go_num, hb6, hK6, by rw [HT.out, lastOf_snoc]; exact hL6, hE6, by rw [HT.out, linesOf_snoc, HLN.out]; exact hN6⟩
                case measure => simp [intOf]; omega
    · rw [List.take_of_length_le (by omega)] at hch
      go_wp2_with fail
      go_ret
      exact ⟨_, _, rfl, hbr, by omega, hch⟩
end Go.Proofs.YteolonjmgojoeaaGreatDoor
