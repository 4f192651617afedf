/- everyEdit. -/
import Derived.Test.YteolonjmgojoeaaGreatDoorMzOneM
namespace Go.Proofs.YteolonjmgojoeaaGreatDoor
open Go.RowKit
set_option linter.unusedVariables false
set_option linter.unusedSimpArgs false

theorem oneEdit_any (f : ByteArray → Option Rev) (x : Edt) (g : Nat) (dv dr ev rv : Value) (n : Int) (cl tx : ByteArray) (bl be bn : Nat) (w : World) (hk : Chk w g dv dr n cl tx ev rv bl be bn) (hL : LastMap w bl f) :
    Calls Tryz.prog 57 #[.pointer (some ⟨g, 0, none⟩), .agg #[.string x.path, .int .i64 x.act, .int .i64 x.ty.base, .bool x.ty.k, .bool x.ty.l, .bool x.ty.x, .int .u64 x.sum, .int .i64 x.size, .int .i64 x.base, .string x.frm, .int .i64 x.fnum, .int .i64 x.fence]] w
      fun e w' => e = .returned (.int .i64 (oneE f x)) ∧ Below w.heap.size w w' := by
  by_cases hA : actE f x = 0
  · by_cases h4 : x.act = 4
    · exact oneEdit_move f x g dv dr ev rv n cl tx bl be bn w hk hL hA h4
    · exact oneEdit_plain f x g dv dr ev rv n cl tx bl be bn w hk hL hA h4
  · have : oneE f x = 113 := by
      unfold oneE
      rw [if_pos hA]
      unfold actE at hA ⊢
      split at hA <;> (try split at hA) <;> simp_all
    rw [this]
    exact oneEdit_no f x g dv dr ev rv n cl tx bl be bn w hk hL hA

theorem grown_of_below {w w' : World} (h : Below w.heap.size w w') (row : Option Nat) : w.grownBy w' row := ⟨h.os, h.tape, h.output, h.size, fun k hk _ => h.block k hk⟩
theorem cell_map_none {w : World} {B : Nat} {es : Array MapEntry} {c : Nat} (h : w.heap[B]? = some (.map es c)) (a : Addr) (ha : a.block = B) : ¬ ∃ v, w.cell? a = some v := by
  rintro ⟨v, hv⟩
  subst ha
  unfold World.cell? at hv
  rw [h] at hv
  simp at hv
theorem FMap.obj {κ α : Type} [BEq κ] {kv : κ → Value} {enc : α → Value} {w : World} {B : Nat} {f : κ → Option α} (h : FMap kv enc w B f) : ∃ es c, w.heap[B]? = some (.map es c) := by
  obtain ⟨m, ⟨es, c, h, _⟩, _⟩ := h; exact ⟨es, c, h⟩
theorem Row.turn {w w' : World} {size n B : Nat} {v : Value} {xs : List Value} (h : Row w size v n xs) (hs : 0 < size) (hm : ∃ es c, w.heap[B]? = some (.map es c)) (hg : w.grownBy w' (some B)) : Row w' size v n xs := by
  obtain ⟨A, c, rfl, hc, hm', hl, h0, hx⟩ := h
  refine ⟨A, c, rfl, hc, hm', hl, h0, fun hn => ?_⟩
  obtain ⟨ad, e, hb, hcell⟩ := hx hn
  obtain ⟨es, c2, hB⟩ := hm
  have hne : some ad.block ≠ some B := by
    intro e2
    injection e2 with e2
    have hpos : 0 < xs.length := by rw [hl]; exact Nat.mul_pos hn hs
    exact cell_map_none hB (ad.add 0) (by rw [add_block]; exact e2) ⟨xs[0], hcell 0 _ (by simp [hpos])⟩
  refine ⟨ad, e, by have := hg.size; omega, fun j u hu => ?_⟩
  exact hg.cell (hcell j u hu) (by rw [add_block]; exact hne)
theorem Blk.turn {w w' : World} {g B : Nat} {e : TypeId} {cs : List Value} (h : Blk w g e cs) (hm : ∃ es c, w.heap[B]? = some (.map es c)) (hg : w.grownBy w' (some B)) : Blk w' g e cs := by
  refine Blk.grown h hg ?_
  intro e2
  injection e2 with e2
  subst e2
  obtain ⟨es, c, hB⟩ := hm
  unfold Blk at h
  rw [hB] at h
  cases h
theorem editsOf_snoc (es : List Edt) (x : Edt) : editsOf (es ++ [x]) = upd (editsOf es) x.path x := by unfold editsOf; rw [List.foldl_append]; rfl
theorem everyE_step {last : ByteArray → Option Rev} {b : ByteArray} {e : Edt} {es : List Edt} (h : editE last b e = 0) : everyE last b (e :: es) = everyE last e.path es := by
  rw [everyE, h]; simp
theorem everyE_stop {last : ByteArray → Option Rev} {b : ByteArray} {e : Edt} {es : List Edt} {v : Int} (h : editE last b e = v) (hv : v ≠ 0) : everyE last b (e :: es) = v := by
  rw [everyE, h, if_pos hv]
theorem valid_is (p : ByteArray) (b : Bool) (h : validS p = b) (w : World) (hp : p.size ≤ 140737488355328) : Calls Tryz.prog 56 #[.string p] w fun e w' => e = .returned (.bool b) ∧ w = w' := by
  rw [← h]; exact valid_any p w hp

/-- What everyEdit leaves. -/
def EvRel (w : World) (be : Nat) (es : List Edt) (r : Int) (w' : World) : Prop := w.grownBy w' (some be) ∧ (r = 0 → EditMap w' be (editsOf es))

set_option maxRecDepth 100000 in
set_option maxHeartbeats 8000000 in
theorem everyEdit_any (f : ByteArray → Option Rev) (es : List Edt) (g : Nat) (dv dr ev rv : Value) (n : Int) (cl tx : ByteArray) (bl be bn : Nat) (w : World) (hk : Chk w g dv dr n cl tx ev rv bl be bn) (hL : LastMap w bl f) (hne : bl ≠ be) (hE : Edts w ev es) (hM : EditMap w be fun _ => none)
    (hl : es.length ≤ 1000000) (hsz : ∀ x ∈ es, x.path.size ≤ 140737488355328) :
    Calls Tryz.prog 33 #[.pointer (some ⟨g, 0, none⟩)] w fun e w' => e = .returned (.int .i64 (everyE f emptyS es)) ∧ EvRel w be es (everyE f emptyS es) w' := by
  obtain ⟨Ae, ce, rfl, hce, hme, -⟩ := id hE
  obtain ⟨-, -, -, k5, -, -, -, -⟩ := box10 hk
  have hobj := FMap.obj hM
  have HE := Lib.hid hE
  have HK := Lib.hid hk
  have HL := Lib.hid hL
  have HS := Lib.hid hsz
  have HM := Lib.hid hM
  clear hE hk hL hsz hM
  unfold maxLen at hme
  go_enter Tryz.func33, Tryz.ntmps33
  go_wp2_with fail
  go_loopw [3, 13] (fun b i wr => ∃ (k : Nat) (b0 : ByteArray), k ≤ es.length ∧ i = .int .i64 k ∧ b = .string b0 ∧ b0.size ≤ 200 ∧ Hid (everyE f emptyS es = everyE f b0 (es.drop k)) ∧ w.grownBy wr (some be) ∧ EditMap wr be (editsOf (es.take k))) (fun _ i _ => es.length - (intOf i).toNat)
  case atStart => exact ⟨0, emptyS, Nat.zero_le _, rfl, rfl, by decide, Lib.hid rfl, World.grownBy.refl _ _, HM.out⟩
  case round =>
    obtain ⟨k, b0, hk, rfl, rfl, hb0, HV, hg, hM⟩ := hrel
    have hKr := Blk.turn HK.out hobj hg
    have hLr := FMap.grown HL.out hg (by intro e; injection e with e; exact hne e)
    have hEr := Row.turn HE.out (by decide) hobj hg
    by_cases hlt : k < es.length
    · obtain ⟨ad, rfl, hab, hld⟩ := Edts.at_ hEr hlt
      have hxs := HS.out es[k] (List.getElem_mem _)
      have HT := Lib.hid (show es.take (k + 1) = es.take k ++ [es[k]] from List.take_succ_eq_append_getElem hlt)
      rw [List.drop_eq_getElem_cons hlt] at HV
      generalize es[k] = x at hld hxs HT HV
      obtain ⟨x0, x1, x2, x3, x4, x5, x6, x7, x8, x9, x10, x11⟩ := hld
      have hbx := (Below.refl wr.heap.size wr).alloc (Nat.le_refl _) (.cells #[.string x.path, .int .i64 x.act, .int .i64 x.ty.base, .bool x.ty.k, .bool x.ty.l, .bool x.ty.x, .int .u64 x.sum, .int .i64 x.size, .int .i64 x.base, .string x.frm, .int .i64 x.fnum, .int .i64 x.fence] 54)
      have hgx := hg.trans (grown_of_below hbx _)
      cases hv : validS x.path
      · have HO : Hid (everyE f emptyS es = 111) := Lib.hid (by rw [HV.out]; refine everyE_stop ?_ (by decide); unfold editE; rw [if_pos (.inl hv)])
        have HVA := Lib.hid (fun W => valid_is x.path false hv W hxs)
        clear hv HV
        go_wp2_with fail
        refine (HVA.out _).mono ?_
        rintro e w1 ⟨rfl, rfl⟩
        go_wp2_with fail
        go_ret
        exact ⟨ret_int HO.out.symm, hgx, fun h => absurd (HO.out.symm.trans h) (by decide)⟩
      · have HVA := Lib.hid (fun W => valid_is x.path true hv W hxs)
        by_cases h200 : 200 < x.path.size
        · have HO : Hid (everyE f emptyS es = 111) := Lib.hid (by rw [HV.out]; refine everyE_stop ?_ (by decide); unfold editE; rw [if_pos (.inr h200)])
          clear hv HV
          go_wp2_with fail
          refine (HVA.out _).mono ?_
          rintro e w1 ⟨rfl, rfl⟩
          go_wp2_with fail
          go_ret
          exact ⟨ret_int HO.out.symm, hgx, fun h => absurd (HO.out.symm.trans h) (by decide)⟩
        · have HE1 : Hid (editE f b0 x = if b0 ≠ emptyS ∧ 0 ≤ cmpP b0 x.path then 112 else oneE f x) := Lib.hid (by unfold editE; rw [if_neg (by simp [hv]; omega)])
          clear hv
          have hX := blk_new wr [.string x.path, .int .i64 x.act, .int .i64 x.ty.base, .bool x.ty.k, .bool x.ty.l, .bool x.ty.x, .int .u64 x.sum, .int .i64 x.size, .int .i64 x.base, .string x.frm, .int .i64 x.fnum, .int .i64 x.fence] 54
          have hKx := Blk.alloc hKr (.cells #[.string x.path, .int .i64 x.act, .int .i64 x.ty.base, .bool x.ty.k, .bool x.ty.l, .bool x.ty.x, .int .u64 x.sum, .int .i64 x.size, .int .i64 x.base, .string x.frm, .int .i64 x.fnum, .int .i64 x.fence] 54)
          have hLx := FMap.alloc hLr (.cells #[.string x.path, .int .i64 x.act, .int .i64 x.ty.base, .bool x.ty.k, .bool x.ty.l, .bool x.ty.x, .int .u64 x.sum, .int .i64 x.size, .int .i64 x.base, .string x.frm, .int .i64 x.fnum, .int .i64 x.fence] 54)
          have hMx := FMap.alloc hM (.cells #[.string x.path, .int .i64 x.act, .int .i64 x.ty.base, .bool x.ty.k, .bool x.ty.l, .bool x.ty.x, .int .u64 x.sum, .int .i64 x.size, .int .i64 x.base, .string x.frm, .int .i64 x.fnum, .int .i64 x.fence] 54)
          by_cases hbe : b0 = emptyS
          · have s1 := str_empty hbe
            have HNB : Hid (¬ (b0 ≠ emptyS ∧ 0 ≤ cmpP b0 x.path)) := Lib.hid (fun h => h.1 hbe)
            clear hbe
            go_wp2_with fail
            refine (HVA.out _).mono ?_
            rintro e w1 ⟨rfl, rfl⟩
            have HE2 : Hid (editE f b0 x = oneE f x) := Lib.hid (by rw [HE1.out, if_neg HNB.out])
            clear HNB HE1
            obtain ⟨v, hv⟩ : ∃ v, oneE f x = v := ⟨_, rfl⟩
            have HON := Lib.hid (show Calls Tryz.prog 57 #[.pointer (some ⟨g, 0, none⟩), .agg #[.string x.path, .int .i64 x.act, .int .i64 x.ty.base, .bool x.ty.k, .bool x.ty.l, .bool x.ty.x, .int .u64 x.sum, .int .i64 x.size, .int .i64 x.base, .string x.frm, .int .i64 x.fnum, .int .i64 x.fence]] (wr.alloc (.cells #[.string x.path, .int .i64 x.act, .int .i64 x.ty.base, .bool x.ty.k, .bool x.ty.l, .bool x.ty.x, .int .u64 x.sum, .int .i64 x.size, .int .i64 x.base, .string x.frm, .int .i64 x.fnum, .int .i64 x.fence] 54)) fun e w' => e = .returned (.int .i64 v) ∧ Below (World.heap (wr.alloc (.cells #[.string x.path, .int .i64 x.act, .int .i64 x.ty.base, .bool x.ty.k, .bool x.ty.l, .bool x.ty.x, .int .u64 x.sum, .int .i64 x.size, .int .i64 x.base, .string x.frm, .int .i64 x.fnum, .int .i64 x.fence] 54))).size (wr.alloc (.cells #[.string x.path, .int .i64 x.act, .int .i64 x.ty.base, .bool x.ty.k, .bool x.ty.l, .bool x.ty.x, .int .u64 x.sum, .int .i64 x.size, .int .i64 x.base, .string x.frm, .int .i64 x.fnum, .int .i64 x.fence] 54)) w' by rw [← hv]; exact oneEdit_any f x g _ dr _ rv n cl tx bl be bn _ hKx hLx)
            rw [hv] at HE2
            clear hv
            go_wp2_with fail
            refine HON.out.mono ?_
            rintro e w2 ⟨rfl, hb2⟩
            have hX2 := Blk.below hX hb2 (Blk.lt hX)
            have hg2 := hgx.trans (grown_of_below hb2 _)
            have hK2 := Blk.below hKx hb2 (Blk.lt hKx)
            have hM2 := FMap.below hMx hb2
            by_cases h0 : v = 0
            · subst h0
              have HST := Lib.hid (HV.out.trans (everyE_step HE2.out))
              have q : ((0 : Int) != 0) = false := rfl
              obtain ⟨w3, hup, hM3, hg3, hs3⟩ := FMap.update (w := w2.drew) hM2 keyOk_str Tryz.underlying101 x.path x
              have hup' : (Instr.mapUpdate 101 (.map (some be)) (.string x.path) (.agg #[.string x.path, .int .i64 x.act, .int .i64 x.ty.base, .bool x.ty.k, .bool x.ty.l, .bool x.ty.x, .int .u64 x.sum, .int .i64 x.size, .int .i64 x.base, .string x.frm, .int .i64 x.fnum, .int .i64 x.fence])).run Tryz.prog w2.drew = .ok () w3 := hup
              have hX3 := Blk.grown (w := w2.drew) hX2 hg3 (by intro e; injection e with e; subst e; obtain ⟨_, _, ho⟩ := FMap.obj hM2; unfold Blk at hX2; rw [ho] at hX2; cases hX2)
              have hgw3 : w.grownBy w3 (some be) := (hg2.trans (grown_of_below (Below.refl _ _).drew _)).trans hg3
              obtain ⟨-, -, -, -, -, -, k8, -⟩ := box10 hK2
              obtain ⟨c0, c1, c2, c3, c4, c5, c6, c7, c8, c9, c10, c11⟩ := box12 hX2
              clear hup
              go_wp2_with fail
              go_still_tail 7, (by kernel_rfl)
              change wpList _ _ _ _ _ w2.drew
              clear c0 c1 c2 c3 c4 c5 c6 c7 c8 c9 c10 c11
              obtain ⟨c0, c1, c2, c3, c4, c5, c6, c7, c8, c9, c10, c11⟩ := box12 hX3
              go_wp2_with fail
              go_roundw
              case rel => exact ⟨k + 1, x.path, by omega, by go_num, rfl, by omega, Lib.hid HST.out, hgw3, by rw [HT.out, editsOf_snoc]; exact hM3⟩
              case measure => simp [intOf]; omega
            · have q : (v != 0) = true := by simpa using h0
              have HO : Hid (everyE f emptyS es = v) := Lib.hid (HV.out.trans (everyE_stop HE2.out h0))
              have HN := Lib.hid h0
              clear h0
              go_wp2_with fail
              go_ret
              exact ⟨ret_int HO.out.symm, hg2, fun h => absurd (HO.out.symm.trans h) HN.out⟩
          · have s1 := str_ne hbe
            have s2 := str_isE hbe
            have HBE := Lib.hid hbe
            clear hbe
            have HCP := Lib.hid (comparePaths_any b0 x.path (wr.alloc (.cells #[.string x.path, .int .i64 x.act, .int .i64 x.ty.base, .bool x.ty.k, .bool x.ty.l, .bool x.ty.x, .int .u64 x.sum, .int .i64 x.size, .int .i64 x.base, .string x.frm, .int .i64 x.fnum, .int .i64 x.fence] 54)) (by omega) hxs)
            go_wp2_with fail
            refine (HVA.out _).mono ?_
            rintro e w1 ⟨rfl, rfl⟩
            go_wp2_with fail
            refine HCP.out.mono ?_
            rintro e w1 ⟨rfl, hq1⟩
            have hb1 := hq1.below (World.heap (wr.alloc (.cells #[.string x.path, .int .i64 x.act, .int .i64 x.ty.base, .bool x.ty.k, .bool x.ty.l, .bool x.ty.x, .int .u64 x.sum, .int .i64 x.size, .int .i64 x.base, .string x.frm, .int .i64 x.fnum, .int .i64 x.fence] 54))).size
            clear hq1
            have hX1 := hX.below hb1 hX.lt
            have hK1 := Blk.below hKx hb1 (Blk.lt hKx)
            have hL1 := FMap.below hLx hb1
            have hM1 := FMap.below hMx hb1
            have hg1 := hgx.trans (grown_of_below hb1 _)
            obtain ⟨c0, c1, c2, c3, c4, c5, c6, c7, c8, c9, c10, c11⟩ := box12 hX1
            clear hb1
            by_cases hcp : 0 ≤ cmpP b0 x.path
            · have HO : Hid (everyE f emptyS es = 112) := Lib.hid (by rw [HV.out]; exact everyE_stop (HE1.out.trans (if_pos ⟨HBE.out, hcp⟩)) (by decide))
              go_wp2_with fail
              go_ret
              exact ⟨ret_int HO.out.symm, hg1, fun h => absurd (HO.out.symm.trans h) (by decide)⟩
            · have HNB : Hid (¬ (b0 ≠ emptyS ∧ 0 ≤ cmpP b0 x.path)) := Lib.hid (fun h => hcp h.2)
              have HE2 : Hid (editE f b0 x = oneE f x) := Lib.hid (by rw [HE1.out, if_neg HNB.out])
              clear HNB HE1
              obtain ⟨v, hv⟩ : ∃ v, oneE f x = v := ⟨_, rfl⟩
              have HON := Lib.hid (show Calls Tryz.prog 57 #[.pointer (some ⟨g, 0, none⟩), .agg #[.string x.path, .int .i64 x.act, .int .i64 x.ty.base, .bool x.ty.k, .bool x.ty.l, .bool x.ty.x, .int .u64 x.sum, .int .i64 x.size, .int .i64 x.base, .string x.frm, .int .i64 x.fnum, .int .i64 x.fence]] w1 fun e w' => e = .returned (.int .i64 v) ∧ Below (World.heap w1).size w1 w' by rw [← hv]; exact oneEdit_any f x g _ dr _ rv n cl tx bl be bn _ hK1 hL1)
              rw [hv] at HE2
              clear hv
              go_wp2_with fail
              refine HON.out.mono ?_
              rintro e w2 ⟨rfl, hb2⟩
              have hX2 := Blk.below hX1 hb2 (Blk.lt hX1)
              have hg2 := hg1.trans (grown_of_below hb2 _)
              have hK2 := Blk.below hK1 hb2 (Blk.lt hK1)
              have hM2 := FMap.below hM1 hb2
              by_cases h0 : v = 0
              · subst h0
                have HST := Lib.hid (HV.out.trans (everyE_step HE2.out))
                have q : ((0 : Int) != 0) = false := rfl
                obtain ⟨w3, hup, hM3, hg3, hs3⟩ := FMap.update (w := w2.drew) hM2 keyOk_str Tryz.underlying101 x.path x
                have hup' : (Instr.mapUpdate 101 (.map (some be)) (.string x.path) (.agg #[.string x.path, .int .i64 x.act, .int .i64 x.ty.base, .bool x.ty.k, .bool x.ty.l, .bool x.ty.x, .int .u64 x.sum, .int .i64 x.size, .int .i64 x.base, .string x.frm, .int .i64 x.fnum, .int .i64 x.fence])).run Tryz.prog w2.drew = .ok () w3 := hup
                have hX3 := Blk.grown (w := w2.drew) hX2 hg3 (by intro e; injection e with e; subst e; obtain ⟨_, _, ho⟩ := FMap.obj hM2; unfold Blk at hX2; rw [ho] at hX2; cases hX2)
                have hgw3 : w.grownBy w3 (some be) := (hg2.trans (grown_of_below (Below.refl _ _).drew _)).trans hg3
                obtain ⟨-, -, -, -, -, -, k8, -⟩ := box10 hK2
                obtain ⟨c0, c1, c2, c3, c4, c5, c6, c7, c8, c9, c10, c11⟩ := box12 hX2
                clear hup
                go_wp2_with fail
                go_still_tail 7, (by kernel_rfl)
                change wpList _ _ _ _ _ w2.drew
                clear c0 c1 c2 c3 c4 c5 c6 c7 c8 c9 c10 c11
                obtain ⟨c0, c1, c2, c3, c4, c5, c6, c7, c8, c9, c10, c11⟩ := box12 hX3
                go_wp2_with fail
                go_roundw
                case rel => exact ⟨k + 1, x.path, by omega, by go_num, rfl, by omega, Lib.hid HST.out, hgw3, by rw [HT.out, editsOf_snoc]; exact hM3⟩
                case measure => simp [intOf]; omega
              · have q : (v != 0) = true := by simpa using h0
                have HO : Hid (everyE f emptyS es = v) := Lib.hid (HV.out.trans (everyE_stop HE2.out h0))
                have HN := Lib.hid h0
                clear h0
                go_wp2_with fail
                go_ret
                exact ⟨ret_int HO.out.symm, hg2, fun h => absurd (HO.out.symm.trans h) HN.out⟩
    · go_wp2_with fail
      have H0 : Hid (everyE f emptyS es = 0) := Lib.hid (by rw [HV.out, List.drop_of_length_le (by omega)]; rfl)
      go_ret
      exact ⟨ret_int H0.out.symm, hg, fun _ => by rwa [List.take_of_length_le (by omega)] at hM⟩
end Go.Proofs.YteolonjmgojoeaaGreatDoor
