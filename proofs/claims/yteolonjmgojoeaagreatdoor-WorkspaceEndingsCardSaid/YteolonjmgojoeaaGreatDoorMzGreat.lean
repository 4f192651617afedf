/- greatest, Get, At, Last. -/
import Derived.Test.YteolonjmgojoeaaGreatDoorMzMoves
import Derived.Laws.EntriesVeiled
namespace Go.Proofs.YteolonjmgojoeaaGreatDoor
open Go.RowKit
set_option linter.unusedVariables false
set_option linter.unusedSimpArgs false

def gStep (q : ByteArray) (p : Rev → Bool) (o : Option Rev) (r : Rev) : Option Rev :=
  if r.path = q ∧ p r = true then (match o with
    | none => some r
    | some b => if b.num < r.num then some r else some b) else o
theorem greatest_eq (revs : List Rev) (q : ByteArray) (p : Rev → Bool) : greatest revs q p = revs.foldl (gStep q p) none := rfl
def someR (o : Option Rev) : Rev := o.getD zeroRev

theorem far12 {w : World} {g g' : Nat} {e : TypeId} {cs : List Value} (h : Blk w g' e cs) (hg : g ≠ g') (r : Rev) : Blk ((((((((((((w.setCell ⟨g, 0, none⟩ (.string r.path)).setCell ⟨g, 1, none⟩ (.int .i64 r.num)).setCell ⟨g, 2, none⟩ (.int .i64 r.chg)).setCell ⟨g, 3, none⟩ (.int .i64 r.act)).setCell ⟨g, 4, none⟩ (.int .i64 r.ty.base)).setCell ⟨g, 5, none⟩ (.bool r.ty.k)).setCell ⟨g, 6, none⟩ (.bool r.ty.l)).setCell ⟨g, 7, none⟩ (.bool r.ty.x)).setCell ⟨g, 8, none⟩ (.int .u64 r.sum)).setCell ⟨g, 9, none⟩ (.int .i64 r.size)).setCell ⟨g, 10, none⟩ (.string r.frm)).setCell ⟨g, 11, none⟩ (.int .i64 r.fnum)) g' e cs :=
  ((((((((((((h.far (p := ⟨g, 0, none⟩) hg _).far (p := ⟨g, 1, none⟩) hg _).far (p := ⟨g, 2, none⟩) hg _).far (p := ⟨g, 3, none⟩) hg _).far (p := ⟨g, 4, none⟩) hg _).far (p := ⟨g, 5, none⟩) hg _).far (p := ⟨g, 6, none⟩) hg _).far (p := ⟨g, 7, none⟩) hg _).far (p := ⟨g, 8, none⟩) hg _).far (p := ⟨g, 9, none⟩) hg _).far (p := ⟨g, 10, none⟩) hg _).far (p := ⟨g, 11, none⟩) hg _)

set_option maxRecDepth 100000 in
set_option maxHeartbeats 1000000 in
theorem get_fn (m : Int) (B : Nat) (r : Rev) (w : World) (hB : w.cell? ⟨B, 0, none⟩ = some (.int .i64 m)) : Calls Tryz.prog 74 #[.agg #[.string r.path, .int .i64 r.num, .int .i64 r.chg, .int .i64 r.act, .int .i64 r.ty.base, .bool r.ty.k, .bool r.ty.l, .bool r.ty.x, .int .u64 r.sum, .int .i64 r.size, .string r.frm, .int .i64 r.fnum], .pointer (some ⟨B, 0, none⟩)] w fun e w' => e = .returned (.bool ((fun v : Rev => decide (v.num = m)) r)) ∧ Below w.heap.size w w' := by
  have hBl := cell_lt hB
  go_enter Tryz.func74, Tryz.ntmps74
  go_wp2_with fail
  go_ret
  exact ⟨ret_bool (beq_dec _ _), (Below.refl _ _).alloc (Nat.le_refl _) _⟩

set_option maxRecDepth 100000 in
set_option maxHeartbeats 8000000 in
theorem greatest_get (revs : List Rev) (q : ByteArray) (m : Int) (B : Nat) (dv dr : Value) (w : World) (hR : Revs w dv revs) (hB : w.cell? ⟨B, 0, none⟩ = some (.int .i64 m)) (hl : revs.length ≤ 1000000) :
    Calls Tryz.prog 73 #[.agg #[dv, dr], .string q, .func (.func 74) #[] #[.pointer (some ⟨B, 0, none⟩)]] w
      fun e w' => e = .returned (.tuple #[.agg #[.string (someR (greatest revs q (fun v : Rev => decide (v.num = m)))).path, .int .i64 (someR (greatest revs q (fun v : Rev => decide (v.num = m)))).num, .int .i64 (someR (greatest revs q (fun v : Rev => decide (v.num = m)))).chg, .int .i64 (someR (greatest revs q (fun v : Rev => decide (v.num = m)))).act, .int .i64 (someR (greatest revs q (fun v : Rev => decide (v.num = m)))).ty.base, .bool (someR (greatest revs q (fun v : Rev => decide (v.num = m)))).ty.k, .bool (someR (greatest revs q (fun v : Rev => decide (v.num = m)))).ty.l, .bool (someR (greatest revs q (fun v : Rev => decide (v.num = m)))).ty.x, .int .u64 (someR (greatest revs q (fun v : Rev => decide (v.num = m)))).sum, .int .i64 (someR (greatest revs q (fun v : Rev => decide (v.num = m)))).size, .string (someR (greatest revs q (fun v : Rev => decide (v.num = m)))).frm, .int .i64 (someR (greatest revs q (fun v : Rev => decide (v.num = m)))).fnum], .bool (greatest revs q (fun v : Rev => decide (v.num = m))).isSome]) ∧ Below w.heap.size w w' := by
  obtain ⟨Ar, cr, rfl, hcr, hmr, -⟩ := id hR
  have HR := Lib.hid hR
  clear hR
  unfold maxLen at hmr
  rw [greatest_eq]
  have HF := Lib.hid (fun (r : Rev) (W : World) (hb : Below w.heap.size w W) => get_fn m B r W (cell_below hB hb (cell_lt hB)))
  have hb0 : Below w.heap.size w (((w.alloc (.cells #[.slice Ar revs.length cr, dr] 48)).alloc (.cells #[.string ⟨#[]⟩, .int .i64 0, .int .i64 0, .int .i64 0, .int .i64 0, .bool false, .bool false, .bool false, .int .u64 0, .int .i64 0, .string ⟨#[]⟩, .int .i64 0] 74)).alloc (.cells #[.string ⟨#[]⟩, .int .i64 0, .int .i64 0, .int .i64 0, .int .i64 0, .bool false, .bool false, .bool false, .int .u64 0, .int .i64 0, .string ⟨#[]⟩, .int .i64 0] 74)) := (((Below.refl _ _).alloc (Nat.le_refl _) _).alloc (by simp) _).alloc (by simp; omega) _
  generalize (fun v : Rev => decide (v.num = m)) = p at HF ⊢
  go_enter Tryz.func73, Tryz.ntmps73
  go_wp2_with fail
  go_loopw [9, 15] (fun o i wr => ∃ (k : Nat), k ≤ revs.length ∧ i = .int .i64 k ∧ Below w.heap.size w wr ∧ o = .bool ((revs.take k).foldl (gStep q p) none).isSome ∧ Blk wr (w.heap.size + 1) 74 [.string ⟨#[]⟩, .int .i64 0, .int .i64 0, .int .i64 0, .int .i64 0, .bool false, .bool false, .bool false, .int .u64 0, .int .i64 0, .string ⟨#[]⟩, .int .i64 0] ∧ Blk wr (w.heap.size + 1 + 1) 74 [.string (someR ((revs.take k).foldl (gStep q p) none)).path, .int .i64 (someR ((revs.take k).foldl (gStep q p) none)).num, .int .i64 (someR ((revs.take k).foldl (gStep q p) none)).chg, .int .i64 (someR ((revs.take k).foldl (gStep q p) none)).act, .int .i64 (someR ((revs.take k).foldl (gStep q p) none)).ty.base, .bool (someR ((revs.take k).foldl (gStep q p) none)).ty.k, .bool (someR ((revs.take k).foldl (gStep q p) none)).ty.l, .bool (someR ((revs.take k).foldl (gStep q p) none)).ty.x, .int .u64 (someR ((revs.take k).foldl (gStep q p) none)).sum, .int .i64 (someR ((revs.take k).foldl (gStep q p) none)).size, .string (someR ((revs.take k).foldl (gStep q p) none)).frm, .int .i64 (someR ((revs.take k).foldl (gStep q p) none)).fnum]) (fun _ i _ => revs.length - (intOf i).toNat)
  case atStart =>
    refine ⟨0, Nat.zero_le _, rfl, hb0, rfl, ?_, ?_⟩
    · have := blk_new (w.alloc (.cells #[.slice Ar revs.length cr, dr] 48)) [.string ⟨#[]⟩, .int .i64 0, .int .i64 0, .int .i64 0, .int .i64 0, .bool false, .bool false, .bool false, .int .u64 0, .int .i64 0, .string ⟨#[]⟩, .int .i64 0] 74
      have := this.alloc (.cells #[.string ⟨#[]⟩, .int .i64 0, .int .i64 0, .int .i64 0, .int .i64 0, .bool false, .bool false, .bool false, .int .u64 0, .int .i64 0, .string ⟨#[]⟩, .int .i64 0] 74)
      simpa using this
    · have := blk_new ((w.alloc (.cells #[.slice Ar revs.length cr, dr] 48)).alloc (.cells #[.string ⟨#[]⟩, .int .i64 0, .int .i64 0, .int .i64 0, .int .i64 0, .bool false, .bool false, .bool false, .int .u64 0, .int .i64 0, .string ⟨#[]⟩, .int .i64 0] 74)) [.string ⟨#[]⟩, .int .i64 0, .int .i64 0, .int .i64 0, .int .i64 0, .bool false, .bool false, .bool false, .int .u64 0, .int .i64 0, .string ⟨#[]⟩, .int .i64 0] 74
      simp only [World.size_alloc] at this
      exact this
  case round =>
    obtain ⟨k, hk, rfl, hbr, rfl, hZ, hF⟩ := hrel
    by_cases hlt : k < revs.length
    · obtain ⟨ad, rfl, hab, hld⟩ := Revs.at_ (HR.out.below hbr) hlt
      have HT := Lib.hid (show revs.take (k + 1) = revs.take k ++ [revs[k]] from List.take_succ_eq_append_getElem hlt)
      have HG : Hid ((revs.take (k + 1)).foldl (gStep q p) none = gStep q p ((revs.take k).foldl (gStep q p) none) revs[k]) := Lib.hid (by rw [HT.out, List.foldl_append]; rfl)
      generalize revs[k] = r at hld HT HG
      generalize (revs.take k).foldl (gStep q p) none = o at hF HG
      obtain ⟨x0, x1, x2, x3, x4, x5, x6, x7, x8, x9, x10, x11⟩ := hld
      have hbx := hbr.alloc hbr.size (.cells #[.string r.path, .int .i64 r.num, .int .i64 r.chg, .int .i64 r.act, .int .i64 r.ty.base, .bool r.ty.k, .bool r.ty.l, .bool r.ty.x, .int .u64 r.sum, .int .i64 r.size, .string r.frm, .int .i64 r.fnum] 74)
      have hZx := hZ.alloc (.cells #[.string r.path, .int .i64 r.num, .int .i64 r.chg, .int .i64 r.act, .int .i64 r.ty.base, .bool r.ty.k, .bool r.ty.l, .bool r.ty.x, .int .u64 r.sum, .int .i64 r.size, .string r.frm, .int .i64 r.fnum] 74)
      have hFx := hF.alloc (.cells #[.string r.path, .int .i64 r.num, .int .i64 r.chg, .int .i64 r.act, .int .i64 r.ty.base, .bool r.ty.k, .bool r.ty.l, .bool r.ty.x, .int .u64 r.sum, .int .i64 r.size, .string r.frm, .int .i64 r.fnum] 74)
      have hX := blk_new wr [.string r.path, .int .i64 r.num, .int .i64 r.chg, .int .i64 r.act, .int .i64 r.ty.base, .bool r.ty.k, .bool r.ty.l, .bool r.ty.x, .int .u64 r.sum, .int .i64 r.size, .string r.frm, .int .i64 r.fnum] 74
      by_cases hp : r.path = q
      · have HC := Lib.hid (HF.out r (wr.alloc (.cells #[.string r.path, .int .i64 r.num, .int .i64 r.chg, .int .i64 r.act, .int .i64 r.ty.base, .bool r.ty.k, .bool r.ty.l, .bool r.ty.x, .int .u64 r.sum, .int .i64 r.size, .string r.frm, .int .i64 r.fnum] 74)) hbx)
        cases hpr : p r
        · rw [hpr] at HC
          have HS : Hid (gStep q p o r = o) := Lib.hid (by unfold gStep; rw [hpr]; simp)
          clear hpr
          subst hp
          go_wp2_with fail
          refine HC.out.mono ?_
          rintro e w2 ⟨rfl, hb2⟩
          go_wp2_with fail
          go_roundw
          case rel => exact ⟨k + 1, by omega, by go_num, below_next hbx hb2, by rw [HG.out, HS.out], hZx.below hb2 hZx.lt, by rw [HG.out, HS.out]; exact hFx.below hb2 hFx.lt⟩
          case measure => simp [intOf]; omega
        · rw [hpr] at HC
          have hnew : ∀ b : Bool, o.isSome = false ∨ (someR o).num < r.num → gStep q p o r = some r := by
            intro b h
            unfold gStep
            rw [if_pos ⟨hp, hpr⟩]
            cases o with
            | none => rfl
            | some x => rcases h with h | h
                        · cases h
                        · exact if_pos h
          have hold : o.isSome = true → ¬ (someR o).num < r.num → gStep q p o r = o := by
            intro h1 h2
            unfold gStep
            rw [if_pos ⟨hp, hpr⟩]
            cases o with
            | none => cases h1
            | some x => exact if_neg h2
          clear hpr
          subst hp
          by_cases hn : o.isSome = false ∨ (someR o).num < r.num
          · have HS := Lib.hid (hnew true hn)
            clear hnew hold
            cases hos : o.isSome
            · clear hn
              go_wp2_with fail
              refine HC.out.mono ?_
              rintro e w2 ⟨rfl, hb2⟩
              have hX2 := hX.below hb2 hX.lt
              have hF2 := hFx.below hb2 hFx.lt
              have hZ2 := hZx.below hb2 hZx.lt
              have hbw2 := below_next hbx hb2
              obtain ⟨c0, c1, c2, c3, c4, c5, c6, c7, c8, c9, c10, c11⟩ := box12 hX2
              obtain ⟨f0, f1, f2, f3, f4, f5, f6, f7, f8, f9, f10, f11⟩ := box12 hF2
              obtain ⟨y0, y1, y2, y3, y4, y5, y6, y7, y8, y9, y10, y11⟩ := frz12 hF2
              clear hb2
              have hF3 := set12 hF2 r
              have hB3 := below12 hbw2 (show w.heap.size ≤ w.heap.size + 1 + 1 by omega) r
              have hZ3 := far12 hZ2 (show w.heap.size + 1 + 1 ≠ w.heap.size + 1 by omega) r
              go_wp2_with fail
              go_roundw
              case rel => exact ⟨k + 1, by omega, by go_num, hB3, by rw [HG.out, HS.out]; rfl, hZ3, by rw [HG.out, HS.out]; exact hF3⟩
              case measure => simp [intOf]; omega
            · have hn2 : (someR o).num < r.num := by rcases hn with h | h; (rw [hos] at h; cases h); exact h
              clear hn
              go_wp2_with fail
              refine HC.out.mono ?_
              rintro e w2 ⟨rfl, hb2⟩
              have hX2 := hX.below hb2 hX.lt
              have hF2 := hFx.below hb2 hFx.lt
              have hZ2 := hZx.below hb2 hZx.lt
              have hbw2 := below_next hbx hb2
              obtain ⟨c0, c1, c2, c3, c4, c5, c6, c7, c8, c9, c10, c11⟩ := box12 hX2
              obtain ⟨f0, f1, f2, f3, f4, f5, f6, f7, f8, f9, f10, f11⟩ := box12 hF2
              obtain ⟨y0, y1, y2, y3, y4, y5, y6, y7, y8, y9, y10, y11⟩ := frz12 hF2
              clear hb2
              have hF3 := set12 hF2 r
              have hB3 := below12 hbw2 (show w.heap.size ≤ w.heap.size + 1 + 1 by omega) r
              have hZ3 := far12 hZ2 (show w.heap.size + 1 + 1 ≠ w.heap.size + 1 by omega) r
              go_wp2_with fail
              go_roundw
              case rel => exact ⟨k + 1, by omega, by go_num, hB3, by rw [HG.out, HS.out]; rfl, hZ3, by rw [HG.out, HS.out]; exact hF3⟩
              case measure => simp [intOf]; omega
          · rw [not_or] at hn
            have hos : o.isSome = true := by
              cases h : o.isSome
              · exact absurd h hn.1
              · rfl
            have hn2 : ¬ (someR o).num < r.num := hn.2
            have HS := Lib.hid (hold hos hn2)
            clear hnew hold hn
            go_wp2_with fail
            refine HC.out.mono ?_
            rintro e w2 ⟨rfl, hb2⟩
            have hX2 := hX.below hb2 hX.lt
            have hF2 := hFx.below hb2 hFx.lt
            have hZ2 := hZx.below hb2 hZx.lt
            have hbw2 := below_next hbx hb2
            obtain ⟨c0, c1, c2, c3, c4, c5, c6, c7, c8, c9, c10, c11⟩ := box12 hX2
            obtain ⟨f0, f1, f2, f3, f4, f5, f6, f7, f8, f9, f10, f11⟩ := box12 hF2
            clear hb2
            go_wp2_with fail
            go_roundw
            case rel => exact ⟨k + 1, by omega, by go_num, hbw2, by rw [HG.out, HS.out, hos], hZ2, by rw [HG.out, HS.out]; exact hF2⟩
            case measure => simp [intOf]; omega
      · have HS : Hid (gStep q p o r = o) := Lib.hid (by unfold gStep; rw [if_neg (fun h => hp h.1)])
        have sq := str_eqB r.path q
        rw [show decide (r.path = q) = false by simpa using hp] at sq
        clear hp
        go_wp2_with fail
        go_roundw
        case rel => exact ⟨k + 1, by omega, by go_num, hbx, by rw [HG.out, HS.out], hZx, by rw [HG.out, HS.out]; exact hFx⟩
        case measure => simp [intOf]; omega
    · rw [List.take_of_length_le (by omega)] at hF ⊢
      obtain ⟨o, ho⟩ : ∃ o, revs.foldl (gStep q p) none = o := ⟨_, rfl⟩
      rw [ho] at hF ⊢
      obtain ⟨r, hr⟩ : ∃ r, someR o = r := ⟨_, rfl⟩
      rw [hr] at hF
      have HO := Lib.hid ho
      have HR2 := Lib.hid hr
      clear ho hr
      obtain ⟨f0, f1, f2, f3, f4, f5, f6, f7, f8, f9, f10, f11⟩ := box12 hF
      obtain ⟨z0, z1, z2, z3, z4, z5, z6, z7, z8, z9, z10, z11⟩ := box12 hZ
      obtain ⟨y0, y1, y2, y3, y4, y5, y6, y7, y8, y9, y10, y11⟩ := frz12 hZ
      go_wp2_with fail
      have hZ3 := set12 hZ r
      have hB3 := below12 hbr (show w.heap.size ≤ w.heap.size + 1 by omega) r
      generalize ((((((((((((wr.setCell ⟨w.heap.size + 1, 0, none⟩ (.string r.path)).setCell ⟨w.heap.size + 1, 1, none⟩ (.int .i64 r.num)).setCell ⟨w.heap.size + 1, 2, none⟩ (.int .i64 r.chg)).setCell ⟨w.heap.size + 1, 3, none⟩ (.int .i64 r.act)).setCell ⟨w.heap.size + 1, 4, none⟩ (.int .i64 r.ty.base)).setCell ⟨w.heap.size + 1, 5, none⟩ (.bool r.ty.k)).setCell ⟨w.heap.size + 1, 6, none⟩ (.bool r.ty.l)).setCell ⟨w.heap.size + 1, 7, none⟩ (.bool r.ty.x)).setCell ⟨w.heap.size + 1, 8, none⟩ (.int .u64 r.sum)).setCell ⟨w.heap.size + 1, 9, none⟩ (.int .i64 r.size)).setCell ⟨w.heap.size + 1, 10, none⟩ (.string r.frm)).setCell ⟨w.heap.size + 1, 11, none⟩ (.int .i64 r.fnum)) = W3 at hZ3 hB3 ⊢
      obtain ⟨e0, e1, e2, e3, e4, e5, e6, e7, e8, e9, e10, e11⟩ := box12 hZ3
      exact bodyPost_ret (v := .tuple #[.agg #[.string r.path, .int .i64 r.num, .int .i64 r.chg, .int .i64 r.act, .int .i64 r.ty.base, .bool r.ty.k, .bool r.ty.l, .bool r.ty.x, .int .u64 r.sum, .int .i64 r.size, .string r.frm, .int .i64 r.fnum], .bool o.isSome]) (by simp [results, Tryz.results73, go_sem, e0, e1, e2, e3, e4, e5, e6, e7, e8, e9, e10, e11]) rfl ⟨by rw [HO.out, HR2.out], hB3⟩
end Go.Proofs.YteolonjmgojoeaaGreatDoor
