/- The reference's At; the statement's same: the walks. -/
import Derived.Test.YtnblfaagchflaaaGreatDoorMgw19
import Derived.Test.YtnblfaagchflaaaGreatDoorMgw20
import Derived.Test.YtnblfaagchflaaaGreatDoorMgw25
namespace Go.Proofs.YtnblfaagchflaaaGreatDoor
open Go.RowKit
set_option linter.unusedVariables false
set_option linter.unusedSimpArgs false

/-- What the reference's Log leaves, in memory of its own. -/
def RLogPostF (w : World) (revs : List Rev) (p : ByteArray) (e : Ending) (w' : World) : Prop := ∃ A c, e = .returned (.slice A (logOf revs p).length c) ∧ Below w.heap.size w w' ∧ Revs w' (.slice A (logOf revs p).length c) (logOf revs p) ∧ Fresh w.heap.size (.slice A (logOf revs p).length c)
set_option maxRecDepth 100000 in
set_option maxHeartbeats 4000000 in
theorem refLogF_any (revs : List Rev) (p : ByteArray) (dv dr : Value) (w : World) (hR : Revs w dv revs) (hl : revs.length ≤ 1000000) :
    Calls Tryz.prog 64 #[.agg #[dv, dr], .string p] w (RLogPostF w revs p) := by
  obtain ⟨Ar, cr, rfl, hcr, hmr, -⟩ := id hR
  have HR := Lib.hid hR
  clear hR
  unfold maxLen at hmr
  go_enter Tryz.func64, Tryz.ntmps64
  have hB := blk_new w [.slice Ar revs.length cr, dr] 31
  have hA : Below w.heap.size w (w.alloc (.cells #[.slice Ar revs.length cr, dr] 31)) := (Below.refl _ _).alloc (Nat.le_refl _) _
  go_upto_region 2 with fail
  generalize w.alloc (.cells #[.slice Ar revs.length cr, dr] 31) = W1 at hB hA ⊢
  obtain ⟨d0, -, -, -⟩ := box2 hB
  have HA := Lib.hid hA
  clear hA hB
  go_wp2_with fail
  clear d0
  go_loopw [5, 11] (fun u s wr => ∃ (k n : Nat) (A : Option Addr) (c : Nat), s = .int .i64 k ∧ u = .slice A n c ∧ k ≤ revs.length ∧ n ≤ k ∧ Hid (n = (logOf (revs.take k) p).length ∧ Below W1.heap.size W1 wr ∧ wr.ownsRow W1.heap.size 40 12 (.slice A n c) n ((logOf (revs.take k) p).flatMap Rev.cells))) (fun _ s _ => revs.length - (intOf s).toNat)
  case atStart => exact ⟨0, 0, none, 0, rfl, rfl, Nat.zero_le _, Nat.le_refl _, rfl, Below.refl _ _, World.ownsRow_nil _ _ _ _⟩
  case round =>
    obtain ⟨k, n, A, c, rfl, rfl, hk, hnk, HI⟩ := hrel
    by_cases hlt : k < revs.length
    · obtain ⟨ad, rfl, hab, hld⟩ := Revs.at_ (HR.out.below (below_next HA.out HI.out.2.1)) hlt
      have HT := Lib.hid (log_take revs p k hlt)
      generalize revs[k] = r at hld HT
      obtain ⟨x0, x1, x2, x3, x4, x5, x6, x7, x8, x9, x10, x11⟩ := hld
      have hX := blk_new wr [.string r.path, .int .i64 r.num, .int .i64 r.chg, .int .i64 r.act, .int .i64 r.ty.base, .bool r.ty.k, .bool r.ty.l, .bool r.ty.x, .int .u64 r.sum, .int .i64 r.size, .string r.frm, .int .i64 r.fnum] 40
      have hA1 : Below wr.heap.size wr (wr.alloc (.cells #[.string r.path, .int .i64 r.num, .int .i64 r.chg, .int .i64 r.act, .int .i64 r.ty.base, .bool r.ty.k, .bool r.ty.l, .bool r.ty.x, .int .u64 r.sum, .int .i64 r.size, .string r.frm, .int .i64 r.fnum] 40)) := (Below.refl _ _).alloc (Nat.le_refl _) _
      go_upto_region 5 with fail
      clear x0 x1 x2 x3 x4 x5 x6 x7 x8 x9 x10 x11
      generalize wr.alloc (.cells #[.string r.path, .int .i64 r.num, .int .i64 r.chg, .int .i64 r.act, .int .i64 r.ty.base, .bool r.ty.k, .bool r.ty.l, .bool r.ty.x, .int .u64 r.sum, .int .i64 r.size, .string r.frm, .int .i64 r.fnum] 40) = V1 at hX hA1 ⊢
      obtain ⟨y0, y1, y2, y3, y4, y5, y6, y7, y8, y9, y10, y11⟩ := box12 hX
      by_cases hp : r.path = p
      · have q := str_eqB r.path p
        rw [decide_eq_true hp] at q
        rw [if_pos hp] at HT
        have HN : Hid (n = (logOf (revs.take k) p).length ∧ Below W1.heap.size W1 V1 ∧ V1.ownsRow W1.heap.size 40 12 (.slice A n c) n ((logOf (revs.take k) p).flatMap Rev.cells)) := Lib.hid ⟨HI.out.1, below_next HI.out.2.1 hA1, own_below HI.out.2.2 hA1⟩
        clear hX hA1 hp
        go_wp2_with (at_builtin; refine wpList_push rfl rfl revElem ((own_below HN.out.2.2 ((Below.refl _ _).alloc (Nat.le_refl _) _))) rfl (row_new V1 [.string r.path, .int .i64 r.num, .int .i64 r.chg, .int .i64 r.act, .int .i64 r.ty.base, .bool r.ty.k, .bool r.ty.l, .bool r.ty.x, .int .u64 r.sum, .int .i64 r.size, .string r.frm, .int .i64 r.fnum] _ 12 1 rfl (by decide) _ rfl) rfl (HN.out.2.1.alloc HN.out.2.1.size _) (HN.out.2.1.alloc HN.out.2.1.size _).size (rev_oneC r) (by omega) (by unfold maxLen; omega) ?_; intro A' c' w2 hown2 hbl2)
        have HO2 := Lib.hid hown2
        have HB2 := Lib.hid hbl2
        clear y0 y1 y2 y3 y4 y5 y6 y7 y8 y9 y10 y11 hown2 hbl2
        go_wp2_with fail
        go_roundw
        case rel =>
          refine ⟨k + 1, n + 1, A', c', by go_num, rfl, by omega, by omega, ?_, HB2.out, ?_⟩
          · rw [HT.out, List.length_append, List.length_singleton, ← HN.out.1]
          · rw [HT.out, List.flatMap_append, List.flatMap_cons, List.flatMap_nil, List.append_nil]
            exact HO2.out
        case measure => simp [intOf]; omega
      · have q := str_eqB r.path p
        rw [decide_eq_false hp] at q
        rw [if_neg hp, List.append_nil] at HT
        have HN : Hid (n = (logOf (revs.take (k + 1)) p).length ∧ Below W1.heap.size W1 V1 ∧ V1.ownsRow W1.heap.size 40 12 (.slice A n c) n ((logOf (revs.take (k + 1)) p).flatMap Rev.cells)) := Lib.hid (by rw [HT.out]; exact ⟨HI.out.1, below_next HI.out.2.1 hA1, own_below HI.out.2.2 hA1⟩)
        clear hX hA1 hp HT
        go_wp2_with fail
        go_roundw
        case rel => exact ⟨k + 1, n, A, c, by go_num, rfl, by omega, by omega, HN.out⟩
        case measure => simp [intOf]; omega
    · have hke : k = revs.length := by omega
      have HF : Hid (n = (logOf revs p).length ∧ Below W1.heap.size W1 wr ∧ wr.ownsRow W1.heap.size 40 12 (.slice A n c) n ((logOf revs p).flatMap Rev.cells)) := Lib.hid (by
        have := HI.out
        rwa [hke, List.take_length] at this)
      clear HI hke
      go_wp2_with fail
      go_ret
      obtain ⟨hn, h1, h2⟩ := HF.out
      subst hn
      exact ⟨A, c, rfl, below_next HA.out h1, Row.of_own h2, fun x e => Nat.le_trans HA.out.size (h2.lt x e).1⟩
/-- The state of At's loop. -/
structure AtSt (w wr : World) (g : Nat) (m : Int) (A : Option Addr) (c : Nat) (L : List Rev) (k : Nat) : Prop where
  bel : Below w.heap.size w wr
  box1 : Blk wr (g + 1) 40 [.string ⟨#[]⟩, .int .i64 0, .int .i64 0, .int .i64 0, .int .i64 0, .bool false, .bool false, .bool false, .int .u64 0, .int .i64 0, .string ⟨#[]⟩, .int .i64 0]
  box2 : Blk wr (g + 1 + 1) 40 [.string (((L.take k).foldl (atM m) zeroRev)).path, .int .i64 (((L.take k).foldl (atM m) zeroRev)).num, .int .i64 (((L.take k).foldl (atM m) zeroRev)).chg, .int .i64 (((L.take k).foldl (atM m) zeroRev)).act, .int .i64 (((L.take k).foldl (atM m) zeroRev)).ty.base, .bool (((L.take k).foldl (atM m) zeroRev)).ty.k, .bool (((L.take k).foldl (atM m) zeroRev)).ty.l, .bool (((L.take k).foldl (atM m) zeroRev)).ty.x, .int .u64 (((L.take k).foldl (atM m) zeroRev)).sum, .int .i64 (((L.take k).foldl (atM m) zeroRev)).size, .string (((L.take k).foldl (atM m) zeroRev)).frm, .int .i64 (((L.take k).foldl (atM m) zeroRev)).fnum]
  row : Revs wr (.slice A L.length c) L
theorem AtSt.under {w wr X : World} {g : Nat} {m : Int} {A : Option Addr} {c : Nat} {L : List Rev} {k : Nat} (h : AtSt w wr g m A c L k) (hX : Below wr.heap.size wr X) : AtSt w X g m A c L k :=
  ⟨below_next h.bel hX, h.box1.below' hX, h.box2.below' hX, h.row.below hX⟩
theorem row12 {w : World} {g size n : Nat} {v : Value} {xs : List Value} (h : Row w size v n xs) (hne : v.ownBlock ≠ some g) (r : Rev) : Row ((((((((((((w.setCell ⟨g, 0, none⟩ (.string r.path)).setCell ⟨g, 1, none⟩ (.int .i64 r.num)).setCell ⟨g, 2, none⟩ (.int .i64 r.chg)).setCell ⟨g, 3, none⟩ (.int .i64 r.act)).setCell ⟨g, 4, none⟩ (.int .i64 r.ty.base)).setCell ⟨g, 5, none⟩ (.bool r.ty.k)).setCell ⟨g, 6, none⟩ (.bool r.ty.l)).setCell ⟨g, 7, none⟩ (.bool r.ty.x)).setCell ⟨g, 8, none⟩ (.int .u64 r.sum)).setCell ⟨g, 9, none⟩ (.int .i64 r.size)).setCell ⟨g, 10, none⟩ (.string r.frm)).setCell ⟨g, 11, none⟩ (.int .i64 r.fnum)) size v n xs := by
  repeat (refine Row.setCell_far ?_ hne)
  exact h
theorem at_next (m : Int) (L : List Rev) (k : Nat) (h : k < L.length) : (L.take (k + 1)).foldl (atM m) zeroRev = atM m ((L.take k).foldl (atM m) zeroRev) L[k] := by
  rw [List.take_succ_eq_append_getElem h, List.foldl_append]; rfl
set_option maxRecDepth 100000 in
set_option maxHeartbeats 8000000 in
theorem refAt_any (revs : List Rev) (p : ByteArray) (m : Int) (dv dr : Value) (w : World) (hR : Revs w dv revs) (hl : revs.length ≤ 1000000) :
    Calls Tryz.prog 34 #[.agg #[dv, dr], .string p, .int .i64 m] w fun e w' => e = .returned (.tuple #[.agg #[.string ((rAt revs p m)).path, .int .i64 ((rAt revs p m)).num, .int .i64 ((rAt revs p m)).chg, .int .i64 ((rAt revs p m)).act, .int .i64 ((rAt revs p m)).ty.base, .bool ((rAt revs p m)).ty.k, .bool ((rAt revs p m)).ty.l, .bool ((rAt revs p m)).ty.x, .int .u64 ((rAt revs p m)).sum, .int .i64 ((rAt revs p m)).size, .string ((rAt revs p m)).frm, .int .i64 ((rAt revs p m)).fnum], .bool (decide (0 < (rAt revs p m).num))]) ∧ Below w.heap.size w w' := by
  obtain ⟨Ar, cr, rfl, -⟩ := id hR
  have HR := Lib.hid hR
  clear hR
  have HLN := Lib.hid (log_len revs p)
  go_enter Tryz.func34, Tryz.ntmps34
  have hb0 : Below w.heap.size w (((w.alloc (.cells #[.slice Ar revs.length cr, dr] 31)).alloc (.cells #[.string ⟨#[]⟩, .int .i64 0, .int .i64 0, .int .i64 0, .int .i64 0, .bool false, .bool false, .bool false, .int .u64 0, .int .i64 0, .string ⟨#[]⟩, .int .i64 0] 40)).alloc (.cells #[.string ⟨#[]⟩, .int .i64 0, .int .i64 0, .int .i64 0, .int .i64 0, .bool false, .bool false, .bool false, .int .u64 0, .int .i64 0, .string ⟨#[]⟩, .int .i64 0] 40)) := (((Below.refl _ _).alloc (Nat.le_refl _) _).alloc (by simp) _).alloc (by simp; omega) _
  have hB : Blk (((w.alloc (.cells #[.slice Ar revs.length cr, dr] 31)).alloc (.cells #[.string ⟨#[]⟩, .int .i64 0, .int .i64 0, .int .i64 0, .int .i64 0, .bool false, .bool false, .bool false, .int .u64 0, .int .i64 0, .string ⟨#[]⟩, .int .i64 0] 40)).alloc (.cells #[.string ⟨#[]⟩, .int .i64 0, .int .i64 0, .int .i64 0, .int .i64 0, .bool false, .bool false, .bool false, .int .u64 0, .int .i64 0, .string ⟨#[]⟩, .int .i64 0] 40)) w.heap.size 31 [.slice Ar revs.length cr, dr] := ((blk_new w _ _).alloc _).alloc _
  have hZ : Blk (((w.alloc (.cells #[.slice Ar revs.length cr, dr] 31)).alloc (.cells #[.string ⟨#[]⟩, .int .i64 0, .int .i64 0, .int .i64 0, .int .i64 0, .bool false, .bool false, .bool false, .int .u64 0, .int .i64 0, .string ⟨#[]⟩, .int .i64 0] 40)).alloc (.cells #[.string ⟨#[]⟩, .int .i64 0, .int .i64 0, .int .i64 0, .int .i64 0, .bool false, .bool false, .bool false, .int .u64 0, .int .i64 0, .string ⟨#[]⟩, .int .i64 0] 40)) (w.heap.size + 1) 40 [.string ⟨#[]⟩, .int .i64 0, .int .i64 0, .int .i64 0, .int .i64 0, .bool false, .bool false, .bool false, .int .u64 0, .int .i64 0, .string ⟨#[]⟩, .int .i64 0] := by
    have h1 := (blk_new (w.alloc (.cells #[.slice Ar revs.length cr, dr] 31)) [.string ⟨#[]⟩, .int .i64 0, .int .i64 0, .int .i64 0, .int .i64 0, .bool false, .bool false, .bool false, .int .u64 0, .int .i64 0, .string ⟨#[]⟩, .int .i64 0] 40).alloc (.cells #[.string ⟨#[]⟩, .int .i64 0, .int .i64 0, .int .i64 0, .int .i64 0, .bool false, .bool false, .bool false, .int .u64 0, .int .i64 0, .string ⟨#[]⟩, .int .i64 0] 40)
    simp only [World.size_alloc] at h1
    exact h1
  have hY : Blk (((w.alloc (.cells #[.slice Ar revs.length cr, dr] 31)).alloc (.cells #[.string ⟨#[]⟩, .int .i64 0, .int .i64 0, .int .i64 0, .int .i64 0, .bool false, .bool false, .bool false, .int .u64 0, .int .i64 0, .string ⟨#[]⟩, .int .i64 0] 40)).alloc (.cells #[.string ⟨#[]⟩, .int .i64 0, .int .i64 0, .int .i64 0, .int .i64 0, .bool false, .bool false, .bool false, .int .u64 0, .int .i64 0, .string ⟨#[]⟩, .int .i64 0] 40)) (w.heap.size + 1 + 1) 40 [.string ⟨#[]⟩, .int .i64 0, .int .i64 0, .int .i64 0, .int .i64 0, .bool false, .bool false, .bool false, .int .u64 0, .int .i64 0, .string ⟨#[]⟩, .int .i64 0] := by
    have h1 := blk_new ((w.alloc (.cells #[.slice Ar revs.length cr, dr] 31)).alloc (.cells #[.string ⟨#[]⟩, .int .i64 0, .int .i64 0, .int .i64 0, .int .i64 0, .bool false, .bool false, .bool false, .int .u64 0, .int .i64 0, .string ⟨#[]⟩, .int .i64 0] 40)) [.string ⟨#[]⟩, .int .i64 0, .int .i64 0, .int .i64 0, .int .i64 0, .bool false, .bool false, .bool false, .int .u64 0, .int .i64 0, .string ⟨#[]⟩, .int .i64 0] 40
    simp only [World.size_alloc] at h1
    exact h1
  go_upto_region 2 with fail
  generalize ((w.alloc (.cells #[.slice Ar revs.length cr, dr] 31)).alloc (.cells #[.string ⟨#[]⟩, .int .i64 0, .int .i64 0, .int .i64 0, .int .i64 0, .bool false, .bool false, .bool false, .int .u64 0, .int .i64 0, .string ⟨#[]⟩, .int .i64 0] 40)).alloc (.cells #[.string ⟨#[]⟩, .int .i64 0, .int .i64 0, .int .i64 0, .int .i64 0, .bool false, .bool false, .bool false, .int .u64 0, .int .i64 0, .string ⟨#[]⟩, .int .i64 0] 40) = W1 at hb0 hB hZ hY ⊢
  obtain ⟨d0, d1, -, -⟩ := box2 hB
  have HL := Lib.hid (refLogF_any revs p (.slice Ar revs.length cr) dr W1 (HR.out.below hb0) hl)
  have Hb0 := Lib.hid hb0
  have HZ := Lib.hid hZ
  have HY := Lib.hid hY
  clear hb0 hZ hB hY
  go_wp2_with fail
  refine HL.out.mono ?_
  rintro e w2 ⟨A, c, rfl, hb2, hL, hf⟩
  clear d0 d1
  have HAT : Hid (rAt revs p m = (logOf revs p).foldl (atM m) zeroRev) := Lib.hid rfl
  have hll : (logOf revs p).length ≤ revs.length := HLN.out
  generalize logOf revs p = L at hL hll hf HAT ⊢
  obtain ⟨A', c', e', hcc, hmm, -⟩ := id hL
  injection e' with e1 e2 e3
  subst e1 e3
  unfold maxLen at hmm
  have hlt2 := HY.out.lt
  have HNE : Hid ((Value.slice A L.length c).ownBlock ≠ some (w.heap.size + 1 + 1)) := Lib.hid (fun e => by have := hf _ e; omega)
  have HST : Hid (AtSt w w2 w.heap.size m A c L 0) := Lib.hid ⟨below_next Hb0.out hb2, HZ.out.below' hb2, by rw [List.take_zero]; exact HY.out.below' hb2, hL⟩
  clear hb2 hL hf HL e2 hlt2
  go_wp2_with fail
  go_loopw [15] (fun s wr => ∃ k : Nat, s = .int .i64 k ∧ k ≤ L.length ∧ Hid (AtSt w wr w.heap.size m A c L k)) (fun s _ => L.length - (intOf s).toNat)
  case atStart => exact ⟨0, rfl, Nat.zero_le _, HST.out⟩
  case round =>
    obtain ⟨k, rfl, hk, HI⟩ := hrel
    by_cases hlt : k < L.length
    · obtain ⟨ad, rfl, hab, hld⟩ := Revs.at_ HI.out.row hlt
      have HN := Lib.hid (at_next m L k hlt)
      generalize L[k] = r at hld HN
      obtain ⟨x0, x1, x2, x3, x4, x5, x6, x7, x8, x9, x10, x11⟩ := hld
      have hX := blk_new wr [.string r.path, .int .i64 r.num, .int .i64 r.chg, .int .i64 r.act, .int .i64 r.ty.base, .bool r.ty.k, .bool r.ty.l, .bool r.ty.x, .int .u64 r.sum, .int .i64 r.size, .string r.frm, .int .i64 r.fnum] 40
      have hA1 : Below wr.heap.size wr (wr.alloc (.cells #[.string r.path, .int .i64 r.num, .int .i64 r.chg, .int .i64 r.act, .int .i64 r.ty.base, .bool r.ty.k, .bool r.ty.l, .bool r.ty.x, .int .u64 r.sum, .int .i64 r.size, .string r.frm, .int .i64 r.fnum] 40)) := (Below.refl _ _).alloc (Nat.le_refl _) _
      have HS1 := Lib.hid (HI.out.under hA1)
      go_upto_region 5 with fail
      clear x0 x1 x2 x3 x4 x5 x6 x7 x8 x9 x10 x11
      generalize wr.alloc (.cells #[.string r.path, .int .i64 r.num, .int .i64 r.chg, .int .i64 r.act, .int .i64 r.ty.base, .bool r.ty.k, .bool r.ty.l, .bool r.ty.x, .int .u64 r.sum, .int .i64 r.size, .string r.frm, .int .i64 r.fnum] 40) = V1 at hX hA1 HS1 ⊢
      obtain ⟨x0, x1, x2, x3, x4, x5, x6, x7, x8, x9, x10, x11⟩ := box12 hX
      clear hX hA1
      by_cases hc : r.chg ≤ m
      · have q : decide (r.chg ≤ m) = true := by simpa using hc
        have HE : Hid ((L.take (k + 1)).foldl (atM m) zeroRev = r) := Lib.hid (by rw [HN.out]; unfold atM; rw [if_pos hc])
        obtain ⟨y0, y1, y2, y3, y4, y5, y6, y7, y8, y9, y10, y11⟩ := frz12 HS1.out.box2
        obtain ⟨z0, z1, z2, z3, z4, z5, z6, z7, z8, z9, z10, z11⟩ := box12 HS1.out.box2
        clear hc
        go_wp2_with fail
        go_roundw
        case rel =>
          refine ⟨k + 1, by go_num, by omega, below12 HS1.out.bel (show w.heap.size ≤ w.heap.size + 1 + 1 by omega) r, far12 HS1.out.box1 (by omega) r, ?_, row12 HS1.out.row HNE.out r⟩
          rw [HE.out]
          exact set12 HS1.out.box2 r
        case measure => simp [intOf]; omega
      · have q : decide (r.chg ≤ m) = false := by simpa using hc
        have HE : Hid ((L.take (k + 1)).foldl (atM m) zeroRev = (L.take k).foldl (atM m) zeroRev) := Lib.hid (by rw [HN.out]; unfold atM; rw [if_neg hc])
        clear hc
        go_wp2_with fail
        go_roundw
        case rel => exact ⟨k + 1, by go_num, by omega, HS1.out.bel, HS1.out.box1, by rw [HE.out]; exact HS1.out.box2, HS1.out.row⟩
        case measure => simp [intOf]; omega
    · have hke : k = L.length := by omega
      obtain ⟨r, hr⟩ : ∃ r, (L.take k).foldl (atM m) zeroRev = r := ⟨_, rfl⟩
      have HAR : Hid (rAt revs p m = r) := Lib.hid (by rw [HAT.out, ← hr, hke, List.take_length])
      have hB2 := HI.out.box2
      rw [hr] at hB2
      obtain ⟨x0, x1, x2, x3, x4, x5, x6, x7, x8, x9, x10, x11⟩ := box12 hB2
      obtain ⟨y0, y1, y2, y3, y4, y5, y6, y7, y8, y9, y10, y11⟩ := frz12 HI.out.box1
      obtain ⟨z0, z1, z2, z3, z4, z5, z6, z7, z8, z9, z10, z11⟩ := box12 HI.out.box1
      have hZ9 := set12 HI.out.box1 r
      have hB9 := below12 HI.out.bel (show w.heap.size ≤ w.heap.size + 1 by omega) r
      clear hke hr hB2
      go_upto_region 8 with fail
      refine wp_region_noPanic ?_
      go_region_law (fail)
      all_goals
        refine NoPanic.normal ?_
        go_wp2_with fail
        have hZ8 := Blk.drew' hZ9
        have hB8 := hB9.drew
        generalize (((((((((((((wr.setCell ⟨w.heap.size + 1, 0, none⟩ (.string r.path)).setCell ⟨w.heap.size + 1, 1, none⟩ (.int .i64 r.num)).setCell ⟨w.heap.size + 1, 2, none⟩ (.int .i64 r.chg)).setCell ⟨w.heap.size + 1, 3, none⟩ (.int .i64 r.act)).setCell ⟨w.heap.size + 1, 4, none⟩ (.int .i64 r.ty.base)).setCell ⟨w.heap.size + 1, 5, none⟩ (.bool r.ty.k)).setCell ⟨w.heap.size + 1, 6, none⟩ (.bool r.ty.l)).setCell ⟨w.heap.size + 1, 7, none⟩ (.bool r.ty.x)).setCell ⟨w.heap.size + 1, 8, none⟩ (.int .u64 r.sum)).setCell ⟨w.heap.size + 1, 9, none⟩ (.int .i64 r.size)).setCell ⟨w.heap.size + 1, 10, none⟩ (.string r.frm)).setCell ⟨w.heap.size + 1, 11, none⟩ (.int .i64 r.fnum))).drew = W9 at hZ8 hB8 ⊢
        obtain ⟨e0, e1, e2, e3, e4, e5, e6, e7, e8, e9, e10, e11⟩ := box12 hZ8
        exact bodyPost_ret (v := .tuple #[.agg #[.string r.path, .int .i64 r.num, .int .i64 r.chg, .int .i64 r.act, .int .i64 r.ty.base, .bool r.ty.k, .bool r.ty.l, .bool r.ty.x, .int .u64 r.sum, .int .i64 r.size, .string r.frm, .int .i64 r.fnum], .bool (decide (0 < r.num))]) (by simp [results, Tryz.results34, go_sem, Act.put, e0, e1, e2, e3, e4, e5, e6, e7, e8, e9, e10, e11]) rfl ⟨by rw [HAR.out], hB8⟩
theorem same_any (L : List Rev) (A1 A2 : Option Addr) (c1 c2 : Nat) (w : World) (h1 : Revs w (.slice A1 L.length c1) L) (h2 : Revs w (.slice A2 L.length c2) L) :
    Calls Tryz.prog 13 #[.slice A1 L.length c1, .slice A2 L.length c2] w fun e w' => e = .returned (.bool true) ∧ Below w.heap.size w w' := by
  obtain ⟨A', c', e', hcc, hmm, -⟩ := id h1
  injection e' with e1 e2 e3
  subst e1 e3
  unfold maxLen at hmm
  have H1 := Lib.hid h1
  have H2 := Lib.hid h2
  clear h1 h2 e2
  have q0 : ((L.length : Int) != (L.length : Int)) = false := by simp
  go_enter Tryz.func13, Tryz.ntmps13
  go_wp2_with fail
  clear q0
  go_loopw [13] (fun s wr => ∃ k : Nat, s = .int .i64 k ∧ k ≤ L.length ∧ Hid (Below w.heap.size w wr)) (fun s _ => L.length - (intOf s).toNat)
  case atStart => exact ⟨0, rfl, Nat.zero_le _, Below.refl _ _⟩
  case round =>
    obtain ⟨k, rfl, hk, HI⟩ := hrel
    by_cases hlt : k < L.length
    · obtain ⟨a1, rfl, hb1, hx⟩ := Revs.at_ (H1.out.below HI.out) hlt
      obtain ⟨a2, rfl, hb2, hy⟩ := Revs.at_ (H2.out.below HI.out) hlt
      have hz1 : (k : Int) < (L.length : Int) := by omega
      generalize L[k] = r at hx hy
      obtain ⟨x0, x1, x2, x3, x4, x5, x6, x7, x8, x9, x10, x11⟩ := hx
      obtain ⟨y0, y1, y2, y3, y4, y5, y6, y7, y8, y9, y10, y11⟩ := hy
      have hne := run_neq_rev r r
      rw [show (!decide (r = r)) = false by simp] at hne
      go_upto_region 6 with fail
      go_quiet (fail)
      clear x0 x1 x2 x3 x4 x5 x6 x7 x8 x9 x10 x11 y0 y1 y2 y3 y4 y5 y6 y7 y8 y9 y10 y11 hne
      go_wp2_with fail
      go_roundw
      case rel => exact ⟨k + 1, by go_num, by omega, below_dN HI.out _⟩
      case measure => simp [intOf]; omega
    · have HB := Lib.hid HI.out
      have hge : ¬ ((k : Int) < (L.length : Int)) := by omega
      go_wp2_with fail
      go_ret
      exact ⟨rfl, HB.out⟩
end Go.Proofs.YtnblfaagchflaaaGreatDoor
