/- The reference's At; the statement's same: the walks. -/
import Derived.Test.YtmhmnchdhacdbaaGreatDoorMgv1
import Derived.Test.YtmhmnchdhacdbaaGreatDoorMgv0
import Derived.Test.YtmhmnchdhacdbaaGreatDoorProg
import Derived.Test.YtmhmnchdhacdbaaGreatDoorHp
import Derived.Test.YtmhmnchdhacdbaaGreatDoorCmpR
import Derived.Test.YtmhmnchdhacdbaaGreatDoorOne
import Derived.Deep.LoopGhost
import Derived.Shelf.Strings.Builder1
import Derived.Shelf.Strings.Builder2
import Derived.Shelf.Strings.OnBuilder
import Derived.Shelf.Small.Bits
import Derived.Shelf.Small.Strs
import Derived.Shelf.Small.Wraps
import Derived.Shelf.Utf8.RuneCount
import Derived.Shelf.Strconv.Itoa0
import Derived.Shelf.Strings.Search1
import Derived.Shelf.Strings.Search2
import Derived.Shelf.Strings.Search3
import Derived.Shelf.Strings.Count
import Derived.Shelf.LaysM
import Derived.Shelf.Strings.Shaped
import Derived.Shelf.Strings.Prefix
import Derived.Shelf.Strings.Split
import Derived.Shelf.Strings.SplitShaped
import Derived.Shelf.Unicode.Decode
import Derived.Shelf.Strings.RuneCount
import Derived.Shelf.Strings.Explode
import Derived.Shelf.Unicode.DecodeSlow
import Derived.Shelf.Unicode.DecodeAny
import Derived.Ground.Names2Prog
import Derived.Shelf.Slices.SearchI
namespace Go.Proofs.YtmhmnchdhacdbaaGreatDoor
open Go.RowKit
set_option linter.unusedVariables false
set_option linter.unusedSimpArgs false

/-- What the reference's Log leaves, in memory of its own. -/
def RLogPostF (w : World) (revs : List Rev) (p : ByteArray) (e : Ending) (w' : World) : Prop := ∃ A c, e = .returned (.slice A (logOf revs p).length c) ∧ Below w.heap.size w w' ∧ Revs w' (.slice A (logOf revs p).length c) (logOf revs p) ∧ Fresh w.heap.size (.slice A (logOf revs p).length c)
set_option maxRecDepth 100000 in
set_option maxHeartbeats 4000000 in
theorem refLogF_any (revs : List Rev) (p : ByteArray) (dv dr : Value) (w : World) (hR : Revs w dv revs) (hl : revs.length ≤ 1000000) :
    Calls Tryz.prog 17 #[.agg #[dv, dr], .string p] w (RLogPostF w revs p) := by
  obtain ⟨Ar, cr, rfl, hcr, hmr, -⟩ := id hR
  have HR := Lib.hid hR
  clear hR
  unfold maxLen at hmr
  go_enter Tryz.func17, Tryz.ntmps17
  have hB := blk_new w [.slice Ar revs.length cr, dr] 28
  have hA : Below w.heap.size w (w.alloc (.cells #[.slice Ar revs.length cr, dr] 28)) := (Below.refl _ _).alloc (Nat.le_refl _) _
  go_upto_region 2 with fail
  generalize w.alloc (.cells #[.slice Ar revs.length cr, dr] 28) = W1 at hB hA ⊢
  obtain ⟨d0, -, -, -⟩ := box2 hB
  have HA := Lib.hid hA
  clear hA hB
  go_wp2_with fail
  clear d0
  go_loopw [5, 11] (fun u s wr => ∃ (k n : Nat) (A : Option Addr) (c : Nat), s = .int .i64 k ∧ u = .slice A n c ∧ k ≤ revs.length ∧ n ≤ k ∧ Hid (n = (logOf (revs.take k) p).length ∧ Below W1.heap.size W1 wr ∧ wr.ownsRow W1.heap.size 36 12 (.slice A n c) n ((logOf (revs.take k) p).flatMap Rev.cells))) (fun _ s _ => revs.length - (intOf s).toNat)
  case atStart => exact ⟨0, 0, none, 0, rfl, rfl, Nat.zero_le _, Nat.le_refl _, rfl, Below.refl _ _, World.ownsRow_nil _ _ _ _⟩
  case round =>
    obtain ⟨k, n, A, c, rfl, rfl, hk, hnk, HI⟩ := hrel
    by_cases hlt : k < revs.length
    · obtain ⟨ad, rfl, hab, hld⟩ := Revs.at_ (HR.out.below (below_next HA.out HI.out.2.1)) hlt
      have HT := Lib.hid (log_take revs p k hlt)
      generalize revs[k] = r at hld HT
      obtain ⟨x0, x1, x2, x3, x4, x5, x6, x7, x8, x9, x10, x11⟩ := hld
      have hX := blk_new wr [.string r.path, .int .i64 r.num, .int .i64 r.chg, .int .i64 r.act, .int .i64 r.ty.base, .bool r.ty.k, .bool r.ty.l, .bool r.ty.x, .int .u64 r.sum, .int .i64 r.size, .string r.frm, .int .i64 r.fnum] 36
      have hA1 : Below wr.heap.size wr (wr.alloc (.cells #[.string r.path, .int .i64 r.num, .int .i64 r.chg, .int .i64 r.act, .int .i64 r.ty.base, .bool r.ty.k, .bool r.ty.l, .bool r.ty.x, .int .u64 r.sum, .int .i64 r.size, .string r.frm, .int .i64 r.fnum] 36)) := (Below.refl _ _).alloc (Nat.le_refl _) _
      go_upto_region 5 with fail
      clear x0 x1 x2 x3 x4 x5 x6 x7 x8 x9 x10 x11
      generalize wr.alloc (.cells #[.string r.path, .int .i64 r.num, .int .i64 r.chg, .int .i64 r.act, .int .i64 r.ty.base, .bool r.ty.k, .bool r.ty.l, .bool r.ty.x, .int .u64 r.sum, .int .i64 r.size, .string r.frm, .int .i64 r.fnum] 36) = V1 at hX hA1 ⊢
      obtain ⟨y0, y1, y2, y3, y4, y5, y6, y7, y8, y9, y10, y11⟩ := box12 hX
      by_cases hp : r.path = p
      · have q := str_eqB r.path p
        rw [decide_eq_true hp] at q
        rw [if_pos hp] at HT
        have HN : Hid (n = (logOf (revs.take k) p).length ∧ Below W1.heap.size W1 V1 ∧ V1.ownsRow W1.heap.size 36 12 (.slice A n c) n ((logOf (revs.take k) p).flatMap Rev.cells)) := Lib.hid ⟨HI.out.1, below_next HI.out.2.1 hA1, own_below HI.out.2.2 hA1⟩
        clear hX hA1 hp
        go_wp2_with (at_builtin; refine wpList_push rfl rfl revElem ((own_below HN.out.2.2 ((Below.refl _ _).alloc (Nat.le_refl _) _))) rfl (row_new V1 [.string r.path, .int .i64 r.num, .int .i64 r.chg, .int .i64 r.act, .int .i64 r.ty.base, .bool r.ty.k, .bool r.ty.l, .bool r.ty.x, .int .u64 r.sum, .int .i64 r.size, .string r.frm, .int .i64 r.fnum] _ 12 1 rfl (by decide) _ rfl) rfl (HN.out.2.1.alloc HN.out.2.1.size _) (HN.out.2.1.alloc HN.out.2.1.size _).size (rev_oneC r) (by omega) (by unfold maxLen; omega) ?_; intro A' c' w2 hown2 hbl2)
        have HO2 := Lib.hid hown2
        have HB2 := Lib.hid hbl2
        clear y0 y1 y2 y3 y4 y5 y6 y7 y8 y9 y10 y11 hown2 hbl2
        go_wp2_with fail
        go_roundw
        case rel =>
          refine ⟨k + 1, n + 1, A', c', by go_num, rfl, by omega, by omega, ?_, HB2.out, ?_⟩
          · rw [HT.out, List.length_append, List.length_singleton, ← HN.out.1]
          · rw [HT.out, List.flatMap_append, List.flatMap_cons, List.flatMap_nil, List.append_nil]
            exact HO2.out
        case measure => simp [intOf]; omega
      · have q := str_eqB r.path p
        rw [decide_eq_false hp] at q
        rw [if_neg hp, List.append_nil] at HT
        have HN : Hid (n = (logOf (revs.take (k + 1)) p).length ∧ Below W1.heap.size W1 V1 ∧ V1.ownsRow W1.heap.size 36 12 (.slice A n c) n ((logOf (revs.take (k + 1)) p).flatMap Rev.cells)) := Lib.hid (by rw [HT.out]; exact ⟨HI.out.1, below_next HI.out.2.1 hA1, own_below HI.out.2.2 hA1⟩)
        clear hX hA1 hp HT
        go_wp2_with fail
        go_roundw
        case rel => exact ⟨k + 1, n, A, c, by go_num, rfl, by omega, by omega, HN.out⟩
        case measure => simp [intOf]; omega
    · have hke : k = revs.length := by omega
      have HF : Hid (n = (logOf revs p).length ∧ Below W1.heap.size W1 wr ∧ wr.ownsRow W1.heap.size 36 12 (.slice A n c) n ((logOf revs p).flatMap Rev.cells)) := Lib.hid (by
        have := HI.out
        rwa [hke, List.take_length] at this)
      clear HI hke
      go_wp2_with fail
      go_ret
      obtain ⟨hn, h1, h2⟩ := HF.out
      subst hn
      exact ⟨A, c, rfl, below_next HA.out h1, Row.of_own h2, fun x e => Nat.le_trans HA.out.size (h2.lt x e).1⟩
/-- The state of At's loop. -/
structure AtSt (w wr : World) (g : Nat) (m : Int) (A : Option Addr) (c : Nat) (L : List Rev) (k : Nat) : Prop where
  bel : Below w.heap.size w wr
  box1 : Blk wr (g + 1) 36 [.string ⟨#[]⟩, .int .i64 0, .int .i64 0, .int .i64 0, .int .i64 0, .bool false, .bool false, .bool false, .int .u64 0, .int .i64 0, .string ⟨#[]⟩, .int .i64 0]
  box2 : Blk wr (g + 1 + 1) 36 [.string (((L.take k).foldl (atM m) zeroRev)).path, .int .i64 (((L.take k).foldl (atM m) zeroRev)).num, .int .i64 (((L.take k).foldl (atM m) zeroRev)).chg, .int .i64 (((L.take k).foldl (atM m) zeroRev)).act, .int .i64 (((L.take k).foldl (atM m) zeroRev)).ty.base, .bool (((L.take k).foldl (atM m) zeroRev)).ty.k, .bool (((L.take k).foldl (atM m) zeroRev)).ty.l, .bool (((L.take k).foldl (atM m) zeroRev)).ty.x, .int .u64 (((L.take k).foldl (atM m) zeroRev)).sum, .int .i64 (((L.take k).foldl (atM m) zeroRev)).size, .string (((L.take k).foldl (atM m) zeroRev)).frm, .int .i64 (((L.take k).foldl (atM m) zeroRev)).fnum]
  row : Revs wr (.slice A L.length c) L
theorem AtSt.under {w wr X : World} {g : Nat} {m : Int} {A : Option Addr} {c : Nat} {L : List Rev} {k : Nat} (h : AtSt w wr g m A c L k) (hX : Below wr.heap.size wr X) : AtSt w X g m A c L k :=
  ⟨below_next h.bel hX, h.box1.below' hX, h.box2.below' hX, h.row.below hX⟩
theorem row12 {w : World} {g size n : Nat} {v : Value} {xs : List Value} (h : Row w size v n xs) (hne : v.ownBlock ≠ some g) (r : Rev) : Row ((((((((((((w.setCell ⟨g, 0, none⟩ (.string r.path)).setCell ⟨g, 1, none⟩ (.int .i64 r.num)).setCell ⟨g, 2, none⟩ (.int .i64 r.chg)).setCell ⟨g, 3, none⟩ (.int .i64 r.act)).setCell ⟨g, 4, none⟩ (.int .i64 r.ty.base)).setCell ⟨g, 5, none⟩ (.bool r.ty.k)).setCell ⟨g, 6, none⟩ (.bool r.ty.l)).setCell ⟨g, 7, none⟩ (.bool r.ty.x)).setCell ⟨g, 8, none⟩ (.int .u64 r.sum)).setCell ⟨g, 9, none⟩ (.int .i64 r.size)).setCell ⟨g, 10, none⟩ (.string r.frm)).setCell ⟨g, 11, none⟩ (.int .i64 r.fnum)) size v n xs := by
  repeat (refine Row.setCell_far ?_ hne)
  exact h
theorem at_next (m : Int) (L : List Rev) (k : Nat) (h : k < L.length) : (L.take (k + 1)).foldl (atM m) zeroRev = atM m ((L.take k).foldl (atM m) zeroRev) L[k] := by
  rw [List.take_succ_eq_append_getElem h, List.foldl_append]; rfl
set_option maxRecDepth 100000 in
set_option maxHeartbeats 8000000 in
theorem refAt_any (revs : List Rev) (p : ByteArray) (m : Int) (dv dr : Value) (w : World) (hR : Revs w dv revs) (hl : revs.length ≤ 1000000) :
    Calls Tryz.prog 14 #[.agg #[dv, dr], .string p, .int .i64 m] w fun e w' => e = .returned (.tuple #[.agg #[.string ((rAt revs p m)).path, .int .i64 ((rAt revs p m)).num, .int .i64 ((rAt revs p m)).chg, .int .i64 ((rAt revs p m)).act, .int .i64 ((rAt revs p m)).ty.base, .bool ((rAt revs p m)).ty.k, .bool ((rAt revs p m)).ty.l, .bool ((rAt revs p m)).ty.x, .int .u64 ((rAt revs p m)).sum, .int .i64 ((rAt revs p m)).size, .string ((rAt revs p m)).frm, .int .i64 ((rAt revs p m)).fnum], .bool (decide (0 < (rAt revs p m).num))]) ∧ Below w.heap.size w w' := by
  obtain ⟨Ar, cr, rfl, -⟩ := id hR
  have HR := Lib.hid hR
  clear hR
  have HLN := Lib.hid (log_len revs p)
  go_enter Tryz.func14, Tryz.ntmps14
  have hb0 : Below w.heap.size w (((w.alloc (.cells #[.slice Ar revs.length cr, dr] 28)).alloc (.cells #[.string ⟨#[]⟩, .int .i64 0, .int .i64 0, .int .i64 0, .int .i64 0, .bool false, .bool false, .bool false, .int .u64 0, .int .i64 0, .string ⟨#[]⟩, .int .i64 0] 36)).alloc (.cells #[.string ⟨#[]⟩, .int .i64 0, .int .i64 0, .int .i64 0, .int .i64 0, .bool false, .bool false, .bool false, .int .u64 0, .int .i64 0, .string ⟨#[]⟩, .int .i64 0] 36)) := (((Below.refl _ _).alloc (Nat.le_refl _) _).alloc (by simp) _).alloc (by simp; omega) _
  have hB : Blk (((w.alloc (.cells #[.slice Ar revs.length cr, dr] 28)).alloc (.cells #[.string ⟨#[]⟩, .int .i64 0, .int .i64 0, .int .i64 0, .int .i64 0, .bool false, .bool false, .bool false, .int .u64 0, .int .i64 0, .string ⟨#[]⟩, .int .i64 0] 36)).alloc (.cells #[.string ⟨#[]⟩, .int .i64 0, .int .i64 0, .int .i64 0, .int .i64 0, .bool false, .bool false, .bool false, .int .u64 0, .int .i64 0, .string ⟨#[]⟩, .int .i64 0] 36)) w.heap.size 28 [.slice Ar revs.length cr, dr] := ((blk_new w _ _).alloc _).alloc _
  have hZ : Blk (((w.alloc (.cells #[.slice Ar revs.length cr, dr] 28)).alloc (.cells #[.string ⟨#[]⟩, .int .i64 0, .int .i64 0, .int .i64 0, .int .i64 0, .bool false, .bool false, .bool false, .int .u64 0, .int .i64 0, .string ⟨#[]⟩, .int .i64 0] 36)).alloc (.cells #[.string ⟨#[]⟩, .int .i64 0, .int .i64 0, .int .i64 0, .int .i64 0, .bool false, .bool false, .bool false, .int .u64 0, .int .i64 0, .string ⟨#[]⟩, .int .i64 0] 36)) (w.heap.size + 1) 36 [.string ⟨#[]⟩, .int .i64 0, .int .i64 0, .int .i64 0, .int .i64 0, .bool false, .bool false, .bool false, .int .u64 0, .int .i64 0, .string ⟨#[]⟩, .int .i64 0] := by
    have h1 := (blk_new (w.alloc (.cells #[.slice Ar revs.length cr, dr] 28)) [.string ⟨#[]⟩, .int .i64 0, .int .i64 0, .int .i64 0, .int .i64 0, .bool false, .bool false, .bool false, .int .u64 0, .int .i64 0, .string ⟨#[]⟩, .int .i64 0] 36).alloc (.cells #[.string ⟨#[]⟩, .int .i64 0, .int .i64 0, .int .i64 0, .int .i64 0, .bool false, .bool false, .bool false, .int .u64 0, .int .i64 0, .string ⟨#[]⟩, .int .i64 0] 36)
    simp only [World.size_alloc] at h1
    exact h1
  have hY : Blk (((w.alloc (.cells #[.slice Ar revs.length cr, dr] 28)).alloc (.cells #[.string ⟨#[]⟩, .int .i64 0, .int .i64 0, .int .i64 0, .int .i64 0, .bool false, .bool false, .bool false, .int .u64 0, .int .i64 0, .string ⟨#[]⟩, .int .i64 0] 36)).alloc (.cells #[.string ⟨#[]⟩, .int .i64 0, .int .i64 0, .int .i64 0, .int .i64 0, .bool false, .bool false, .bool false, .int .u64 0, .int .i64 0, .string ⟨#[]⟩, .int .i64 0] 36)) (w.heap.size + 1 + 1) 36 [.string ⟨#[]⟩, .int .i64 0, .int .i64 0, .int .i64 0, .int .i64 0, .bool false, .bool false, .bool false, .int .u64 0, .int .i64 0, .string ⟨#[]⟩, .int .i64 0] := by
    have h1 := blk_new ((w.alloc (.cells #[.slice Ar revs.length cr, dr] 28)).alloc (.cells #[.string ⟨#[]⟩, .int .i64 0, .int .i64 0, .int .i64 0, .int .i64 0, .bool false, .bool false, .bool false, .int .u64 0, .int .i64 0, .string ⟨#[]⟩, .int .i64 0] 36)) [.string ⟨#[]⟩, .int .i64 0, .int .i64 0, .int .i64 0, .int .i64 0, .bool false, .bool false, .bool false, .int .u64 0, .int .i64 0, .string ⟨#[]⟩, .int .i64 0] 36
    simp only [World.size_alloc] at h1
    exact h1
  go_upto_region 2 with fail
  generalize ((w.alloc (.cells #[.slice Ar revs.length cr, dr] 28)).alloc (.cells #[.string ⟨#[]⟩, .int .i64 0, .int .i64 0, .int .i64 0, .int .i64 0, .bool false, .bool false, .bool false, .int .u64 0, .int .i64 0, .string ⟨#[]⟩, .int .i64 0] 36)).alloc (.cells #[.string ⟨#[]⟩, .int .i64 0, .int .i64 0, .int .i64 0, .int .i64 0, .bool false, .bool false, .bool false, .int .u64 0, .int .i64 0, .string ⟨#[]⟩, .int .i64 0] 36) = W1 at hb0 hB hZ hY ⊢
  obtain ⟨d0, d1, -, -⟩ := box2 hB
  have HL := Lib.hid (refLogF_any revs p (.slice Ar revs.length cr) dr W1 (HR.out.below hb0) hl)
  have Hb0 := Lib.hid hb0
  have HZ := Lib.hid hZ
  have HY := Lib.hid hY
  clear hb0 hZ hB hY
  go_wp2_with fail
  refine HL.out.mono ?_
  rintro e w2 ⟨A, c, rfl, hb2, hL, hf⟩
  clear d0 d1
  have HAT : Hid (rAt revs p m = (logOf revs p).foldl (atM m) zeroRev) := Lib.hid rfl
  have hll : (logOf revs p).length ≤ revs.length := HLN.out
  generalize logOf revs p = L at hL hll hf HAT ⊢
  obtain ⟨A', c', e', hcc, hmm, -⟩ := id hL
  injection e' with e1 e2 e3
  subst e1 e3
  unfold maxLen at hmm
  have hlt2 := HY.out.lt
  have HNE : Hid ((Value.slice A L.length c).ownBlock ≠ some (w.heap.size + 1 + 1)) := Lib.hid (fun e => by have := hf _ e; omega)
  have HST : Hid (AtSt w w2 w.heap.size m A c L 0) := Lib.hid ⟨below_next Hb0.out hb2, HZ.out.below' hb2, by rw [List.take_zero]; exact HY.out.below' hb2, hL⟩
  clear hb2 hL hf HL e2 hlt2
  go_wp2_with fail
  go_loopw [15] (fun s wr => ∃ k : Nat, s = .int .i64 k ∧ k ≤ L.length ∧ Hid (AtSt w wr w.heap.size m A c L k)) (fun s _ => L.length - (intOf s).toNat)
  case atStart => exact ⟨0, rfl, Nat.zero_le _, HST.out⟩
  case round =>
    obtain ⟨k, rfl, hk, HI⟩ := hrel
    by_cases hlt : k < L.length
    · obtain ⟨ad, rfl, hab, hld⟩ := Revs.at_ HI.out.row hlt
      have HN := Lib.hid (at_next m L k hlt)
      generalize L[k] = r at hld HN
      obtain ⟨x0, x1, x2, x3, x4, x5, x6, x7, x8, x9, x10, x11⟩ := hld
      have hX := blk_new wr [.string r.path, .int .i64 r.num, .int .i64 r.chg, .int .i64 r.act, .int .i64 r.ty.base, .bool r.ty.k, .bool r.ty.l, .bool r.ty.x, .int .u64 r.sum, .int .i64 r.size, .string r.frm, .int .i64 r.fnum] 36
      have hA1 : Below wr.heap.size wr (wr.alloc (.cells #[.string r.path, .int .i64 r.num, .int .i64 r.chg, .int .i64 r.act, .int .i64 r.ty.base, .bool r.ty.k, .bool r.ty.l, .bool r.ty.x, .int .u64 r.sum, .int .i64 r.size, .string r.frm, .int .i64 r.fnum] 36)) := (Below.refl _ _).alloc (Nat.le_refl _) _
      have HS1 := Lib.hid (HI.out.under hA1)
      go_upto_region 5 with fail
      clear x0 x1 x2 x3 x4 x5 x6 x7 x8 x9 x10 x11
      generalize wr.alloc (.cells #[.string r.path, .int .i64 r.num, .int .i64 r.chg, .int .i64 r.act, .int .i64 r.ty.base, .bool r.ty.k, .bool r.ty.l, .bool r.ty.x, .int .u64 r.sum, .int .i64 r.size, .string r.frm, .int .i64 r.fnum] 36) = V1 at hX hA1 HS1 ⊢
      obtain ⟨x0, x1, x2, x3, x4, x5, x6, x7, x8, x9, x10, x11⟩ := box12 hX
      clear hX hA1
      by_cases hc : r.chg ≤ m
      · have q : decide (r.chg ≤ m) = true := by simpa using hc
        have HE : Hid ((L.take (k + 1)).foldl (atM m) zeroRev = r) := Lib.hid (by rw [HN.out]; unfold atM; rw [if_pos hc])
        obtain ⟨y0, y1, y2, y3, y4, y5, y6, y7, y8, y9, y10, y11⟩ := frz12 HS1.out.box2
        obtain ⟨z0, z1, z2, z3, z4, z5, z6, z7, z8, z9, z10, z11⟩ := box12 HS1.out.box2
        clear hc
        go_wp2_with fail
        go_roundw
        case rel =>
          refine ⟨k + 1, by go_num, by omega, below12 HS1.out.bel (show w.heap.size ≤ w.heap.size + 1 + 1 by omega) r, far12 HS1.out.box1 (by omega) r, ?_, row12 HS1.out.row HNE.out r⟩
          rw [HE.out]
          exact set12 HS1.out.box2 r
        case measure => simp [intOf]; omega
      · have q : decide (r.chg ≤ m) = false := by simpa using hc
        have HE : Hid ((L.take (k + 1)).foldl (atM m) zeroRev = (L.take k).foldl (atM m) zeroRev) := Lib.hid (by rw [HN.out]; unfold atM; rw [if_neg hc])
        clear hc
        go_wp2_with fail
        go_roundw
        case rel => exact ⟨k + 1, by go_num, by omega, HS1.out.bel, HS1.out.box1, by rw [HE.out]; exact HS1.out.box2, HS1.out.row⟩
        case measure => simp [intOf]; omega
    · have hke : k = L.length := by omega
      obtain ⟨r, hr⟩ : ∃ r, (L.take k).foldl (atM m) zeroRev = r := ⟨_, rfl⟩
      have HAR : Hid (rAt revs p m = r) := Lib.hid (by rw [HAT.out, ← hr, hke, List.take_length])
      have hB2 := HI.out.box2
      rw [hr] at hB2
      obtain ⟨x0, x1, x2, x3, x4, x5, x6, x7, x8, x9, x10, x11⟩ := box12 hB2
      obtain ⟨y0, y1, y2, y3, y4, y5, y6, y7, y8, y9, y10, y11⟩ := frz12 HI.out.box1
      obtain ⟨z0, z1, z2, z3, z4, z5, z6, z7, z8, z9, z10, z11⟩ := box12 HI.out.box1
      have hZ9 := set12 HI.out.box1 r
      have hB9 := below12 HI.out.bel (show w.heap.size ≤ w.heap.size + 1 by omega) r
      clear hke hr hB2
      go_upto_region 8 with fail
      refine wp_region_noPanic ?_
      go_region_law (fail)
      all_goals
        refine NoPanic.normal ?_
        go_wp2_with fail
        have hZ8 := Blk.drew' hZ9
        have hB8 := hB9.drew
        generalize (((((((((((((wr.setCell ⟨w.heap.size + 1, 0, none⟩ (.string r.path)).setCell ⟨w.heap.size + 1, 1, none⟩ (.int .i64 r.num)).setCell ⟨w.heap.size + 1, 2, none⟩ (.int .i64 r.chg)).setCell ⟨w.heap.size + 1, 3, none⟩ (.int .i64 r.act)).setCell ⟨w.heap.size + 1, 4, none⟩ (.int .i64 r.ty.base)).setCell ⟨w.heap.size + 1, 5, none⟩ (.bool r.ty.k)).setCell ⟨w.heap.size + 1, 6, none⟩ (.bool r.ty.l)).setCell ⟨w.heap.size + 1, 7, none⟩ (.bool r.ty.x)).setCell ⟨w.heap.size + 1, 8, none⟩ (.int .u64 r.sum)).setCell ⟨w.heap.size + 1, 9, none⟩ (.int .i64 r.size)).setCell ⟨w.heap.size + 1, 10, none⟩ (.string r.frm)).setCell ⟨w.heap.size + 1, 11, none⟩ (.int .i64 r.fnum))).drew = W9 at hZ8 hB8 ⊢
        obtain ⟨e0, e1, e2, e3, e4, e5, e6, e7, e8, e9, e10, e11⟩ := box12 hZ8
        exact bodyPost_ret (v := .tuple #[.agg #[.string r.path, .int .i64 r.num, .int .i64 r.chg, .int .i64 r.act, .int .i64 r.ty.base, .bool r.ty.k, .bool r.ty.l, .bool r.ty.x, .int .u64 r.sum, .int .i64 r.size, .string r.frm, .int .i64 r.fnum], .bool (decide (0 < r.num))]) (by simp [results, Tryz.results14, go_sem, Act.put, e0, e1, e2, e3, e4, e5, e6, e7, e8, e9, e10, e11]) rfl ⟨by rw [HAR.out], hB8⟩
theorem same_any (L : List Rev) (A1 A2 : Option Addr) (c1 c2 : Nat) (w : World) (h1 : Revs w (.slice A1 L.length c1) L) (h2 : Revs w (.slice A2 L.length c2) L) :
    Calls Tryz.prog 15 #[.slice A1 L.length c1, .slice A2 L.length c2] w fun e w' => e = .returned (.bool true) ∧ Below w.heap.size w w' := by
  obtain ⟨A', c', e', hcc, hmm, -⟩ := id h1
  injection e' with e1 e2 e3
  subst e1 e3
  unfold maxLen at hmm
  have H1 := Lib.hid h1
  have H2 := Lib.hid h2
  clear h1 h2 e2
  have q0 : ((L.length : Int) != (L.length : Int)) = false := by simp
  go_enter Tryz.func15, Tryz.ntmps15
  go_wp2_with fail
  clear q0
  go_loopw [13] (fun s wr => ∃ k : Nat, s = .int .i64 k ∧ k ≤ L.length ∧ Hid (Below w.heap.size w wr)) (fun s _ => L.length - (intOf s).toNat)
  case atStart => exact ⟨0, rfl, Nat.zero_le _, Below.refl _ _⟩
  case round =>
    obtain ⟨k, rfl, hk, HI⟩ := hrel
    by_cases hlt : k < L.length
    · obtain ⟨a1, rfl, hb1, hx⟩ := Revs.at_ (H1.out.below HI.out) hlt
      obtain ⟨a2, rfl, hb2, hy⟩ := Revs.at_ (H2.out.below HI.out) hlt
      have hz1 : (k : Int) < (L.length : Int) := by omega
      generalize L[k] = r at hx hy
      obtain ⟨x0, x1, x2, x3, x4, x5, x6, x7, x8, x9, x10, x11⟩ := hx
      obtain ⟨y0, y1, y2, y3, y4, y5, y6, y7, y8, y9, y10, y11⟩ := hy
      have hne := run_neq_rev r r
      rw [show (!decide (r = r)) = false by simp] at hne
      go_upto_region 6 with fail
      go_quiet (fail)
      clear x0 x1 x2 x3 x4 x5 x6 x7 x8 x9 x10 x11 y0 y1 y2 y3 y4 y5 y6 y7 y8 y9 y10 y11 hne
      go_wp2_with fail
      go_roundw
      case rel => exact ⟨k + 1, by go_num, by omega, below_dN HI.out _⟩
      case measure => simp [intOf]; omega
    · have HB := Lib.hid HI.out
      have hge : ¬ ((k : Int) < (L.length : Int)) := by omega
      go_wp2_with fail
      go_ret
      exact ⟨rfl, HB.out⟩
end Go.Proofs.YtmhmnchdhacdbaaGreatDoor
/- The reference's Gone, Live, Previous, First: the walks. -/
namespace Go.Proofs.YtmhmnchdhacdbaaGreatDoor
open Go.RowKit
set_option linter.unusedVariables false
set_option linter.unusedSimpArgs false

set_option maxRecDepth 100000 in
set_option maxHeartbeats 1000000 in
theorem refGone_any (r : Rev) (w : World) : Calls Tryz.prog 46 #[.agg #[.string r.path, .int .i64 r.num, .int .i64 r.chg, .int .i64 r.act, .int .i64 r.ty.base, .bool r.ty.k, .bool r.ty.l, .bool r.ty.x, .int .u64 r.sum, .int .i64 r.size, .string r.frm, .int .i64 r.fnum]] w fun e w' => e = .returned (.bool (!liveA r.act)) ∧ Below w.heap.size w w' := by
  have hA : Below w.heap.size w (w.alloc (.cells #[.string r.path, .int .i64 r.num, .int .i64 r.chg, .int .i64 r.act, .int .i64 r.ty.base, .bool r.ty.k, .bool r.ty.l, .bool r.ty.x, .int .u64 r.sum, .int .i64 r.size, .string r.frm, .int .i64 r.fnum] 36)) := (Below.refl _ _).alloc (Nat.le_refl _) _
  by_cases h3 : r.act = 3
  · have q : (r.act == 3) = true := by simpa using h3
    have HL : Hid ((!liveA r.act) = true) := Lib.hid (by rw [h3]; rfl)
    clear h3
    go_enter Tryz.func46, Tryz.ntmps46
    go_wp2_with fail
    go_ret
    exact ⟨ret_bool HL.out.symm, hA⟩
  · have q : (r.act == 3) = false := by simpa using h3
    by_cases h5 : r.act = 5
    · have q5 : (r.act == 5) = true := by simpa using h5
      have HL : Hid ((!liveA r.act) = true) := Lib.hid (by rw [h5]; rfl)
      clear h3 h5
      go_enter Tryz.func46, Tryz.ntmps46
      go_wp2_with fail
      go_ret
      exact ⟨ret_bool HL.out.symm, hA⟩
    · have q5 : (r.act == 5) = false := by simpa using h5
      have HL : Hid ((!liveA r.act) = false) := Lib.hid (by unfold liveA; simp [h3, h5])
      clear h3 h5
      go_enter Tryz.func46, Tryz.ntmps46
      go_wp2_with fail
      go_ret
      exact ⟨ret_bool HL.out.symm, hA⟩

set_option maxRecDepth 100000 in
set_option maxHeartbeats 4000000 in
theorem refPrev_any (revs : List Rev) (v : Rev) (dv dr : Value) (w : World) (hR : Revs w dv revs) (hl : revs.length ≤ 1000000) (hn : 0 ≤ v.num ∧ v.num ≤ 1000000) :
    Calls Tryz.prog 123 #[.agg #[dv, dr], .agg #[.string v.path, .int .i64 v.num, .int .i64 v.chg, .int .i64 v.act, .int .i64 v.ty.base, .bool v.ty.k, .bool v.ty.l, .bool v.ty.x, .int .u64 v.sum, .int .i64 v.size, .string v.frm, .int .i64 v.fnum]] w (RevPost w (rPrev revs v)) := by
  obtain ⟨Ar, cr, rfl, -⟩ := id hR
  have HR := Lib.hid hR
  clear hR
  have hb0 : Below w.heap.size w (((w.alloc (.cells #[.slice Ar revs.length cr, dr] 28)).alloc (.cells #[.string v.path, .int .i64 v.num, .int .i64 v.chg, .int .i64 v.act, .int .i64 v.ty.base, .bool v.ty.k, .bool v.ty.l, .bool v.ty.x, .int .u64 v.sum, .int .i64 v.size, .string v.frm, .int .i64 v.fnum] 36)).alloc (.cells #[.string ⟨#[]⟩, .int .i64 0, .int .i64 0, .int .i64 0, .int .i64 0, .bool false, .bool false, .bool false, .int .u64 0, .int .i64 0, .string ⟨#[]⟩, .int .i64 0] 36)) := (((Below.refl _ _).alloc (Nat.le_refl _) _).alloc (by simp) _).alloc (by simp; omega) _
  have hZ : Blk (((w.alloc (.cells #[.slice Ar revs.length cr, dr] 28)).alloc (.cells #[.string v.path, .int .i64 v.num, .int .i64 v.chg, .int .i64 v.act, .int .i64 v.ty.base, .bool v.ty.k, .bool v.ty.l, .bool v.ty.x, .int .u64 v.sum, .int .i64 v.size, .string v.frm, .int .i64 v.fnum] 36)).alloc (.cells #[.string ⟨#[]⟩, .int .i64 0, .int .i64 0, .int .i64 0, .int .i64 0, .bool false, .bool false, .bool false, .int .u64 0, .int .i64 0, .string ⟨#[]⟩, .int .i64 0] 36)) (w.heap.size + 1 + 1) 36 [.string ⟨#[]⟩, .int .i64 0, .int .i64 0, .int .i64 0, .int .i64 0, .bool false, .bool false, .bool false, .int .u64 0, .int .i64 0, .string ⟨#[]⟩, .int .i64 0] := by
    have h1 := blk_new ((w.alloc (.cells #[.slice Ar revs.length cr, dr] 28)).alloc (.cells #[.string v.path, .int .i64 v.num, .int .i64 v.chg, .int .i64 v.act, .int .i64 v.ty.base, .bool v.ty.k, .bool v.ty.l, .bool v.ty.x, .int .u64 v.sum, .int .i64 v.size, .string v.frm, .int .i64 v.fnum] 36)) [.string ⟨#[]⟩, .int .i64 0, .int .i64 0, .int .i64 0, .int .i64 0, .bool false, .bool false, .bool false, .int .u64 0, .int .i64 0, .string ⟨#[]⟩, .int .i64 0] 36
    simp only [World.size_alloc] at h1
    exact h1
  have hV : Blk (((w.alloc (.cells #[.slice Ar revs.length cr, dr] 28)).alloc (.cells #[.string v.path, .int .i64 v.num, .int .i64 v.chg, .int .i64 v.act, .int .i64 v.ty.base, .bool v.ty.k, .bool v.ty.l, .bool v.ty.x, .int .u64 v.sum, .int .i64 v.size, .string v.frm, .int .i64 v.fnum] 36)).alloc (.cells #[.string ⟨#[]⟩, .int .i64 0, .int .i64 0, .int .i64 0, .int .i64 0, .bool false, .bool false, .bool false, .int .u64 0, .int .i64 0, .string ⟨#[]⟩, .int .i64 0] 36)) (w.heap.size + 1) 36 [.string v.path, .int .i64 v.num, .int .i64 v.chg, .int .i64 v.act, .int .i64 v.ty.base, .bool v.ty.k, .bool v.ty.l, .bool v.ty.x, .int .u64 v.sum, .int .i64 v.size, .string v.frm, .int .i64 v.fnum] := by
    have h1 := (blk_new (w.alloc (.cells #[.slice Ar revs.length cr, dr] 28)) [.string v.path, .int .i64 v.num, .int .i64 v.chg, .int .i64 v.act, .int .i64 v.ty.base, .bool v.ty.k, .bool v.ty.l, .bool v.ty.x, .int .u64 v.sum, .int .i64 v.size, .string v.frm, .int .i64 v.fnum] 36).alloc (.cells #[.string ⟨#[]⟩, .int .i64 0, .int .i64 0, .int .i64 0, .int .i64 0, .bool false, .bool false, .bool false, .int .u64 0, .int .i64 0, .string ⟨#[]⟩, .int .i64 0] 36)
    simp only [World.size_alloc] at h1
    exact h1
  have hB : Blk (((w.alloc (.cells #[.slice Ar revs.length cr, dr] 28)).alloc (.cells #[.string v.path, .int .i64 v.num, .int .i64 v.chg, .int .i64 v.act, .int .i64 v.ty.base, .bool v.ty.k, .bool v.ty.l, .bool v.ty.x, .int .u64 v.sum, .int .i64 v.size, .string v.frm, .int .i64 v.fnum] 36)).alloc (.cells #[.string ⟨#[]⟩, .int .i64 0, .int .i64 0, .int .i64 0, .int .i64 0, .bool false, .bool false, .bool false, .int .u64 0, .int .i64 0, .string ⟨#[]⟩, .int .i64 0] 36)) w.heap.size 28 [.slice Ar revs.length cr, dr] := ((blk_new w _ _).alloc _).alloc _
  have n0 : 0 ≤ v.num := hn.1
  have n1 : v.num ≤ 1000000 := hn.2
  clear hn
  have HG := Lib.hid (fun p m X (hX : Below w.heap.size w X) => refGet_any revs p m (.slice Ar revs.length cr) dr X (HR.out.below hX) hl)
  go_enter Tryz.func123, Tryz.ntmps123
  go_upto_region 1 with fail
  generalize ((w.alloc (.cells #[.slice Ar revs.length cr, dr] 28)).alloc (.cells #[.string v.path, .int .i64 v.num, .int .i64 v.chg, .int .i64 v.act, .int .i64 v.ty.base, .bool v.ty.k, .bool v.ty.l, .bool v.ty.x, .int .u64 v.sum, .int .i64 v.size, .string v.frm, .int .i64 v.fnum] 36)).alloc (.cells #[.string ⟨#[]⟩, .int .i64 0, .int .i64 0, .int .i64 0, .int .i64 0, .bool false, .bool false, .bool false, .int .u64 0, .int .i64 0, .string ⟨#[]⟩, .int .i64 0] 36) = W1 at hb0 hZ hV hB ⊢
  obtain ⟨d0, d1, -, -⟩ := box2 hB
  obtain ⟨c0, c1, c2, c3, c4, c5, c6, c7, c8, c9, c10, c11⟩ := box12 hV
  have Hb0 := Lib.hid hb0
  have HZ := Lib.hid hZ
  have HG1 := Lib.hid (fun p m => HG.out p m W1 Hb0.out)
  clear hb0 hZ hV hB
  by_cases h1 : v.act = 1
  · have q : (v.act == 1) = true := by simpa using h1
    have HN : Hid (rPrev revs v = none) := Lib.hid (by unfold rPrev; rw [if_pos h1])
    obtain ⟨z0, z1, z2, z3, z4, z5, z6, z7, z8, z9, z10, z11⟩ := box12 HZ.out
    obtain ⟨y0, y1, y2, y3, y4, y5, y6, y7, y8, y9, y10, y11⟩ := frz12 HZ.out
    clear h1
    go_wp2_with fail
    have hZ9 : Blk ((((((((((((W1.setCell ⟨w.heap.size + 1 + 1, 0, none⟩ (.string ⟨#[]⟩)).setCell ⟨w.heap.size + 1 + 1, 1, none⟩ (.int .i64 0)).setCell ⟨w.heap.size + 1 + 1, 2, none⟩ (.int .i64 0)).setCell ⟨w.heap.size + 1 + 1, 3, none⟩ (.int .i64 0)).setCell ⟨w.heap.size + 1 + 1, 4, none⟩ (.int .i64 0)).setCell ⟨w.heap.size + 1 + 1, 5, none⟩ (.bool false)).setCell ⟨w.heap.size + 1 + 1, 6, none⟩ (.bool false)).setCell ⟨w.heap.size + 1 + 1, 7, none⟩ (.bool false)).setCell ⟨w.heap.size + 1 + 1, 8, none⟩ (.int .u64 0)).setCell ⟨w.heap.size + 1 + 1, 9, none⟩ (.int .i64 0)).setCell ⟨w.heap.size + 1 + 1, 10, none⟩ (.string ⟨#[]⟩)).setCell ⟨w.heap.size + 1 + 1, 11, none⟩ (.int .i64 0)) (w.heap.size + 1 + 1) 36 [.string ⟨#[]⟩, .int .i64 0, .int .i64 0, .int .i64 0, .int .i64 0, .bool false, .bool false, .bool false, .int .u64 0, .int .i64 0, .string ⟨#[]⟩, .int .i64 0] := set12 HZ.out zeroRev
    have hB9 : Below w.heap.size w ((((((((((((W1.setCell ⟨w.heap.size + 1 + 1, 0, none⟩ (.string ⟨#[]⟩)).setCell ⟨w.heap.size + 1 + 1, 1, none⟩ (.int .i64 0)).setCell ⟨w.heap.size + 1 + 1, 2, none⟩ (.int .i64 0)).setCell ⟨w.heap.size + 1 + 1, 3, none⟩ (.int .i64 0)).setCell ⟨w.heap.size + 1 + 1, 4, none⟩ (.int .i64 0)).setCell ⟨w.heap.size + 1 + 1, 5, none⟩ (.bool false)).setCell ⟨w.heap.size + 1 + 1, 6, none⟩ (.bool false)).setCell ⟨w.heap.size + 1 + 1, 7, none⟩ (.bool false)).setCell ⟨w.heap.size + 1 + 1, 8, none⟩ (.int .u64 0)).setCell ⟨w.heap.size + 1 + 1, 9, none⟩ (.int .i64 0)).setCell ⟨w.heap.size + 1 + 1, 10, none⟩ (.string ⟨#[]⟩)).setCell ⟨w.heap.size + 1 + 1, 11, none⟩ (.int .i64 0)) := below12 Hb0.out (show w.heap.size ≤ w.heap.size + 1 + 1 by omega) zeroRev
    generalize ((((((((((((W1.setCell ⟨w.heap.size + 1 + 1, 0, none⟩ (.string ⟨#[]⟩)).setCell ⟨w.heap.size + 1 + 1, 1, none⟩ (.int .i64 0)).setCell ⟨w.heap.size + 1 + 1, 2, none⟩ (.int .i64 0)).setCell ⟨w.heap.size + 1 + 1, 3, none⟩ (.int .i64 0)).setCell ⟨w.heap.size + 1 + 1, 4, none⟩ (.int .i64 0)).setCell ⟨w.heap.size + 1 + 1, 5, none⟩ (.bool false)).setCell ⟨w.heap.size + 1 + 1, 6, none⟩ (.bool false)).setCell ⟨w.heap.size + 1 + 1, 7, none⟩ (.bool false)).setCell ⟨w.heap.size + 1 + 1, 8, none⟩ (.int .u64 0)).setCell ⟨w.heap.size + 1 + 1, 9, none⟩ (.int .i64 0)).setCell ⟨w.heap.size + 1 + 1, 10, none⟩ (.string ⟨#[]⟩)).setCell ⟨w.heap.size + 1 + 1, 11, none⟩ (.int .i64 0)) = W9 at hZ9 hB9 ⊢
    obtain ⟨e0, e1, e2, e3, e4, e5, e6, e7, e8, e9, e10, e11⟩ := box12 hZ9
    exact bodyPost_ret (v := .tuple #[.agg #[.string ⟨#[]⟩, .int .i64 0, .int .i64 0, .int .i64 0, .int .i64 0, .bool false, .bool false, .bool false, .int .u64 0, .int .i64 0, .string ⟨#[]⟩, .int .i64 0], .bool false]) (by simp [results, Tryz.results123, go_sem, e0, e1, e2, e3, e4, e5, e6, e7, e8, e9, e10, e11]) rfl ⟨by rw [HN.out]; rfl, hB9⟩
  · have q : (v.act == 1) = false := by simpa using h1
    by_cases h4 : v.act = 4
    · have q4 : (v.act == 4) = true := by simpa using h4
      have HN : Hid (rPrev revs v = rGet revs v.frm v.fnum) := Lib.hid (by unfold rPrev; rw [if_neg h1, if_pos h4])
      have HG2 := Lib.hid (HG1.out v.frm v.fnum)
      clear h1 h4
      go_wp2_with fail
      refine HG2.out.mono ?_
      rintro e w2 ⟨rfl, hb2⟩
      have hZ2 := HZ.out.below hb2 HZ.out.lt
      obtain ⟨z0, z1, z2, z3, z4, z5, z6, z7, z8, z9, z10, z11⟩ := box12 hZ2
      obtain ⟨y0, y1, y2, y3, y4, y5, y6, y7, y8, y9, y10, y11⟩ := frz12 hZ2
      have HB2 := Lib.hid hb2
      clear hb2 d0 d1 c0 c1 c2 c3 c4 c5 c6 c7 c8 c9 c10 c11
      generalize rGet revs v.frm v.fnum = o at HN ⊢
      generalize hso : someR o = r
      have HSO := Lib.hid hso
      clear hso
      go_wp2_with fail
      have hZ9 := set12 hZ2 r
      have hB9 := below12 (below_next Hb0.out HB2.out) (show w.heap.size ≤ w.heap.size + 1 + 1 by omega) r
      generalize ((((((((((((w2.setCell ⟨w.heap.size + 1 + 1, 0, none⟩ (.string r.path)).setCell ⟨w.heap.size + 1 + 1, 1, none⟩ (.int .i64 r.num)).setCell ⟨w.heap.size + 1 + 1, 2, none⟩ (.int .i64 r.chg)).setCell ⟨w.heap.size + 1 + 1, 3, none⟩ (.int .i64 r.act)).setCell ⟨w.heap.size + 1 + 1, 4, none⟩ (.int .i64 r.ty.base)).setCell ⟨w.heap.size + 1 + 1, 5, none⟩ (.bool r.ty.k)).setCell ⟨w.heap.size + 1 + 1, 6, none⟩ (.bool r.ty.l)).setCell ⟨w.heap.size + 1 + 1, 7, none⟩ (.bool r.ty.x)).setCell ⟨w.heap.size + 1 + 1, 8, none⟩ (.int .u64 r.sum)).setCell ⟨w.heap.size + 1 + 1, 9, none⟩ (.int .i64 r.size)).setCell ⟨w.heap.size + 1 + 1, 10, none⟩ (.string r.frm)).setCell ⟨w.heap.size + 1 + 1, 11, none⟩ (.int .i64 r.fnum)) = W9 at hZ9 hB9 ⊢
      obtain ⟨e0, e1, e2, e3, e4, e5, e6, e7, e8, e9, e10, e11⟩ := box12 hZ9
      exact bodyPost_ret (v := .tuple #[.agg #[.string r.path, .int .i64 r.num, .int .i64 r.chg, .int .i64 r.act, .int .i64 r.ty.base, .bool r.ty.k, .bool r.ty.l, .bool r.ty.x, .int .u64 r.sum, .int .i64 r.size, .string r.frm, .int .i64 r.fnum], .bool o.isSome]) (by simp [results, Tryz.results123, go_sem, e0, e1, e2, e3, e4, e5, e6, e7, e8, e9, e10, e11]) rfl ⟨by rw [HN.out, HSO.out], hB9⟩
    · have q4 : (v.act == 4) = false := by simpa using h4
      have HN : Hid (rPrev revs v = rGet revs v.path (v.num - 1)) := Lib.hid (by unfold rPrev; rw [if_neg h1, if_neg h4])
      have HG2 := Lib.hid (HG1.out v.path (v.num - 1))
      clear h1 h4
      go_wp2_with fail
      refine HG2.out.mono ?_
      rintro e w2 ⟨rfl, hb2⟩
      have hZ2 := HZ.out.below hb2 HZ.out.lt
      obtain ⟨z0, z1, z2, z3, z4, z5, z6, z7, z8, z9, z10, z11⟩ := box12 hZ2
      obtain ⟨y0, y1, y2, y3, y4, y5, y6, y7, y8, y9, y10, y11⟩ := frz12 hZ2
      have HB2 := Lib.hid hb2
      clear hb2 d0 d1 c0 c1 c2 c3 c4 c5 c6 c7 c8 c9 c10 c11
      generalize rGet revs v.path (v.num - 1) = o at HN ⊢
      generalize hso : someR o = r
      have HSO := Lib.hid hso
      clear hso
      go_wp2_with fail
      have hZ9 := set12 hZ2 r
      have hB9 := below12 (below_next Hb0.out HB2.out) (show w.heap.size ≤ w.heap.size + 1 + 1 by omega) r
      generalize ((((((((((((w2.setCell ⟨w.heap.size + 1 + 1, 0, none⟩ (.string r.path)).setCell ⟨w.heap.size + 1 + 1, 1, none⟩ (.int .i64 r.num)).setCell ⟨w.heap.size + 1 + 1, 2, none⟩ (.int .i64 r.chg)).setCell ⟨w.heap.size + 1 + 1, 3, none⟩ (.int .i64 r.act)).setCell ⟨w.heap.size + 1 + 1, 4, none⟩ (.int .i64 r.ty.base)).setCell ⟨w.heap.size + 1 + 1, 5, none⟩ (.bool r.ty.k)).setCell ⟨w.heap.size + 1 + 1, 6, none⟩ (.bool r.ty.l)).setCell ⟨w.heap.size + 1 + 1, 7, none⟩ (.bool r.ty.x)).setCell ⟨w.heap.size + 1 + 1, 8, none⟩ (.int .u64 r.sum)).setCell ⟨w.heap.size + 1 + 1, 9, none⟩ (.int .i64 r.size)).setCell ⟨w.heap.size + 1 + 1, 10, none⟩ (.string r.frm)).setCell ⟨w.heap.size + 1 + 1, 11, none⟩ (.int .i64 r.fnum)) = W9 at hZ9 hB9 ⊢
      obtain ⟨e0, e1, e2, e3, e4, e5, e6, e7, e8, e9, e10, e11⟩ := box12 hZ9
      exact bodyPost_ret (v := .tuple #[.agg #[.string r.path, .int .i64 r.num, .int .i64 r.chg, .int .i64 r.act, .int .i64 r.ty.base, .bool r.ty.k, .bool r.ty.l, .bool r.ty.x, .int .u64 r.sum, .int .i64 r.size, .string r.frm, .int .i64 r.fnum], .bool o.isSome]) (by simp [results, Tryz.results123, go_sem, e0, e1, e2, e3, e4, e5, e6, e7, e8, e9, e10, e11]) rfl ⟨by rw [HN.out, HSO.out], hB9⟩

/-- The state of First's loop: the line is still to be followed from v'. -/
structure FiSt (revs : List Rev) (v : Rev) (w wr : World) (dv dr : Value) (k : Nat) (v' : Rev) : Prop where
  bel : Below w.heap.size w wr
  boxD : Blk wr w.heap.size 28 [dv, dr]
  box3 : Blk wr (w.heap.size + 1) 36 [.string v'.path, .int .i64 v'.num, .int .i64 v'.chg, .int .i64 v'.act, .int .i64 v'.ty.base, .bool v'.ty.k, .bool v'.ty.l, .bool v'.ty.x, .int .u64 v'.sum, .int .i64 v'.size, .string v'.frm, .int .i64 v'.fnum]
  box4 : Blk wr (w.heap.size + 1 + 1) 92 [.string ⟨#[]⟩, .int .i64 0]
  eq : rFirst revs v' = rFirst revs v
  num : 0 ≤ v'.num ∧ v'.num ≤ 1000000
  left : revs.countP (fun x => decide (x.chg < v'.chg)) ≤ k
theorem FiSt.under {revs : List Rev} {v v' : Rev} {w wr X : World} {dv dr : Value} {k : Nat} (h : FiSt revs v w wr dv dr k v') (hX : Below wr.heap.size wr X) : FiSt revs v w X dv dr k v' :=
  ⟨below_next h.bel hX, h.boxD.below hX h.boxD.lt, h.box3.below hX h.box3.lt, h.box4.below hX h.box4.lt, h.eq, h.num, h.left⟩
set_option maxRecDepth 100000 in
set_option maxHeartbeats 4000000 in
theorem refFirst_any (revs : List Rev) (v : Rev) (dv dr : Value) (w : World) (hR : Revs w dv revs) (hl : revs.length ≤ 1000000) (hn : 0 ≤ v.num ∧ v.num ≤ 1000000) (hns : ∀ r ∈ revs, 0 ≤ r.num ∧ r.num ≤ 1000000) :
    Calls Tryz.prog 122 #[.agg #[dv, dr], .agg #[.string v.path, .int .i64 v.num, .int .i64 v.chg, .int .i64 v.act, .int .i64 v.ty.base, .bool v.ty.k, .bool v.ty.l, .bool v.ty.x, .int .u64 v.sum, .int .i64 v.size, .string v.frm, .int .i64 v.fnum]] w fun e w' => e = .returned (.agg #[.string (rFirst revs v).1, .int .i64 (rFirst revs v).2]) ∧ Below w.heap.size w w' := by
  obtain ⟨Ar, cr, rfl, -⟩ := id hR
  have HR := Lib.hid hR
  have HNS := Lib.hid hns
  clear hR hns
  have hb0 : Below w.heap.size w (((w.alloc (.cells #[.slice Ar revs.length cr, dr] 28)).alloc (.cells #[.string v.path, .int .i64 v.num, .int .i64 v.chg, .int .i64 v.act, .int .i64 v.ty.base, .bool v.ty.k, .bool v.ty.l, .bool v.ty.x, .int .u64 v.sum, .int .i64 v.size, .string v.frm, .int .i64 v.fnum] 36)).alloc (.cells #[.string ⟨#[]⟩, .int .i64 0] 92)) := (((Below.refl _ _).alloc (Nat.le_refl _) _).alloc (by simp) _).alloc (by simp; omega) _
  have hZ : Blk (((w.alloc (.cells #[.slice Ar revs.length cr, dr] 28)).alloc (.cells #[.string v.path, .int .i64 v.num, .int .i64 v.chg, .int .i64 v.act, .int .i64 v.ty.base, .bool v.ty.k, .bool v.ty.l, .bool v.ty.x, .int .u64 v.sum, .int .i64 v.size, .string v.frm, .int .i64 v.fnum] 36)).alloc (.cells #[.string ⟨#[]⟩, .int .i64 0] 92)) (w.heap.size + 1 + 1) 92 [.string ⟨#[]⟩, .int .i64 0] := by
    have h1 := blk_new ((w.alloc (.cells #[.slice Ar revs.length cr, dr] 28)).alloc (.cells #[.string v.path, .int .i64 v.num, .int .i64 v.chg, .int .i64 v.act, .int .i64 v.ty.base, .bool v.ty.k, .bool v.ty.l, .bool v.ty.x, .int .u64 v.sum, .int .i64 v.size, .string v.frm, .int .i64 v.fnum] 36)) [.string ⟨#[]⟩, .int .i64 0] 92
    simp only [World.size_alloc] at h1
    exact h1
  have hV : Blk (((w.alloc (.cells #[.slice Ar revs.length cr, dr] 28)).alloc (.cells #[.string v.path, .int .i64 v.num, .int .i64 v.chg, .int .i64 v.act, .int .i64 v.ty.base, .bool v.ty.k, .bool v.ty.l, .bool v.ty.x, .int .u64 v.sum, .int .i64 v.size, .string v.frm, .int .i64 v.fnum] 36)).alloc (.cells #[.string ⟨#[]⟩, .int .i64 0] 92)) (w.heap.size + 1) 36 [.string v.path, .int .i64 v.num, .int .i64 v.chg, .int .i64 v.act, .int .i64 v.ty.base, .bool v.ty.k, .bool v.ty.l, .bool v.ty.x, .int .u64 v.sum, .int .i64 v.size, .string v.frm, .int .i64 v.fnum] := by
    have h1 := (blk_new (w.alloc (.cells #[.slice Ar revs.length cr, dr] 28)) [.string v.path, .int .i64 v.num, .int .i64 v.chg, .int .i64 v.act, .int .i64 v.ty.base, .bool v.ty.k, .bool v.ty.l, .bool v.ty.x, .int .u64 v.sum, .int .i64 v.size, .string v.frm, .int .i64 v.fnum] 36).alloc (.cells #[.string ⟨#[]⟩, .int .i64 0] 92)
    simp only [World.size_alloc] at h1
    exact h1
  have hB : Blk (((w.alloc (.cells #[.slice Ar revs.length cr, dr] 28)).alloc (.cells #[.string v.path, .int .i64 v.num, .int .i64 v.chg, .int .i64 v.act, .int .i64 v.ty.base, .bool v.ty.k, .bool v.ty.l, .bool v.ty.x, .int .u64 v.sum, .int .i64 v.size, .string v.frm, .int .i64 v.fnum] 36)).alloc (.cells #[.string ⟨#[]⟩, .int .i64 0] 92)) w.heap.size 28 [.slice Ar revs.length cr, dr] := ((blk_new w _ _).alloc _).alloc _
  have HS0 : Hid (FiSt revs v w (((w.alloc (.cells #[.slice Ar revs.length cr, dr] 28)).alloc (.cells #[.string v.path, .int .i64 v.num, .int .i64 v.chg, .int .i64 v.act, .int .i64 v.ty.base, .bool v.ty.k, .bool v.ty.l, .bool v.ty.x, .int .u64 v.sum, .int .i64 v.size, .string v.frm, .int .i64 v.fnum] 36)).alloc (.cells #[.string ⟨#[]⟩, .int .i64 0] 92)) (.slice Ar revs.length cr) dr (revs.countP (fun x => decide (x.chg < v.chg))) v) := Lib.hid ⟨hb0, hB, hV, hZ, rfl, hn, Nat.le_refl _⟩
  clear hb0 hZ hV hB hn
  go_enter Tryz.func122, Tryz.ntmps122
  go_wp2_with fail
  generalize ((w.alloc (.cells #[.slice Ar revs.length cr, dr] 28)).alloc (.cells #[.string v.path, .int .i64 v.num, .int .i64 v.chg, .int .i64 v.act, .int .i64 v.ty.base, .bool v.ty.k, .bool v.ty.l, .bool v.ty.x, .int .u64 v.sum, .int .i64 v.size, .string v.frm, .int .i64 v.fnum] 36)).alloc (.cells #[.string ⟨#[]⟩, .int .i64 0] 92) = W1 at HS0 ⊢
  go_loopg [] (revs.countP (fun x => decide (x.chg < v.chg))) (fun k wr => ∃ v', Hid (FiSt revs v w wr (.slice Ar revs.length cr) dr k v'))
  case atStart => exact ⟨v, HS0.out⟩
  case round =>
    obtain ⟨v', HS⟩ := hrel
    clear HS0
    have HPV := Lib.hid (refPrev_any revs v' (.slice Ar revs.length cr) dr wr (HR.out.below HS.out.bel) hl HS.out.num)
    obtain ⟨d0, d1, -, -⟩ := box2 HS.out.boxD
    obtain ⟨c0, c1, c2, c3, c4, c5, c6, c7, c8, c9, c10, c11⟩ := box12 HS.out.box3
    have HP1 : Hid (rPrev revs v' = none → rFirst revs v' = (v'.path, v'.num)) := Lib.hid rFirst_none
    have HP2 : Hid (∀ u, rPrev revs v' = some u → (u ∈ revs ∧ (u.chg < v'.chg → rFirst revs v' = rFirst revs u) ∧ (¬ u.chg < v'.chg → rFirst revs v' = (v'.path, v'.num)))) := Lib.hid (fun u hu => ⟨rPrev_mem hu, fun h => rFirst_some hu h, fun h => rFirst_stop hu h⟩)
    go_wp2_with fail
    refine HPV.out.mono ?_
    rintro e w2 ⟨rfl, hb2⟩
    clear d0 d1 c0 c1 c2 c3 c4 c5 c6 c7 c8 c9 c10 c11 HPV
    have HB2 := Lib.hid hb2
    clear hb2
    generalize rPrev revs v' = o at HP1 HP2 ⊢
    cases o with
    | none =>
      have HFI : Hid (rFirst revs v = (v'.path, v'.num)) := Lib.hid (by rw [← HS.out.eq]; exact HP1.out rfl)
      have hY := blk_new w2 [.string (someR none).path, .int .i64 (someR none).num, .int .i64 (someR none).chg, .int .i64 (someR none).act, .int .i64 (someR none).ty.base, .bool (someR none).ty.k, .bool (someR none).ty.l, .bool (someR none).ty.x, .int .u64 (someR none).sum, .int .i64 (someR none).size, .string (someR none).frm, .int .i64 (someR none).fnum] 36
      have hA5 : Below wr.heap.size wr (w2.alloc (.cells #[.string (someR none).path, .int .i64 (someR none).num, .int .i64 (someR none).chg, .int .i64 (someR none).act, .int .i64 (someR none).ty.base, .bool (someR none).ty.k, .bool (someR none).ty.l, .bool (someR none).ty.x, .int .u64 (someR none).sum, .int .i64 (someR none).size, .string (someR none).frm, .int .i64 (someR none).fnum] 36)) := below_alloc' HB2.out _
      go_upto_region 2 with fail
      generalize w2.alloc (.cells #[.string (someR none).path, .int .i64 (someR none).num, .int .i64 (someR none).chg, .int .i64 (someR none).act, .int .i64 (someR none).ty.base, .bool (someR none).ty.k, .bool (someR none).ty.l, .bool (someR none).ty.x, .int .u64 (someR none).sum, .int .i64 (someR none).size, .string (someR none).frm, .int .i64 (someR none).fnum] 36) = V3 at hY hA5 ⊢
      have HS3 := Lib.hid (HS.out.under hA5)
      obtain ⟨c0, c1, c2, c3, c4, c5, c6, c7, c8, c9, c10, c11⟩ := box12 HS3.out.box3
      obtain ⟨z0, z1, y0, y1⟩ := box2 HS3.out.box4
      clear hY hA5
      go_wp2_with fail
      have hZ9 := (HS3.out.box4.set_ 0 (.string v'.path)).set_ 1 (.int .i64 v'.num)
      have hB9 := (HS3.out.bel.setCell (p := ⟨w.heap.size + 1 + 1, 0, none⟩) (by simp; omega) (.string v'.path)).setCell (p := ⟨w.heap.size + 1 + 1, 1, none⟩) (by simp; omega) (.int .i64 v'.num)
      generalize (V3.setCell ⟨w.heap.size + 1 + 1, 0, none⟩ (.string v'.path)).setCell ⟨w.heap.size + 1 + 1, 1, none⟩ (.int .i64 v'.num) = W9 at hZ9 hB9 ⊢
      obtain ⟨e0, e1, -, -⟩ := box2 hZ9
      exact bodyPost_ret (v := .agg #[.string v'.path, .int .i64 v'.num]) (by simp [results, Tryz.results122, go_sem, e0, e1]) rfl ⟨by rw [HFI.out], hB9⟩
    | some u =>
      obtain ⟨hum, hu1, hu2⟩ := HP2.out u rfl
      have HUM := Lib.hid (HNS.out u hum)
      have HCN := Lib.hid (fun h : u.chg < v'.chg => chg_count hum h)
      have hY := blk_new w2 [.string u.path, .int .i64 u.num, .int .i64 u.chg, .int .i64 u.act, .int .i64 u.ty.base, .bool u.ty.k, .bool u.ty.l, .bool u.ty.x, .int .u64 u.sum, .int .i64 u.size, .string u.frm, .int .i64 u.fnum] 36
      have hA5 : Below wr.heap.size wr (w2.alloc (.cells #[.string u.path, .int .i64 u.num, .int .i64 u.chg, .int .i64 u.act, .int .i64 u.ty.base, .bool u.ty.k, .bool u.ty.l, .bool u.ty.x, .int .u64 u.sum, .int .i64 u.size, .string u.frm, .int .i64 u.fnum] 36)) := below_alloc' HB2.out _
      have hsu : someR (some u) = u := rfl
      go_upto_region 2 with fail
      clear hsu
      generalize w2.alloc (.cells #[.string u.path, .int .i64 u.num, .int .i64 u.chg, .int .i64 u.act, .int .i64 u.ty.base, .bool u.ty.k, .bool u.ty.l, .bool u.ty.x, .int .u64 u.sum, .int .i64 u.size, .string u.frm, .int .i64 u.fnum] 36) = V3 at hY hA5 ⊢
      have HS3 := Lib.hid (HS.out.under hA5)
      obtain ⟨c0, c1, c2, c3, c4, c5, c6, c7, c8, c9, c10, c11⟩ := box12 HS3.out.box3
      obtain ⟨b0, b1, b2, b3, b4, b5, b6, b7, b8, b9, b10, b11⟩ := box12 hY
      by_cases hc : u.chg < v'.chg
      · have q : decide (v'.chg ≤ u.chg) = false := by simp; omega
        have HE : Hid (rFirst revs u = rFirst revs v) := Lib.hid (by rw [← hu1 hc]; exact HS.out.eq)
        have HLT := Lib.hid (HCN.out hc)
        obtain ⟨f0, f1, f2, f3, f4, f5, f6, f7, f8, f9, f10, f11⟩ := frz12 HS3.out.box3
        clear hY hA5 hu1 hu2 hum hc
        go_wp2_with fail
        have hV9 := set12 HS3.out.box3 u
        have hB9 := below12 HS3.out.bel (show w.heap.size ≤ w.heap.size + 1 by omega) u
        have hD9 := far12 HS3.out.boxD (show w.heap.size + 1 ≠ w.heap.size by omega) u
        have hF9 := far12 HS3.out.box4 (show w.heap.size + 1 ≠ w.heap.size + 1 + 1 by omega) u
        go_roundg (gk - 1)
        case measure => have h1 := HLT.out; have h2 := HS3.out.left; omega
        case rel => exact ⟨u, hB9, hD9, hV9, hF9, HE.out, HUM.out, by have h1 := HLT.out; have h2 := HS3.out.left; omega⟩
      · have q : decide (v'.chg ≤ u.chg) = true := by simp; omega
        have HFI : Hid (rFirst revs v = (v'.path, v'.num)) := Lib.hid (by rw [← HS.out.eq]; exact hu2 (by omega))
        obtain ⟨z0, z1, y0, y1⟩ := box2 HS3.out.box4
        clear hY hA5 hu1 hu2 hum hc
        go_wp2_with fail
        have hZ9 := (HS3.out.box4.set_ 0 (.string v'.path)).set_ 1 (.int .i64 v'.num)
        have hB9 := (HS3.out.bel.setCell (p := ⟨w.heap.size + 1 + 1, 0, none⟩) (by simp; omega) (.string v'.path)).setCell (p := ⟨w.heap.size + 1 + 1, 1, none⟩) (by simp; omega) (.int .i64 v'.num)
        generalize (V3.setCell ⟨w.heap.size + 1 + 1, 0, none⟩ (.string v'.path)).setCell ⟨w.heap.size + 1 + 1, 1, none⟩ (.int .i64 v'.num) = W9 at hZ9 hB9 ⊢
        obtain ⟨e0, e1, -, -⟩ := box2 hZ9
        exact bodyPost_ret (v := .agg #[.string v'.path, .int .i64 v'.num]) (by simp [results, Tryz.results122, go_sem, e0, e1]) rfl ⟨by rw [HFI.out], hB9⟩
end Go.Proofs.YtmhmnchdhacdbaaGreatDoor
/- The reference's made, moved, Live: the walks. -/
namespace Go.Proofs.YtmhmnchdhacdbaaGreatDoor
open Go.RowKit
set_option linter.unusedVariables false
set_option linter.unusedSimpArgs false

/-- The revision that an edit makes, by the reference. -/
def madeX (n : Int) (x : Edt) : Rev := ⟨x.path, x.base + 1, n, x.act, x.ty, x.sum, x.size, x.frm, x.fnum⟩
abbrev chgVal (c : Chg) (ev rv : Value) : Value := .agg #[.int .i64 c.num, .string c.client, .string c.text, ev, rv]
set_option maxRecDepth 100000 in
set_option maxHeartbeats 4000000 in
theorem refMade_any (num : Int) (cl tx : ByteArray) (Ae Ac : Option Addr) (ne nc ce cc : Nat) (x : Edt) (w : World) (hb : 0 ≤ x.base ∧ x.base ≤ 1000000) :
    Calls Tryz.prog 58 #[.agg #[.int .i64 num, .string cl, .string tx, .slice Ae ne ce, .slice Ac nc cc], .agg #[.string x.path, .int .i64 x.act, .int .i64 x.ty.base, .bool x.ty.k, .bool x.ty.l, .bool x.ty.x, .int .u64 x.sum, .int .i64 x.size, .int .i64 x.base, .string x.frm, .int .i64 x.fnum, .int .i64 x.fence]] w fun e w' => e = .returned (.agg #[.string (madeX num x).path, .int .i64 (madeX num x).num, .int .i64 (madeX num x).chg, .int .i64 (madeX num x).act, .int .i64 (madeX num x).ty.base, .bool (madeX num x).ty.k, .bool (madeX num x).ty.l, .bool (madeX num x).ty.x, .int .u64 (madeX num x).sum, .int .i64 (madeX num x).size, .string (madeX num x).frm, .int .i64 (madeX num x).fnum]) ∧ Below w.heap.size w w' := by
  have hb0 : Below w.heap.size w (((w.alloc (.cells #[.int .i64 num, .string cl, .string tx, .slice Ae ne ce, .slice Ac nc cc] 56)).alloc (.cells #[.string x.path, .int .i64 x.act, .int .i64 x.ty.base, .bool x.ty.k, .bool x.ty.l, .bool x.ty.x, .int .u64 x.sum, .int .i64 x.size, .int .i64 x.base, .string x.frm, .int .i64 x.fnum, .int .i64 x.fence] 58)).alloc (.cells #[.string ⟨#[]⟩, .int .i64 0, .int .i64 0, .int .i64 0, .int .i64 0, .bool false, .bool false, .bool false, .int .u64 0, .int .i64 0, .string ⟨#[]⟩, .int .i64 0] 36)) := (((Below.refl _ _).alloc (Nat.le_refl _) _).alloc (by simp) _).alloc (by simp; omega) _
  have hZ : Blk (((w.alloc (.cells #[.int .i64 num, .string cl, .string tx, .slice Ae ne ce, .slice Ac nc cc] 56)).alloc (.cells #[.string x.path, .int .i64 x.act, .int .i64 x.ty.base, .bool x.ty.k, .bool x.ty.l, .bool x.ty.x, .int .u64 x.sum, .int .i64 x.size, .int .i64 x.base, .string x.frm, .int .i64 x.fnum, .int .i64 x.fence] 58)).alloc (.cells #[.string ⟨#[]⟩, .int .i64 0, .int .i64 0, .int .i64 0, .int .i64 0, .bool false, .bool false, .bool false, .int .u64 0, .int .i64 0, .string ⟨#[]⟩, .int .i64 0] 36)) (w.heap.size + 1 + 1) 36 [.string ⟨#[]⟩, .int .i64 0, .int .i64 0, .int .i64 0, .int .i64 0, .bool false, .bool false, .bool false, .int .u64 0, .int .i64 0, .string ⟨#[]⟩, .int .i64 0] := by
    have h1 := blk_new ((w.alloc (.cells #[.int .i64 num, .string cl, .string tx, .slice Ae ne ce, .slice Ac nc cc] 56)).alloc (.cells #[.string x.path, .int .i64 x.act, .int .i64 x.ty.base, .bool x.ty.k, .bool x.ty.l, .bool x.ty.x, .int .u64 x.sum, .int .i64 x.size, .int .i64 x.base, .string x.frm, .int .i64 x.fnum, .int .i64 x.fence] 58)) [.string ⟨#[]⟩, .int .i64 0, .int .i64 0, .int .i64 0, .int .i64 0, .bool false, .bool false, .bool false, .int .u64 0, .int .i64 0, .string ⟨#[]⟩, .int .i64 0] 36
    simp only [World.size_alloc] at h1
    exact h1
  have hV : Blk (((w.alloc (.cells #[.int .i64 num, .string cl, .string tx, .slice Ae ne ce, .slice Ac nc cc] 56)).alloc (.cells #[.string x.path, .int .i64 x.act, .int .i64 x.ty.base, .bool x.ty.k, .bool x.ty.l, .bool x.ty.x, .int .u64 x.sum, .int .i64 x.size, .int .i64 x.base, .string x.frm, .int .i64 x.fnum, .int .i64 x.fence] 58)).alloc (.cells #[.string ⟨#[]⟩, .int .i64 0, .int .i64 0, .int .i64 0, .int .i64 0, .bool false, .bool false, .bool false, .int .u64 0, .int .i64 0, .string ⟨#[]⟩, .int .i64 0] 36)) (w.heap.size + 1) 58 [.string x.path, .int .i64 x.act, .int .i64 x.ty.base, .bool x.ty.k, .bool x.ty.l, .bool x.ty.x, .int .u64 x.sum, .int .i64 x.size, .int .i64 x.base, .string x.frm, .int .i64 x.fnum, .int .i64 x.fence] := by
    have h1 := (blk_new (w.alloc (.cells #[.int .i64 num, .string cl, .string tx, .slice Ae ne ce, .slice Ac nc cc] 56)) [.string x.path, .int .i64 x.act, .int .i64 x.ty.base, .bool x.ty.k, .bool x.ty.l, .bool x.ty.x, .int .u64 x.sum, .int .i64 x.size, .int .i64 x.base, .string x.frm, .int .i64 x.fnum, .int .i64 x.fence] 58).alloc (.cells #[.string ⟨#[]⟩, .int .i64 0, .int .i64 0, .int .i64 0, .int .i64 0, .bool false, .bool false, .bool false, .int .u64 0, .int .i64 0, .string ⟨#[]⟩, .int .i64 0] 36)
    simp only [World.size_alloc] at h1
    exact h1
  have hB : Blk (((w.alloc (.cells #[.int .i64 num, .string cl, .string tx, .slice Ae ne ce, .slice Ac nc cc] 56)).alloc (.cells #[.string x.path, .int .i64 x.act, .int .i64 x.ty.base, .bool x.ty.k, .bool x.ty.l, .bool x.ty.x, .int .u64 x.sum, .int .i64 x.size, .int .i64 x.base, .string x.frm, .int .i64 x.fnum, .int .i64 x.fence] 58)).alloc (.cells #[.string ⟨#[]⟩, .int .i64 0, .int .i64 0, .int .i64 0, .int .i64 0, .bool false, .bool false, .bool false, .int .u64 0, .int .i64 0, .string ⟨#[]⟩, .int .i64 0] 36)) w.heap.size 56 [.int .i64 num, .string cl, .string tx, .slice Ae ne ce, .slice Ac nc cc] := ((blk_new w _ _).alloc _).alloc _
  have b0 : 0 ≤ x.base := hb.1
  have b1 : x.base ≤ 1000000 := hb.2
  clear hb
  go_enter Tryz.func58, Tryz.ntmps58
  go_upto_region 1 with fail
  generalize ((w.alloc (.cells #[.int .i64 num, .string cl, .string tx, .slice Ae ne ce, .slice Ac nc cc] 56)).alloc (.cells #[.string x.path, .int .i64 x.act, .int .i64 x.ty.base, .bool x.ty.k, .bool x.ty.l, .bool x.ty.x, .int .u64 x.sum, .int .i64 x.size, .int .i64 x.base, .string x.frm, .int .i64 x.fnum, .int .i64 x.fence] 58)).alloc (.cells #[.string ⟨#[]⟩, .int .i64 0, .int .i64 0, .int .i64 0, .int .i64 0, .bool false, .bool false, .bool false, .int .u64 0, .int .i64 0, .string ⟨#[]⟩, .int .i64 0] 36) = W1 at hb0 hZ hV hB ⊢
  obtain ⟨d0, d1, d2, d3, d4⟩ := box5 hB
  obtain ⟨c0, c1, c2, c3, c4, c5, c6, c7, c8, c9, c10, c11⟩ := box12 hV
  obtain ⟨z0, z1, z2, z3, z4, z5, z6, z7, z8, z9, z10, z11⟩ := box12 hZ
  obtain ⟨y0, y1, y2, y3, y4, y5, y6, y7, y8, y9, y10, y11⟩ := frz12 hZ
  have HZ := Lib.hid hZ
  have Hb0 := Lib.hid hb0
  clear hb0 hZ hV hB
  go_wp2_with fail
  have hZ3 := set12 HZ.out (madeX num x)
  have hB3 := below12 Hb0.out (show w.heap.size ≤ w.heap.size + 1 + 1 by omega) (madeX num x)
  clear d0 d1 d2 d3 d4 c0 c1 c2 c3 c4 c5 c6 c7 c8 c9 c10 c11 z0 z1 z2 z3 z4 z5 z6 z7 z8 z9 z10 z11 y0 y1 y2 y3 y4 y5 y6 y7 y8 y9 y10 y11
  have e : ((((((((((((W1.setCell ⟨w.heap.size + 1 + 1, 0, none⟩ (.string (madeX num x).path)).setCell ⟨w.heap.size + 1 + 1, 1, none⟩ (.int .i64 (madeX num x).num)).setCell ⟨w.heap.size + 1 + 1, 2, none⟩ (.int .i64 (madeX num x).chg)).setCell ⟨w.heap.size + 1 + 1, 3, none⟩ (.int .i64 (madeX num x).act)).setCell ⟨w.heap.size + 1 + 1, 4, none⟩ (.int .i64 (madeX num x).ty.base)).setCell ⟨w.heap.size + 1 + 1, 5, none⟩ (.bool (madeX num x).ty.k)).setCell ⟨w.heap.size + 1 + 1, 6, none⟩ (.bool (madeX num x).ty.l)).setCell ⟨w.heap.size + 1 + 1, 7, none⟩ (.bool (madeX num x).ty.x)).setCell ⟨w.heap.size + 1 + 1, 8, none⟩ (.int .u64 (madeX num x).sum)).setCell ⟨w.heap.size + 1 + 1, 9, none⟩ (.int .i64 (madeX num x).size)).setCell ⟨w.heap.size + 1 + 1, 10, none⟩ (.string (madeX num x).frm)).setCell ⟨w.heap.size + 1 + 1, 11, none⟩ (.int .i64 (madeX num x).fnum)) = ((((((((((((W1.setCell ⟨w.heap.size + 1 + 1, 0, none⟩ (.string ((⟨x.path, x.base + 1, num, x.act, x.ty, x.sum, x.size, x.frm, x.fnum⟩ : Rev)).path)).setCell ⟨w.heap.size + 1 + 1, 1, none⟩ (.int .i64 ((⟨x.path, x.base + 1, num, x.act, x.ty, x.sum, x.size, x.frm, x.fnum⟩ : Rev)).num)).setCell ⟨w.heap.size + 1 + 1, 2, none⟩ (.int .i64 ((⟨x.path, x.base + 1, num, x.act, x.ty, x.sum, x.size, x.frm, x.fnum⟩ : Rev)).chg)).setCell ⟨w.heap.size + 1 + 1, 3, none⟩ (.int .i64 ((⟨x.path, x.base + 1, num, x.act, x.ty, x.sum, x.size, x.frm, x.fnum⟩ : Rev)).act)).setCell ⟨w.heap.size + 1 + 1, 4, none⟩ (.int .i64 ((⟨x.path, x.base + 1, num, x.act, x.ty, x.sum, x.size, x.frm, x.fnum⟩ : Rev)).ty.base)).setCell ⟨w.heap.size + 1 + 1, 5, none⟩ (.bool ((⟨x.path, x.base + 1, num, x.act, x.ty, x.sum, x.size, x.frm, x.fnum⟩ : Rev)).ty.k)).setCell ⟨w.heap.size + 1 + 1, 6, none⟩ (.bool ((⟨x.path, x.base + 1, num, x.act, x.ty, x.sum, x.size, x.frm, x.fnum⟩ : Rev)).ty.l)).setCell ⟨w.heap.size + 1 + 1, 7, none⟩ (.bool ((⟨x.path, x.base + 1, num, x.act, x.ty, x.sum, x.size, x.frm, x.fnum⟩ : Rev)).ty.x)).setCell ⟨w.heap.size + 1 + 1, 8, none⟩ (.int .u64 ((⟨x.path, x.base + 1, num, x.act, x.ty, x.sum, x.size, x.frm, x.fnum⟩ : Rev)).sum)).setCell ⟨w.heap.size + 1 + 1, 9, none⟩ (.int .i64 ((⟨x.path, x.base + 1, num, x.act, x.ty, x.sum, x.size, x.frm, x.fnum⟩ : Rev)).size)).setCell ⟨w.heap.size + 1 + 1, 10, none⟩ (.string ((⟨x.path, x.base + 1, num, x.act, x.ty, x.sum, x.size, x.frm, x.fnum⟩ : Rev)).frm)).setCell ⟨w.heap.size + 1 + 1, 11, none⟩ (.int .i64 ((⟨x.path, x.base + 1, num, x.act, x.ty, x.sum, x.size, x.frm, x.fnum⟩ : Rev)).fnum)) := rfl
  dsimp only at e
  rw [← e]
  generalize ((((((((((((W1.setCell ⟨w.heap.size + 1 + 1, 0, none⟩ (.string (madeX num x).path)).setCell ⟨w.heap.size + 1 + 1, 1, none⟩ (.int .i64 (madeX num x).num)).setCell ⟨w.heap.size + 1 + 1, 2, none⟩ (.int .i64 (madeX num x).chg)).setCell ⟨w.heap.size + 1 + 1, 3, none⟩ (.int .i64 (madeX num x).act)).setCell ⟨w.heap.size + 1 + 1, 4, none⟩ (.int .i64 (madeX num x).ty.base)).setCell ⟨w.heap.size + 1 + 1, 5, none⟩ (.bool (madeX num x).ty.k)).setCell ⟨w.heap.size + 1 + 1, 6, none⟩ (.bool (madeX num x).ty.l)).setCell ⟨w.heap.size + 1 + 1, 7, none⟩ (.bool (madeX num x).ty.x)).setCell ⟨w.heap.size + 1 + 1, 8, none⟩ (.int .u64 (madeX num x).sum)).setCell ⟨w.heap.size + 1 + 1, 9, none⟩ (.int .i64 (madeX num x).size)).setCell ⟨w.heap.size + 1 + 1, 10, none⟩ (.string (madeX num x).frm)).setCell ⟨w.heap.size + 1 + 1, 11, none⟩ (.int .i64 (madeX num x).fnum)) = W3 at hZ3 hB3 ⊢
  obtain ⟨e0, e1, e2, e3, e4, e5, e6, e7, e8, e9, e10, e11⟩ := box12 hZ3
  refine bodyPost_ret (v := .agg #[.string (madeX num x).path, .int .i64 (madeX num x).num, .int .i64 (madeX num x).chg, .int .i64 (madeX num x).act, .int .i64 (madeX num x).ty.base, .bool (madeX num x).ty.k, .bool (madeX num x).ty.l, .bool (madeX num x).ty.x, .int .u64 (madeX num x).sum, .int .i64 (madeX num x).size, .string (madeX num x).frm, .int .i64 (madeX num x).fnum]) (by simp [results, Tryz.results58, go_sem, e0, e1, e2, e3, e4, e5, e6, e7, e8, e9, e10, e11]) rfl ⟨rfl, hB3⟩

def rLiveB (revs : List Rev) (p : ByteArray) : Bool := match rLast revs p with
  | none => false
  | some r => liveA r.act
theorem rLiveB_at {revs : List Rev} {p : ByteArray} : (rLast revs p = none → rLiveB revs p = false) ∧ ∀ r, rLast revs p = some r → rLiveB revs p = liveA r.act := by
  unfold rLiveB
  exact ⟨fun h => by rw [h], fun r h => by rw [h]⟩
set_option maxRecDepth 100000 in
set_option maxHeartbeats 4000000 in
theorem refLive_any (revs : List Rev) (p : ByteArray) (dv dr : Value) (w : World) (hR : Revs w dv revs) (hl : revs.length ≤ 1000000) :
    Calls Tryz.prog 120 #[.agg #[dv, dr], .string p] w fun e w' => e = .returned (.tuple #[.bool (rLiveB revs p), .int .i64 (someR (rLast revs p)).num]) ∧ Below w.heap.size w w' := by
  obtain ⟨Ar, cr, rfl, -⟩ := id hR
  have HR := Lib.hid hR
  clear hR
  have HAT := Lib.hid (@rLiveB_at revs p)
  go_enter Tryz.func120, Tryz.ntmps120
  have hb0 : Below w.heap.size w (w.alloc (.cells #[.slice Ar revs.length cr, dr] 28)) := (Below.refl _ _).alloc (Nat.le_refl _) _
  have hB := blk_new w [.slice Ar revs.length cr, dr] 28
  go_upto_region 1 with fail
  generalize w.alloc (.cells #[.slice Ar revs.length cr, dr] 28) = W1 at hb0 hB ⊢
  obtain ⟨d0, d1, -, -⟩ := box2 hB
  have HLS := Lib.hid (refLast_any revs p (.slice Ar revs.length cr) dr W1 (HR.out.below hb0) hl)
  have Hb0 := Lib.hid hb0
  clear hb0 hB
  go_wp2_with fail
  refine HLS.out.mono ?_
  rintro e w2 ⟨rfl, hb2⟩
  clear d0 d1 HLS
  have HB2 := Lib.hid hb2
  clear hb2
  generalize hro : rLast revs p = o at HAT ⊢
  have HRO := Lib.hid hro
  clear hro
  cases o with
  | none =>
    have HN := Lib.hid (HAT.out.1 rfl)
    have hY := blk_new w2 [.string zeroRev.path, .int .i64 zeroRev.num, .int .i64 zeroRev.chg, .int .i64 zeroRev.act, .int .i64 zeroRev.ty.base, .bool zeroRev.ty.k, .bool zeroRev.ty.l, .bool zeroRev.ty.x, .int .u64 zeroRev.sum, .int .i64 zeroRev.size, .string zeroRev.frm, .int .i64 zeroRev.fnum] 36
    have hA5 : Below w.heap.size w (w2.alloc (.cells #[.string zeroRev.path, .int .i64 zeroRev.num, .int .i64 zeroRev.chg, .int .i64 zeroRev.act, .int .i64 zeroRev.ty.base, .bool zeroRev.ty.k, .bool zeroRev.ty.l, .bool zeroRev.ty.x, .int .u64 zeroRev.sum, .int .i64 zeroRev.size, .string zeroRev.frm, .int .i64 zeroRev.fnum] 36)) := below_next Hb0.out (below_alloc' HB2.out _)
    have hsu : someR none = zeroRev := rfl
    go_upto_region 2 with fail
    clear hsu HAT
    generalize w2.alloc (.cells #[.string zeroRev.path, .int .i64 zeroRev.num, .int .i64 zeroRev.chg, .int .i64 zeroRev.act, .int .i64 zeroRev.ty.base, .bool zeroRev.ty.k, .bool zeroRev.ty.l, .bool zeroRev.ty.x, .int .u64 zeroRev.sum, .int .i64 zeroRev.size, .string zeroRev.frm, .int .i64 zeroRev.fnum] 36) = V3 at hY hA5 ⊢
    obtain ⟨b0, b1, b2, b3, b4, b5, b6, b7, b8, b9, b10, b11⟩ := box12 hY
    have HA5 := Lib.hid hA5
    clear hY hA5
    go_quiet (fail)
    go_wp2_with fail
    go_ret2
    exact ⟨by rw [HN.out, HRO.out]; rfl, below_dN HA5.out _⟩
  | some r =>
    have HN := Lib.hid (HAT.out.2 r rfl)
    have hY := blk_new w2 [.string r.path, .int .i64 r.num, .int .i64 r.chg, .int .i64 r.act, .int .i64 r.ty.base, .bool r.ty.k, .bool r.ty.l, .bool r.ty.x, .int .u64 r.sum, .int .i64 r.size, .string r.frm, .int .i64 r.fnum] 36
    have hA5 : Below w.heap.size w (w2.alloc (.cells #[.string r.path, .int .i64 r.num, .int .i64 r.chg, .int .i64 r.act, .int .i64 r.ty.base, .bool r.ty.k, .bool r.ty.l, .bool r.ty.x, .int .u64 r.sum, .int .i64 r.size, .string r.frm, .int .i64 r.fnum] 36)) := below_next Hb0.out (below_alloc' HB2.out _)
    have hsu : someR (some r) = r := rfl
    go_upto_region 2 with fail
    clear hsu HAT
    generalize w2.alloc (.cells #[.string r.path, .int .i64 r.num, .int .i64 r.chg, .int .i64 r.act, .int .i64 r.ty.base, .bool r.ty.k, .bool r.ty.l, .bool r.ty.x, .int .u64 r.sum, .int .i64 r.size, .string r.frm, .int .i64 r.fnum] 36) = V3 at hY hA5 ⊢
    generalize w2.heap.size = g6 at hY ⊢
    have HY := Lib.hid hY
    have HA5 := Lib.hid hA5
    obtain ⟨b0, b1, b2, b3, b4, b5, b6, b7, b8, b9, b10, b11⟩ := box12 hY
    have HGO := Lib.hid (fun X => refGone_any r X)
    clear hY hA5
    refine wp_region_noPanic ?_
    first
      | go_region_law (go_simp; go_at_call 46; refine (HGO.out _).mono ?_; rintro e w5 ⟨rfl, hX5⟩; have hS5 : Below V3.heap.size V3 w5 := (Below.refl _ _).drew.trans hX5; obtain ⟨k0, k1, k2, k3, k4, k5, k6, k7, k8, k9, k10, k11⟩ := box12 (HY.out.below hS5 HY.out.lt))
      | fail
    all_goals
      refine NoPanic.normal ?_
      go_wp2_with fail
      go_ret2
      exact ⟨by rw [HN.out, HRO.out]; cases liveA r.act <;> rfl, below_next HA5.out hS5⟩
end Go.Proofs.YtmhmnchdhacdbaaGreatDoor
/-
  DERIVED: THE SHELF's CONTRACTS AT THIS DUMP, IN PLAIN WORDS (tools/lay-plain.mjs out of 'TryzShelf.lean', which tools/lay-shelf.mjs wrote): THE SAME DECLARATIONS UNDER THE SAME NAMES: 'import', 'namespace', 'open', 'def', 'theorem' AND NOTHING ELSE: no command of the shelf's: FOR A HAND-IN. Each laying: the table of numbers ('.._ren') and one theorem, a field a fact of the dump's own or the kernel's comparison; each contract: ONE APPLICATION.
-/
namespace Go.Proofs
open Go.Shelf
def Tryz.lays169_ren : Go.Shelf.Ren := ⟨fun | 169 => 72 | n => n, fun | 70 => 109 | 9 => 9 | 0 => 0 | 72 => 112 | 37 => 110 | 127 => 145 | 3 => 3 | 5 => 5 | n => n, fun | n => n⟩
theorem Tryz.lays169 : Go.Proofs.Lays.n169 Tryz.prog Tryz.lays169_ren := {
  mixed := by kernel_rfl
  f169 := Tryz.func72.trans (congrArg some (by kernel_rfl))
  t0 := Tryz.underlying0
  a0 := Tryz.isAgg0
  z0 := Tryz.sizeOf0
  v0 := Tryz.zeroValue0
  t3 := Tryz.underlying3
  a3 := Tryz.isAgg3
  z3 := Tryz.sizeOf3
  v3 := Tryz.zeroValue3
  t9 := Tryz.underlying9
  a9 := Tryz.isAgg9
  z9 := Tryz.sizeOf9
  v9 := Tryz.zeroValue9
  t37 := Tryz.underlying110
  a37 := Tryz.isAgg110
  z37 := Tryz.sizeOf110
  v37 := Tryz.zeroValue110
  t70 := Tryz.underlying109
  a70 := Tryz.isAgg109
  z70 := Tryz.sizeOf109
  v70 := Tryz.zeroValue109
  t72 := Tryz.underlying112
  a72 := Tryz.isAgg112
  z72 := Tryz.sizeOf112
  v72 := Tryz.zeroValue112
  t127 := Tryz.underlying145
  a127 := Tryz.isAgg145
  z127 := Tryz.sizeOf145
  v127 := Tryz.zeroValue145 }
theorem Tryz.Builder_Extra_169 : Builder.Extra Tryz.prog Tryz.lays169_ren := {
  sizeBuilder := by kernel_rfl
  liesBuilder := by kernel_rfl
  t5 := Tryz.underlying5
  a5 := Tryz.isAgg5
  z5 := Tryz.sizeOf5
  v5 := Tryz.zeroValue5
  infoByte := by kernel_rfl
  cellsByte := by kernel_rfl
  sizeByte := by kernel_rfl
  neB5 := by decide }
open Go.RowKit in
/-- (*strings.Builder).String: "String returns the accumulated string.": OF A BUILDER THAT HOLDS AT LEAST ONE BYTE. ✋ THE MODEL FREEZES THOSE BYTES IN THE BUFFER (unsafe.String): a later write INTO them ends the model's run without an answer; a later append BEHIND them goes on. The statement's order of evaluation is drawn: one draw. (LAID: no walk: one application.) -/
theorem Tryz.Builder_String (B b : Nat) (l : List UInt8) (w : World) (h : Lib.IsBuilder 112 5 B b (Lib.byteCells l) w) (h0 : l ≠ []) :
    Calls Tryz.prog 72 #[.pointer (some ⟨b, 0, none⟩)] w fun e w' => e = .returned (.string ⟨l.toArray⟩) ∧ Below B w w' := Any.Builder_String Tryz.lays169 Tryz.Builder_Extra_169 B b l w h h0
open Go.RowKit in
/-- (*strings.Builder).String OF A BUILDER THAT HOLDS NO BYTE: the empty string. (Its buffer is nil, or a row of which it has taken nothing yet; where that row has NO capacity the model lays one new block for unsafe.SliceData's 'some address'.) One draw. (LAID: no walk: one application.) -/
theorem Tryz.Builder_String_empty (B b : Nat) (w : World) (h : Lib.IsBuilder 112 5 B b [] w) (hBw : B ≤ w.heap.size) :
    Calls Tryz.prog 72 #[.pointer (some ⟨b, 0, none⟩)] w fun e w' => e = .returned (.string ⟨#[]⟩) ∧ Below B w w' := Any.Builder_String_empty Tryz.lays169 Tryz.Builder_Extra_169 B b w h hBw
open Go.RowKit in
/-- (*strings.Builder).String: "String returns the accumulated string.": WHATEVER THE BUILDER HOLDS. (LAID: no walk: one application.) -/
theorem Tryz.Builder_String_any (B b : Nat) (l : List UInt8) (w : World) (h : Lib.IsBuilder 112 5 B b (Lib.byteCells l) w) (hBw : B ≤ w.heap.size) :
    Calls Tryz.prog 72 #[.pointer (some ⟨b, 0, none⟩)] w fun e w' => e = .returned (.string ⟨l.toArray⟩) ∧ Below B w w' := Any.Builder_String_any Tryz.lays169 Tryz.Builder_Extra_169 B b l w h hBw
def Tryz.lays241_ren : Go.Shelf.Ren := ⟨fun | 241 => 107 | 277 => 134 | n => n, fun | 70 => 109 | 3 => 3 | 0 => 0 | 72 => 112 | 37 => 110 | 5 => 5 | n => n, fun | n => n⟩
theorem Tryz.lays241 : Go.Proofs.Lays.n241 Tryz.prog Tryz.lays241_ren := {
  mixed := by kernel_rfl
  f241 := Tryz.func107.trans (congrArg some (by kernel_rfl))
  f277 := Tryz.func134.trans (congrArg some (by kernel_rfl))
  t0 := Tryz.underlying0
  a0 := Tryz.isAgg0
  z0 := Tryz.sizeOf0
  v0 := Tryz.zeroValue0
  t3 := Tryz.underlying3
  a3 := Tryz.isAgg3
  z3 := Tryz.sizeOf3
  v3 := Tryz.zeroValue3
  t37 := Tryz.underlying110
  a37 := Tryz.isAgg110
  z37 := Tryz.sizeOf110
  v37 := Tryz.zeroValue110
  t70 := Tryz.underlying109
  a70 := Tryz.isAgg109
  z70 := Tryz.sizeOf109
  v70 := Tryz.zeroValue109
  t72 := Tryz.underlying112
  a72 := Tryz.isAgg112
  z72 := Tryz.sizeOf112
  v72 := Tryz.zeroValue112 }
theorem Tryz.Builder_Extra_241 : Builder.Extra Tryz.prog Tryz.lays241_ren := {
  sizeBuilder := by kernel_rfl
  liesBuilder := by kernel_rfl
  t5 := Tryz.underlying5
  a5 := Tryz.isAgg5
  z5 := Tryz.sizeOf5
  v5 := Tryz.zeroValue5
  infoByte := by kernel_rfl
  cellsByte := by kernel_rfl
  sizeByte := by kernel_rfl
  neB5 := by decide }
open Go.RowKit in
/-- (*strings.Builder).grow (no doc but "grow copies the buffer to a new, larger buffer so that there are at least n bytes of capacity beyond len(b.buf)."): AT A BUILDER WITHOUT A BUFFER: a new row of whatever bytes for its buffer, none of them its own yet. Three draws. (LAID: no walk: one application.) -/
theorem Tryz.Builder_grow_fresh (B b n : Nat) (w : World) (hB : B ≤ b) (hbk : w.heap[b]? = some (.cells #[.pointer (some ⟨b, 0, none⟩), .slice none 0 0] 112 (0, 0))) (hBw : B ≤ w.heap.size) (hn : n ≤ 281474976710656) :
    Calls Tryz.prog 107 #[.pointer (some ⟨b, 0, none⟩), .int .i64 n] w fun e w' => e = .returned (.tuple #[]) ∧ (Lib.BuilderAt 112 5 B b (.pointer (some ⟨b, 0, none⟩)) [] w' ∧ Below B w w') := Any.Builder_grow_fresh Tryz.lays241 Tryz.Builder_Extra_241 B b n w hB hbk hBw hn
def Tryz.lays165_ren : Go.Shelf.Ren := ⟨fun | 165 => 70 | 240 => 106 | 241 => 107 | 276 => 133 | 277 => 134 | n => n, fun | 70 => 109 | 3 => 3 | 0 => 0 | 4 => 4 | 9 => 9 | 20 => 20 | 72 => 112 | 37 => 110 | 164 => 167 | 5 => 5 | n => n, fun | n => n⟩
theorem Tryz.lays165 : Go.Proofs.Lays.n165 Tryz.prog Tryz.lays165_ren := {
  mixed := by kernel_rfl
  f165 := Tryz.func70.trans (congrArg some (by kernel_rfl))
  f240 := Tryz.func106.trans (congrArg some (by kernel_rfl))
  f241 := Tryz.func107.trans (congrArg some (by kernel_rfl))
  f276 := Tryz.func133.trans (congrArg some (by kernel_rfl))
  f277 := Tryz.func134.trans (congrArg some (by kernel_rfl))
  t0 := Tryz.underlying0
  a0 := Tryz.isAgg0
  z0 := Tryz.sizeOf0
  v0 := Tryz.zeroValue0
  t3 := Tryz.underlying3
  a3 := Tryz.isAgg3
  z3 := Tryz.sizeOf3
  v3 := Tryz.zeroValue3
  t4 := Tryz.underlying4
  a4 := Tryz.isAgg4
  z4 := Tryz.sizeOf4
  v4 := Tryz.zeroValue4
  t9 := Tryz.underlying9
  a9 := Tryz.isAgg9
  z9 := Tryz.sizeOf9
  v9 := Tryz.zeroValue9
  t20 := Tryz.underlying20
  a20 := Tryz.isAgg20
  z20 := Tryz.sizeOf20
  v20 := Tryz.zeroValue20
  t37 := Tryz.underlying110
  a37 := Tryz.isAgg110
  z37 := Tryz.sizeOf110
  v37 := Tryz.zeroValue110
  t70 := Tryz.underlying109
  a70 := Tryz.isAgg109
  z70 := Tryz.sizeOf109
  v70 := Tryz.zeroValue109
  t72 := Tryz.underlying112
  a72 := Tryz.isAgg112
  z72 := Tryz.sizeOf112
  v72 := Tryz.zeroValue112
  t164 := Tryz.underlying167
  a164 := Tryz.isAgg167
  z164 := Tryz.sizeOf167
  v164 := Tryz.zeroValue167 }
theorem Tryz.Builder_Extra_165 : Builder.Extra Tryz.prog Tryz.lays165_ren := {
  sizeBuilder := by kernel_rfl
  liesBuilder := by kernel_rfl
  t5 := Tryz.underlying5
  a5 := Tryz.isAgg5
  z5 := Tryz.sizeOf5
  v5 := Tryz.zeroValue5
  infoByte := by kernel_rfl
  cellsByte := by kernel_rfl
  sizeByte := by kernel_rfl
  neB5 := by decide }
open Go.RowKit in
/-- (*strings.Builder).Grow AT A BUILDER THAT HAS NOT BEEN WRITTEN ('var b strings.Builder; b.Grow(n)'): "Grow grows b's capacity, if necessary, to guarantee space for another n bytes.": it holds no byte behind it as before it. (LAID: no walk: one application.) -/
theorem Tryz.Builder_Grow_fresh (B b n : Nat) (w : World) (hB : B ≤ b) (hbk : w.heap[b]? = some (.cells #[.pointer none, .slice none 0 0] 112 (0, 0))) (hBw : B ≤ w.heap.size) (hn : n ≤ 281474976710656) :
    Calls Tryz.prog 70 #[.pointer (some ⟨b, 0, none⟩), .int .i64 n] w fun e w' => e = .returned (.tuple #[]) ∧ (Lib.BuilderAt 112 5 B b (.pointer (some ⟨b, 0, none⟩)) [] w' ∧ Below B w w') := Any.Builder_Grow_fresh Tryz.lays165 Tryz.Builder_Extra_165 B b n w hB hbk hBw hn
def Tryz.lays156_ren : Go.Shelf.Ren := ⟨fun | 156 => 43 | 165 => 70 | 166 => 71 | 169 => 72 | 240 => 106 | 241 => 107 | 276 => 133 | 277 => 134 | n => n, fun | 31 => 43 | 9 => 9 | 3 => 3 | 4 => 4 | 0 => 0 | 20 => 20 | 72 => 112 | 76 => 116 | 70 => 109 | 37 => 110 | 75 => 115 | 127 => 145 | 164 => 167 | 5 => 5 | 80 => 118 | n => n, fun | n => n⟩
theorem Tryz.lays156 : Go.Proofs.Lays.n156 Tryz.prog Tryz.lays156_ren := {
  mixed := by kernel_rfl
  f156 := Tryz.func43.trans (congrArg some (by kernel_rfl))
  f165 := Tryz.func70.trans (congrArg some (by kernel_rfl))
  f166 := Tryz.func71.trans (congrArg some (by kernel_rfl))
  f169 := Tryz.func72.trans (congrArg some (by kernel_rfl))
  f240 := Tryz.func106.trans (congrArg some (by kernel_rfl))
  f241 := Tryz.func107.trans (congrArg some (by kernel_rfl))
  f276 := Tryz.func133.trans (congrArg some (by kernel_rfl))
  f277 := Tryz.func134.trans (congrArg some (by kernel_rfl))
  t0 := Tryz.underlying0
  a0 := Tryz.isAgg0
  z0 := Tryz.sizeOf0
  v0 := Tryz.zeroValue0
  t3 := Tryz.underlying3
  a3 := Tryz.isAgg3
  z3 := Tryz.sizeOf3
  v3 := Tryz.zeroValue3
  t4 := Tryz.underlying4
  a4 := Tryz.isAgg4
  z4 := Tryz.sizeOf4
  v4 := Tryz.zeroValue4
  t9 := Tryz.underlying9
  a9 := Tryz.isAgg9
  z9 := Tryz.sizeOf9
  v9 := Tryz.zeroValue9
  t20 := Tryz.underlying20
  a20 := Tryz.isAgg20
  z20 := Tryz.sizeOf20
  v20 := Tryz.zeroValue20
  t31 := Tryz.underlying43
  a31 := Tryz.isAgg43
  z31 := Tryz.sizeOf43
  v31 := Tryz.zeroValue43
  t37 := Tryz.underlying110
  a37 := Tryz.isAgg110
  z37 := Tryz.sizeOf110
  v37 := Tryz.zeroValue110
  t70 := Tryz.underlying109
  a70 := Tryz.isAgg109
  z70 := Tryz.sizeOf109
  v70 := Tryz.zeroValue109
  t72 := Tryz.underlying112
  a72 := Tryz.isAgg112
  z72 := Tryz.sizeOf112
  v72 := Tryz.zeroValue112
  t75 := Tryz.underlying115
  a75 := Tryz.isAgg115
  z75 := Tryz.sizeOf115
  v75 := Tryz.zeroValue115
  t76 := Tryz.underlying116
  a76 := Tryz.isAgg116
  z76 := Tryz.sizeOf116
  v76 := Tryz.zeroValue116
  t127 := Tryz.underlying145
  a127 := Tryz.isAgg145
  z127 := Tryz.sizeOf145
  v127 := Tryz.zeroValue145
  t164 := Tryz.underlying167
  a164 := Tryz.isAgg167
  z164 := Tryz.sizeOf167
  v164 := Tryz.zeroValue167 }
theorem Tryz.Builder_Extra_156 : Builder.Extra Tryz.prog Tryz.lays156_ren := {
  sizeBuilder := by kernel_rfl
  liesBuilder := by kernel_rfl
  t5 := Tryz.underlying5
  a5 := Tryz.isAgg5
  z5 := Tryz.sizeOf5
  v5 := Tryz.zeroValue5
  infoByte := by kernel_rfl
  cellsByte := by kernel_rfl
  sizeByte := by kernel_rfl
  neB5 := by decide }
open Go.RowKit in
/-- No element: the empty string; the world is as it was. (Whatever the slice's address and capacity: a nil slice too.) (LAID: no walk: one application.) -/
theorem Tryz.strings_Join_none (a : Option Addr) (c : Nat) (sep : ByteArray) (w : World) :
    Calls Tryz.prog 43 #[.slice a 0 c, .string sep] w fun e w' => e = .returned (.string ⟨#[]⟩) ∧ w' = w := Any.strings_Join_none Tryz.lays156 Tryz.Builder_Extra_156 a c sep w
open Go.RowKit in
/-- strings.Join: "Join concatenates the elements of its first argument to create a single string. The separator string sep is placed between elements in the resulting string.": HOWEVER MANY ELEMENTS. Below the heap's end the world is as it was. (LAID: no walk: one application.) -/
theorem Tryz.strings_Join (bk o c : Nat) (xs : List ByteArray) (sep : ByteArray) (w : World) (hcells : ∀ (j : Nat) x, xs[j]? = some x → w.cell? ⟨bk, o + j, none⟩ = some (.string x)) (hbk : bk < w.heap.size) (hN : xs.length ≤ 140737488355328) (hcap : xs.length ≤ c) (hlen : (Lib.join (xs.map (·.data.toList)) sep.data.toList).length ≤ 140737488355328) :
    Calls Tryz.prog 43 #[.slice (some ⟨bk, o, none⟩) xs.length c, .string sep] w fun e w' => e = .returned (.string ⟨(Lib.join (xs.map (·.data.toList)) sep.data.toList).toArray⟩) ∧ Below w.heap.size w w' := Any.strings_Join Tryz.lays156 Tryz.Builder_Extra_156 bk o c xs sep w hcells hbk hN hcap hlen
def Tryz.lays128_ren : Go.Shelf.Ren := ⟨fun | 128 => 101 | n => n, fun | 51 => 142 | 3 => 3 | 4 => 4 | 46 => 104 | 5 => 5 | 9 => 9 | n => n, fun | n => n⟩
theorem Tryz.lays128 : Go.Proofs.Lays.n128 Tryz.prog Tryz.lays128_ren := {
  mixed := by kernel_rfl
  f128 := Tryz.func101.trans (congrArg some (by kernel_rfl))
  t3 := Tryz.underlying3
  a3 := Tryz.isAgg3
  z3 := Tryz.sizeOf3
  v3 := Tryz.zeroValue3
  t4 := Tryz.underlying4
  a4 := Tryz.isAgg4
  z4 := Tryz.sizeOf4
  v4 := Tryz.zeroValue4
  t5 := Tryz.underlying5
  a5 := Tryz.isAgg5
  z5 := Tryz.sizeOf5
  v5 := Tryz.zeroValue5
  t9 := Tryz.underlying9
  a9 := Tryz.isAgg9
  z9 := Tryz.sizeOf9
  v9 := Tryz.zeroValue9
  t46 := Tryz.underlying104
  a46 := Tryz.isAgg104
  z46 := Tryz.sizeOf104
  v46 := Tryz.zeroValue104
  t51 := Tryz.underlying142
  a51 := Tryz.isAgg142
  z51 := Tryz.sizeOf142
  v51 := Tryz.zeroValue142 }
/-- bits.Len32: "Len32 returns the minimum number of bits required to represent x; the result is 0 for x == 0.": IT RETURNS 'Lib.bitLen x'; the world is as it was. ('h0', 'h1': x is a uint32.) (LAID: no walk: one application.) -/
theorem Tryz.bits_Len32 (x : Int) (w : World) (h0 : 0 ≤ x) (h1 : x ≤ 4294967295) :
    Calls Tryz.prog 101 #[.int .u32 x] w fun e w' => e = .returned (.int .i64 (Lib.bitLen x.toNat)) ∧ w' = w := Any.bits_Len32 Tryz.lays128 x w h0 h1
def Tryz.lays125_ren : Go.Shelf.Ren := ⟨fun | 125 => 64 | 128 => 101 | 129 => 102 | n => n, fun | 46 => 104 | 3 => 3 | 51 => 142 | 53 => 32 | 4 => 4 | 5 => 5 | 9 => 9 | n => n, fun | n => n⟩
theorem Tryz.lays125 : Go.Proofs.Lays.n125 Tryz.prog Tryz.lays125_ren := {
  mixed := by kernel_rfl
  f125 := Tryz.func64.trans (congrArg some (by kernel_rfl))
  f128 := Tryz.func101.trans (congrArg some (by kernel_rfl))
  f129 := Tryz.func102.trans (congrArg some (by kernel_rfl))
  t3 := Tryz.underlying3
  a3 := Tryz.isAgg3
  z3 := Tryz.sizeOf3
  v3 := Tryz.zeroValue3
  t4 := Tryz.underlying4
  a4 := Tryz.isAgg4
  z4 := Tryz.sizeOf4
  v4 := Tryz.zeroValue4
  t5 := Tryz.underlying5
  a5 := Tryz.isAgg5
  z5 := Tryz.sizeOf5
  v5 := Tryz.zeroValue5
  t9 := Tryz.underlying9
  a9 := Tryz.isAgg9
  z9 := Tryz.sizeOf9
  v9 := Tryz.zeroValue9
  t46 := Tryz.underlying104
  a46 := Tryz.isAgg104
  z46 := Tryz.sizeOf104
  v46 := Tryz.zeroValue104
  t51 := Tryz.underlying142
  a51 := Tryz.isAgg142
  z51 := Tryz.sizeOf142
  v51 := Tryz.zeroValue142
  t53 := Tryz.underlying32
  a53 := Tryz.isAgg32
  z53 := Tryz.sizeOf32
  v53 := Tryz.zeroValue32 }
/-- bits.Len: "Len returns the minimum number of bits required to represent x; the result is 0 for x == 0.": IT RETURNS 'Lib.bitLen x'; the world is as it was. (A uint has 64 bits in the model.) ITS CALLEE bits.Len64 IS MET BY ITS OWN CONTRACT OFF THE SHELF (lay that first). (LAID: no walk: one application.) -/
theorem Tryz.bits_Len (x : Int) (w : World) (h0 : 0 ≤ x) (h1 : x ≤ 18446744073709551615) :
    Calls Tryz.prog 64 #[.int .u64 x] w fun e w' => e = .returned (.int .i64 (Lib.bitLen x.toNat)) ∧ w' = w := Any.bits_Len Tryz.lays125 x w h0 h1
def Tryz.lays213_ren : Go.Shelf.Ren := ⟨fun | 213 => 135 | 265 => 145 | n => n, fun | 9 => 9 | 3 => 3 | n => n, fun | n => n⟩
theorem Tryz.lays213 : Go.Proofs.Lays.n213 Tryz.prog Tryz.lays213_ren := {
  mixed := by kernel_rfl
  f213 := Tryz.func135.trans (congrArg some (by kernel_rfl))
  f265 := Tryz.func145.trans (congrArg some (by kernel_rfl))
  t3 := Tryz.underlying3
  a3 := Tryz.isAgg3
  z3 := Tryz.sizeOf3
  v3 := Tryz.zeroValue3
  t9 := Tryz.underlying9
  a9 := Tryz.isAgg9
  z9 := Tryz.sizeOf9
  v9 := Tryz.zeroValue9 }
open Go.RowKit in
/-- internal/bytealg.CompareString (what strings.Compare calls): IT RETURNS 'Lib.compareBytes a b'; the world is as it was. (LAID: no walk: one application.) -/
theorem Tryz.bytealg_CompareString (a b : ByteArray) (w : World) :
    Calls Tryz.prog 135 #[.string a, .string b] w fun e w' => e = .returned (.int .i64 (Lib.compareBytes a.data.toList b.data.toList)) ∧ w' = w := Any.bytealg_CompareString Tryz.lays213 a b w
def Tryz.lays106_ren : Go.Shelf.Ren := ⟨fun | 106 => 108 | 213 => 135 | 265 => 145 | n => n, fun | 9 => 9 | 3 => 3 | n => n, fun | n => n⟩
theorem Tryz.lays106 : Go.Proofs.Lays.n106 Tryz.prog Tryz.lays106_ren := {
  mixed := by kernel_rfl
  f106 := Tryz.func108.trans (congrArg some (by kernel_rfl))
  f213 := Tryz.func135.trans (congrArg some (by kernel_rfl))
  f265 := Tryz.func145.trans (congrArg some (by kernel_rfl))
  t3 := Tryz.underlying3
  a3 := Tryz.isAgg3
  z3 := Tryz.sizeOf3
  v3 := Tryz.zeroValue3
  t9 := Tryz.underlying9
  a9 := Tryz.isAgg9
  z9 := Tryz.sizeOf9
  v9 := Tryz.zeroValue9 }
open Go.RowKit in
/-- strings.Compare: "Compare returns an integer comparing two strings lexicographically. The result will be 0 if a == b, -1 if a < b, and +1 if a > b.": IT RETURNS 'Lib.compareBytes a b'; the world is as it was. (LAID: no walk: one application.) -/
theorem Tryz.strings_Compare (a b : ByteArray) (w : World) :
    Calls Tryz.prog 108 #[.string a, .string b] w fun e w' => e = .returned (.int .i64 (Lib.compareBytes a.data.toList b.data.toList)) ∧ w' = w := Any.strings_Compare Tryz.lays106 a b w
def Tryz.lays137_ren : Go.Shelf.Ren := ⟨fun | 137 => 114 | 217 => 136 | 266 => 146 | n => n, fun | 9 => 9 | 5 => 5 | 3 => 3 | n => n, fun | n => n⟩
theorem Tryz.lays137 : Go.Proofs.Lays.n137 Tryz.prog Tryz.lays137_ren := {
  mixed := by kernel_rfl
  f137 := Tryz.func114.trans (congrArg some (by kernel_rfl))
  f217 := Tryz.func136.trans (congrArg some (by kernel_rfl))
  f266 := Tryz.func146.trans (congrArg some (by kernel_rfl))
  t3 := Tryz.underlying3
  a3 := Tryz.isAgg3
  z3 := Tryz.sizeOf3
  v3 := Tryz.zeroValue3
  t5 := Tryz.underlying5
  a5 := Tryz.isAgg5
  z5 := Tryz.sizeOf5
  v5 := Tryz.zeroValue5
  t9 := Tryz.underlying9
  a9 := Tryz.isAgg9
  z9 := Tryz.sizeOf9
  v9 := Tryz.zeroValue9 }
open Go.RowKit in
/-- strings.IndexByte: "IndexByte returns the index of the first instance of c in s, or -1 if c is not present in s.": IT RETURNS 'Lib.indexByte s c'; the world is as it was. (LAID: no walk: one application.) -/
theorem Tryz.strings_IndexByte (s : ByteArray) (c : Int) (w : World) :
    Calls Tryz.prog 114 #[.string s, .int .u8 c] w fun e w' => e = .returned (.int .i64 (Lib.indexByte s.data.toList c.toNat.toUInt8)) ∧ w' = w := Any.strings_IndexByte Tryz.lays137 s c w
def Tryz.lays210_ren : Go.Shelf.Ren := ⟨fun | 210 => 143 | 206 => 103 | n => n, fun | 9 => 9 | 4 => 4 | 3 => 3 | n => n, fun | n => n⟩
theorem Tryz.lays210 : Go.Proofs.Lays.n210 Tryz.prog Tryz.lays210_ren := {
  mixed := by kernel_rfl
  f206 := Tryz.func103.trans (congrArg some (by kernel_rfl))
  f210 := Tryz.func143.trans (congrArg some (by kernel_rfl))
  t3 := Tryz.underlying3
  a3 := Tryz.isAgg3
  z3 := Tryz.sizeOf3
  v3 := Tryz.zeroValue3
  t4 := Tryz.underlying4
  a4 := Tryz.isAgg4
  z4 := Tryz.sizeOf4
  v4 := Tryz.zeroValue4
  t9 := Tryz.underlying9
  a9 := Tryz.isAgg9
  z9 := Tryz.sizeOf9
  v9 := Tryz.zeroValue9 }
open Go.RowKit in
/-- internal/stringslite.CutPrefix (what strings.CutPrefix calls). (LAID: no walk: one application.) -/
theorem Tryz.stringslite_CutPrefix (s p : ByteArray) (w : World) :
    Calls Tryz.prog 143 #[.string s, .string p] w fun e w' => e = .returned (.tuple #[.string ⟨(Lib.trimPrefix s.data.toList p.data.toList).toArray⟩, .bool (Lib.hasPrefix s.data.toList p.data.toList)]) ∧ w' = w := Any.stringslite_CutPrefix Tryz.lays210 s p w
def Tryz.lays103_ren : Go.Shelf.Ren := ⟨fun | 103 => 130 | 210 => 143 | 206 => 103 | n => n, fun | 9 => 9 | 4 => 4 | 24 => 76 | 3 => 3 | n => n, fun | n => n⟩
theorem Tryz.lays103 : Go.Proofs.Lays.n103 Tryz.prog Tryz.lays103_ren := {
  mixed := by kernel_rfl
  f103 := Tryz.func130.trans (congrArg some (by kernel_rfl))
  f206 := Tryz.func103.trans (congrArg some (by kernel_rfl))
  f210 := Tryz.func143.trans (congrArg some (by kernel_rfl))
  t3 := Tryz.underlying3
  a3 := Tryz.isAgg3
  z3 := Tryz.sizeOf3
  v3 := Tryz.zeroValue3
  t4 := Tryz.underlying4
  a4 := Tryz.isAgg4
  z4 := Tryz.sizeOf4
  v4 := Tryz.zeroValue4
  t9 := Tryz.underlying9
  a9 := Tryz.isAgg9
  z9 := Tryz.sizeOf9
  v9 := Tryz.zeroValue9
  t24 := Tryz.underlying76
  a24 := Tryz.isAgg76
  z24 := Tryz.sizeOf76
  v24 := Tryz.zeroValue76 }
open Go.RowKit in
/-- strings.CutPrefix: "CutPrefix returns s without the provided leading prefix string and reports whether it found the prefix. If s doesn't start with prefix, CutPrefix returns s, false. If prefix is the empty string, CutPrefix returns s, true.": IT RETURNS '(Lib.trimPrefix s p, Lib.hasPrefix s p)'; the world is as it was. (LAID: no walk: one application.) -/
theorem Tryz.strings_CutPrefix (s p : ByteArray) (w : World) :
    Calls Tryz.prog 130 #[.string s, .string p] w fun e w' => e = .returned (.tuple #[.string ⟨(Lib.trimPrefix s.data.toList p.data.toList).toArray⟩, .bool (Lib.hasPrefix s.data.toList p.data.toList)]) ∧ w' = w := Any.strings_CutPrefix Tryz.lays103 s p w
def Tryz.lays211_ren : Go.Shelf.Ren := ⟨fun | 211 => 105 | 207 => 132 | n => n, fun | 9 => 9 | 4 => 4 | 3 => 3 | n => n, fun | n => n⟩
theorem Tryz.lays211 : Go.Proofs.Lays.n211 Tryz.prog Tryz.lays211_ren := {
  mixed := by kernel_rfl
  f207 := Tryz.func132.trans (congrArg some (by kernel_rfl))
  f211 := Tryz.func105.trans (congrArg some (by kernel_rfl))
  t3 := Tryz.underlying3
  a3 := Tryz.isAgg3
  z3 := Tryz.sizeOf3
  v3 := Tryz.zeroValue3
  t4 := Tryz.underlying4
  a4 := Tryz.isAgg4
  z4 := Tryz.sizeOf4
  v4 := Tryz.zeroValue4
  t9 := Tryz.underlying9
  a9 := Tryz.isAgg9
  z9 := Tryz.sizeOf9
  v9 := Tryz.zeroValue9 }
open Go.RowKit in
/-- internal/stringslite.CutSuffix (what strings.CutSuffix calls). (LAID: no walk: one application.) -/
theorem Tryz.stringslite_CutSuffix (s p : ByteArray) (w : World) (hs : s.size ≤ 9223372036854775807) :
    Calls Tryz.prog 105 #[.string s, .string p] w fun e w' => e = .returned (.tuple #[.string ⟨(Lib.trimSuffix s.data.toList p.data.toList).toArray⟩, .bool (Lib.hasSuffix s.data.toList p.data.toList)]) ∧ w' = w := Any.stringslite_CutSuffix Tryz.lays211 s p w hs
def Tryz.lays104_ren : Go.Shelf.Ren := ⟨fun | 104 => 69 | 211 => 105 | 207 => 132 | n => n, fun | 9 => 9 | 4 => 4 | 24 => 76 | 3 => 3 | n => n, fun | n => n⟩
theorem Tryz.lays104 : Go.Proofs.Lays.n104 Tryz.prog Tryz.lays104_ren := {
  mixed := by kernel_rfl
  f104 := Tryz.func69.trans (congrArg some (by kernel_rfl))
  f207 := Tryz.func132.trans (congrArg some (by kernel_rfl))
  f211 := Tryz.func105.trans (congrArg some (by kernel_rfl))
  t3 := Tryz.underlying3
  a3 := Tryz.isAgg3
  z3 := Tryz.sizeOf3
  v3 := Tryz.zeroValue3
  t4 := Tryz.underlying4
  a4 := Tryz.isAgg4
  z4 := Tryz.sizeOf4
  v4 := Tryz.zeroValue4
  t9 := Tryz.underlying9
  a9 := Tryz.isAgg9
  z9 := Tryz.sizeOf9
  v9 := Tryz.zeroValue9
  t24 := Tryz.underlying76
  a24 := Tryz.isAgg76
  z24 := Tryz.sizeOf76
  v24 := Tryz.zeroValue76 }
open Go.RowKit in
/-- strings.CutSuffix: "CutSuffix returns s without the provided ending suffix string and reports whether it found the suffix. If s doesn't end with suffix, CutSuffix returns s, false. If suffix is the empty string, CutSuffix returns s, true.": IT RETURNS '(Lib.trimSuffix s p, Lib.hasSuffix s p)'; the world is as it was. (LAID: no walk: one application.) -/
theorem Tryz.strings_CutSuffix (s p : ByteArray) (w : World) (hs : s.size ≤ 9223372036854775807) :
    Calls Tryz.prog 69 #[.string s, .string p] w fun e w' => e = .returned (.tuple #[.string ⟨(Lib.trimSuffix s.data.toList p.data.toList).toArray⟩, .bool (Lib.hasSuffix s.data.toList p.data.toList)]) ∧ w' = w := Any.strings_CutSuffix Tryz.lays104 s p w hs
def Tryz.lays215_ren : Go.Shelf.Ren := ⟨fun | 215 => 61 | n => n, fun | 3 => 3 | 4 => 4 | n => n, fun | n => n⟩
theorem Tryz.lays215 : Go.Proofs.Lays.n215 Tryz.prog Tryz.lays215_ren := {
  mixed := by kernel_rfl
  f215 := Tryz.func61.trans (congrArg some (by kernel_rfl))
  t3 := Tryz.underlying3
  a3 := Tryz.isAgg3
  z3 := Tryz.sizeOf3
  v3 := Tryz.zeroValue3
  t4 := Tryz.underlying4
  a4 := Tryz.isAgg4
  z4 := Tryz.sizeOf4
  v4 := Tryz.zeroValue4 }
open Go.RowKit in
/-- cmp.isNaN at int: 'x != x': false. (LAID: no walk: one application.) -/
theorem Tryz.cmp_isNaN_int (x : Int) (w : World) :
    Calls Tryz.prog 61 #[.int .i64 x] w fun e w' => e = .returned (.bool false) ∧ w' = w := Any.cmp_isNaN_int Tryz.lays215 x w
def Tryz.lays122_ren : Go.Shelf.Ren := ⟨fun | 122 => 32 | 215 => 61 | n => n, fun | 3 => 3 | 4 => 4 | n => n, fun | n => n⟩
theorem Tryz.lays122 : Go.Proofs.Lays.n122 Tryz.prog Tryz.lays122_ren := {
  mixed := by kernel_rfl
  f122 := Tryz.func32.trans (congrArg some (by kernel_rfl))
  f215 := Tryz.func61.trans (congrArg some (by kernel_rfl))
  t3 := Tryz.underlying3
  a3 := Tryz.isAgg3
  z3 := Tryz.sizeOf3
  v3 := Tryz.zeroValue3
  t4 := Tryz.underlying4
  a4 := Tryz.isAgg4
  z4 := Tryz.sizeOf4
  v4 := Tryz.zeroValue4 }
open Go.RowKit in
/-- cmp.Compare at int: "Compare returns -1 if x is less than y, 0 if x equals y, +1 if x is greater than y.": IT RETURNS 'Lib.compareInt x y'; the world is as it was. (LAID: no walk: one application.) -/
theorem Tryz.cmp_Compare_int (x y : Int) (w : World) :
    Calls Tryz.prog 32 #[.int .i64 x, .int .i64 y] w fun e w' => e = .returned (.int .i64 (Lib.compareInt x y)) ∧ w' = w := Any.cmp_Compare_int Tryz.lays122 x y w
def Tryz.lays195_ren : Go.Shelf.Ren := ⟨fun | 195 => 151 | n => n, fun | 9 => 9 | 3 => 3 | 0 => 0 | 4 => 4 | n => n, fun | n => n⟩
theorem Tryz.lays195 : Go.Proofs.Lays.n195 Tryz.prog Tryz.lays195_ren := {
  mixed := by kernel_rfl
  f195 := Tryz.func151.trans (congrArg some (by kernel_rfl))
  t0 := Tryz.underlying0
  a0 := Tryz.isAgg0
  z0 := Tryz.sizeOf0
  v0 := Tryz.zeroValue0
  t3 := Tryz.underlying3
  a3 := Tryz.isAgg3
  z3 := Tryz.sizeOf3
  v3 := Tryz.zeroValue3
  t4 := Tryz.underlying4
  a4 := Tryz.isAgg4
  z4 := Tryz.sizeOf4
  v4 := Tryz.zeroValue4
  t9 := Tryz.underlying9
  a9 := Tryz.isAgg9
  z9 := Tryz.sizeOf9
  v9 := Tryz.zeroValue9 }
open Go.RowKit in
/-- unicode/utf8.RuneCountInString: "RuneCountInString is like RuneCount but its input is a string." ("RuneCount returns the number of runes in p. Erroneous and short encodings are treated as single runes of width 1 byte."): EVERY STRING, valid UTF-8 or not: 'Lib.runeCount s' (plain Lean over the model's own 'Utf8.decode'; 'Lib.runeCount_le': at most len(s); 'Lib.runeCount_ascii': on ASCII: len(s)). THE ONE CONDITION: len(s) below 2^63 - 1 (the counter does not wrap): the form's reach pays it. THE WORLD BEHIND THE CALL: ONE BLOCK MORE: the model's iterator over s, at its end: all else as it was. (LAID: no walk: one application.) -/
theorem Tryz.utf8_RuneCountInString (s : ByteArray) (w : World) (hs : s.size < 9223372036854775807) :
    Calls Tryz.prog 151 #[.string s] w fun e w' => e = .returned (.int .i64 (Lib.runeCount s)) ∧ ∃ pos, w' = w.iter s pos := Any.utf8_RuneCountInString Tryz.lays195 s w hs
def Tryz.lays129_ren : Go.Shelf.Ren := ⟨fun | 129 => 102 | n => n, fun | 53 => 32 | 3 => 3 | 4 => 4 | 46 => 104 | 5 => 5 | 9 => 9 | n => n, fun | n => n⟩
theorem Tryz.lays129 : Go.Proofs.Lays.n129 Tryz.prog Tryz.lays129_ren := {
  mixed := by kernel_rfl
  f129 := Tryz.func102.trans (congrArg some (by kernel_rfl))
  t3 := Tryz.underlying3
  a3 := Tryz.isAgg3
  z3 := Tryz.sizeOf3
  v3 := Tryz.zeroValue3
  t4 := Tryz.underlying4
  a4 := Tryz.isAgg4
  z4 := Tryz.sizeOf4
  v4 := Tryz.zeroValue4
  t5 := Tryz.underlying5
  a5 := Tryz.isAgg5
  z5 := Tryz.sizeOf5
  v5 := Tryz.zeroValue5
  t9 := Tryz.underlying9
  a9 := Tryz.isAgg9
  z9 := Tryz.sizeOf9
  v9 := Tryz.zeroValue9
  t46 := Tryz.underlying104
  a46 := Tryz.isAgg104
  z46 := Tryz.sizeOf104
  v46 := Tryz.zeroValue104
  t53 := Tryz.underlying32
  a53 := Tryz.isAgg32
  z53 := Tryz.sizeOf32
  v53 := Tryz.zeroValue32 }
/-- bits.Len64: "Len64 returns the minimum number of bits required to represent x; the result is 0 for x == 0.": IT RETURNS 'Lib.bitLen x'; the world is as it was. ('h0', 'h1': x is a uint64.) (LAID: no walk: one application.) -/
theorem Tryz.bits_Len64 (x : Int) (w : World) (h0 : 0 ≤ x) (h1 : x ≤ 18446744073709551615) :
    Calls Tryz.prog 102 #[.int .u64 x] w fun e w' => e = .returned (.int .i64 (Lib.bitLen x.toNat)) ∧ w' = w := Any.bits_Len64 Tryz.lays129 x w h0 h1
def Tryz.lays217_ren : Go.Shelf.Ren := ⟨fun | 217 => 136 | 266 => 146 | n => n, fun | 9 => 9 | 5 => 5 | 3 => 3 | n => n, fun | n => n⟩
theorem Tryz.lays217 : Go.Proofs.Lays.n217 Tryz.prog Tryz.lays217_ren := {
  mixed := by kernel_rfl
  f217 := Tryz.func136.trans (congrArg some (by kernel_rfl))
  f266 := Tryz.func146.trans (congrArg some (by kernel_rfl))
  t3 := Tryz.underlying3
  a3 := Tryz.isAgg3
  z3 := Tryz.sizeOf3
  v3 := Tryz.zeroValue3
  t5 := Tryz.underlying5
  a5 := Tryz.isAgg5
  z5 := Tryz.sizeOf5
  v5 := Tryz.zeroValue5
  t9 := Tryz.underlying9
  a9 := Tryz.isAgg9
  z9 := Tryz.sizeOf9
  v9 := Tryz.zeroValue9 }
open Go.RowKit Go.Lib in
/-- internal/stringslite.IndexByte (what strings.IndexByte calls): IT RETURNS 'Lib.indexByte s c'; the world is as it was. (LAID: no walk: one application.) -/
theorem Tryz.stringslite_IndexByte (s : ByteArray) (c : Int) (w : World) :
    Calls Tryz.prog 136 #[.string s, .int .u8 c] w fun e w' => e = .returned (.int .i64 (Lib.indexByte s.data.toList c.toNat.toUInt8)) ∧ w' = w := Any.stringslite_IndexByte Tryz.lays217 s c w
def Tryz.lays224_ren : Go.Shelf.Ren := ⟨fun | 224 => 157 | n => n, fun | 3 => 3 | n => n, fun | n => n⟩
theorem Tryz.lays224 : Go.Proofs.Lays.n224 Tryz.prog Tryz.lays224_ren := {
  mixed := by kernel_rfl
  f224 := Tryz.func157.trans (congrArg some (by kernel_rfl))
  t3 := Tryz.underlying3
  a3 := Tryz.isAgg3
  z3 := Tryz.sizeOf3
  v3 := Tryz.zeroValue3 }
open Go.RowKit Go.Lib in
/-- internal/bytealg.Cutover: "Cutover reports the number of failures of IndexByte we should tolerate before switching over to Index. n is the number of bytes processed so far.": on amd64: (n + 16) / 8. (LAID: no walk: one application.) -/
theorem Tryz.bytealg_Cutover (n : Int) (h0 : 0 ≤ n) (h1 : n < 4611686018427387904) (w : World) :
    Calls Tryz.prog 157 #[.int .i64 n] w fun e w' => e = .returned (.int .i64 ((n + 16) / 8)) ∧ w' = w := Any.bytealg_Cutover Tryz.lays224 n h0 h1 w
def Tryz.lays314_ren : Go.Shelf.Ren := ⟨fun | 314 => 159 | n => n, fun | 9 => 9 | 51 => 142 | 3 => 3 | 4 => 4 | 5 => 5 | 46 => 104 | n => n, fun | n => n⟩
theorem Tryz.lays314 : Go.Proofs.Lays.n314 Tryz.prog Tryz.lays314_ren := {
  mixed := by kernel_rfl
  f314 := Tryz.func159.trans (congrArg some (by kernel_rfl))
  t3 := Tryz.underlying3
  a3 := Tryz.isAgg3
  z3 := Tryz.sizeOf3
  v3 := Tryz.zeroValue3
  t4 := Tryz.underlying4
  a4 := Tryz.isAgg4
  z4 := Tryz.sizeOf4
  v4 := Tryz.zeroValue4
  t5 := Tryz.underlying5
  a5 := Tryz.isAgg5
  z5 := Tryz.sizeOf5
  v5 := Tryz.zeroValue5
  t9 := Tryz.underlying9
  a9 := Tryz.isAgg9
  z9 := Tryz.sizeOf9
  v9 := Tryz.zeroValue9
  t46 := Tryz.underlying104
  a46 := Tryz.isAgg104
  z46 := Tryz.sizeOf104
  v46 := Tryz.zeroValue104
  t51 := Tryz.underlying142
  a51 := Tryz.isAgg142
  z51 := Tryz.sizeOf142
  v51 := Tryz.zeroValue142 }
open Go.RowKit Go.Lib in
/-- hashStr: "returns the hash and the appropriate multiplicative factor for use in Rabin-Karp algorithm": THE HASH OF ALL OF sep, AND 16777619 ^ len(sep), both in uint32. (LAID: no walk: one application.) -/
theorem Tryz.bytealg_hashStr (sep : ByteArray) (hs : sep.size < 4294967281) (w : World) :
    Calls Tryz.prog 159 #[.string sep] w fun e w' => e = .returned (.tuple #[.int .u32 (RK.H sep.data.toList % 4294967296), .int .u32 (16777619 ^ sep.size % 4294967296)]) ∧ w' = w := Any.bytealg_hashStr Tryz.lays314 sep hs w
def Tryz.lays267_ren : Go.Shelf.Ren := ⟨fun | 267 => 158 | 314 => 159 | n => n, fun | 9 => 9 | 3 => 3 | 146 => 186 | 51 => 142 | 4 => 4 | 5 => 5 | 46 => 104 | n => n, fun | n => n⟩
theorem Tryz.lays267 : Go.Proofs.Lays.n267 Tryz.prog Tryz.lays267_ren := {
  mixed := by kernel_rfl
  f267 := Tryz.func158.trans (congrArg some (by kernel_rfl))
  f314 := Tryz.func159.trans (congrArg some (by kernel_rfl))
  t3 := Tryz.underlying3
  a3 := Tryz.isAgg3
  z3 := Tryz.sizeOf3
  v3 := Tryz.zeroValue3
  t4 := Tryz.underlying4
  a4 := Tryz.isAgg4
  z4 := Tryz.sizeOf4
  v4 := Tryz.zeroValue4
  t5 := Tryz.underlying5
  a5 := Tryz.isAgg5
  z5 := Tryz.sizeOf5
  v5 := Tryz.zeroValue5
  t9 := Tryz.underlying9
  a9 := Tryz.isAgg9
  z9 := Tryz.sizeOf9
  v9 := Tryz.zeroValue9
  t46 := Tryz.underlying104
  a46 := Tryz.isAgg104
  z46 := Tryz.sizeOf104
  v46 := Tryz.zeroValue104
  t51 := Tryz.underlying142
  a51 := Tryz.isAgg142
  z51 := Tryz.sizeOf142
  v51 := Tryz.zeroValue142
  t146 := Tryz.underlying186
  a146 := Tryz.isAgg186
  z146 := Tryz.sizeOf186
  v146 := Tryz.zeroValue186 }
open Go.RowKit Go.Lib in
theorem Tryz.bytealg_IndexRabinKarp (s sep : ByteArray) (h1 : 1 ≤ sep.size) (h2 : sep.size ≤ s.size) (hs : s.size < 4294967281) (w : World) :
    Calls Tryz.prog 158 #[.string s, .string sep] w fun e w' => e = .returned (.int .i64 (Lib.index s.data.toList sep.data.toList)) ∧ w' = w := Any.bytealg_IndexRabinKarp Tryz.lays267 s sep h1 h2 hs w
def Tryz.lays219_ren : Go.Shelf.Ren := ⟨fun | 219 => 154 | 217 => 136 | 225 => 156 | 224 => 157 | 267 => 158 | 266 => 146 | 314 => 159 | n => n, fun | 9 => 9 | 3 => 3 | 4 => 4 | 5 => 5 | 46 => 104 | 146 => 186 | 51 => 142 | n => n, fun | 1 => 0 | n => n⟩
theorem Tryz.lays219 : Go.Proofs.Lays.n219 Tryz.prog Tryz.lays219_ren := {
  mixed := by kernel_rfl
  f217 := Tryz.func136.trans (congrArg some (by kernel_rfl))
  f219 := Tryz.func154.trans (congrArg some (by kernel_rfl))
  f224 := Tryz.func157.trans (congrArg some (by kernel_rfl))
  f225 := Tryz.func156.trans (congrArg some (by kernel_rfl))
  f266 := Tryz.func146.trans (congrArg some (by kernel_rfl))
  f267 := Tryz.func158.trans (congrArg some (by kernel_rfl))
  f314 := Tryz.func159.trans (congrArg some (by kernel_rfl))
  t3 := Tryz.underlying3
  a3 := Tryz.isAgg3
  z3 := Tryz.sizeOf3
  v3 := Tryz.zeroValue3
  t4 := Tryz.underlying4
  a4 := Tryz.isAgg4
  z4 := Tryz.sizeOf4
  v4 := Tryz.zeroValue4
  t5 := Tryz.underlying5
  a5 := Tryz.isAgg5
  z5 := Tryz.sizeOf5
  v5 := Tryz.zeroValue5
  t9 := Tryz.underlying9
  a9 := Tryz.isAgg9
  z9 := Tryz.sizeOf9
  v9 := Tryz.zeroValue9
  t46 := Tryz.underlying104
  a46 := Tryz.isAgg104
  z46 := Tryz.sizeOf104
  v46 := Tryz.zeroValue104
  t51 := Tryz.underlying142
  a51 := Tryz.isAgg142
  z51 := Tryz.sizeOf142
  v51 := Tryz.zeroValue142
  t146 := Tryz.underlying186
  a146 := Tryz.isAgg186
  z146 := Tryz.sizeOf186
  v146 := Tryz.zeroValue186
  g1 := by kernel_rfl }
open Go.RowKit Go.Lib in
/-- internal/stringslite.Index (what strings.Index calls) AT A substr OF ONE BYTE c: IT RETURNS 'Lib.indexByte s c'; the world is as it was. (LAID: no walk: one application.) -/
theorem Tryz.stringslite_Index_one (s : ByteArray) (c : UInt8) (w : World) :
    Calls Tryz.prog 154 #[.string s, .string ⟨#[c]⟩] w fun e w' => e = .returned (.int .i64 (Lib.indexByte s.data.toList c)) ∧ w' = w := Any.stringslite_Index_one Tryz.lays219 s c w
open Go.RowKit Go.Lib in
/-- internal/stringslite.Index (what strings.Index calls) AT A substr OF WHATEVER LENGTH: IT RETURNS 'Lib.index s substr'; the world is as it was. 'm': what internal/bytealg.MaxLen holds: whatever. (LAID: no walk: one application.) -/
theorem Tryz.stringslite_Index (s sub : ByteArray) (m : Int) (w : World) (hs : s.size < 4294967281) (hm : w.cell? ⟨0, 0, none⟩ = some (.int .i64 m)) :
    Calls Tryz.prog 154 #[.string s, .string sub] w fun e w' => e = .returned (.int .i64 (Lib.index s.data.toList sub.data.toList)) ∧ w' = w := Any.stringslite_Index Tryz.lays219 s sub m w hs hm
def Tryz.lays143_ren : Go.Shelf.Ren := ⟨fun | 143 => 150 | 219 => 154 | 217 => 136 | 225 => 156 | 224 => 157 | 267 => 158 | 266 => 146 | 314 => 159 | n => n, fun | 9 => 9 | 3 => 3 | 4 => 4 | 5 => 5 | 46 => 104 | 146 => 186 | 51 => 142 | n => n, fun | 1 => 0 | n => n⟩
theorem Tryz.lays143 : Go.Proofs.Lays.n143 Tryz.prog Tryz.lays143_ren := {
  mixed := by kernel_rfl
  f143 := Tryz.func150.trans (congrArg some (by kernel_rfl))
  f217 := Tryz.func136.trans (congrArg some (by kernel_rfl))
  f219 := Tryz.func154.trans (congrArg some (by kernel_rfl))
  f224 := Tryz.func157.trans (congrArg some (by kernel_rfl))
  f225 := Tryz.func156.trans (congrArg some (by kernel_rfl))
  f266 := Tryz.func146.trans (congrArg some (by kernel_rfl))
  f267 := Tryz.func158.trans (congrArg some (by kernel_rfl))
  f314 := Tryz.func159.trans (congrArg some (by kernel_rfl))
  t3 := Tryz.underlying3
  a3 := Tryz.isAgg3
  z3 := Tryz.sizeOf3
  v3 := Tryz.zeroValue3
  t4 := Tryz.underlying4
  a4 := Tryz.isAgg4
  z4 := Tryz.sizeOf4
  v4 := Tryz.zeroValue4
  t5 := Tryz.underlying5
  a5 := Tryz.isAgg5
  z5 := Tryz.sizeOf5
  v5 := Tryz.zeroValue5
  t9 := Tryz.underlying9
  a9 := Tryz.isAgg9
  z9 := Tryz.sizeOf9
  v9 := Tryz.zeroValue9
  t46 := Tryz.underlying104
  a46 := Tryz.isAgg104
  z46 := Tryz.sizeOf104
  v46 := Tryz.zeroValue104
  t51 := Tryz.underlying142
  a51 := Tryz.isAgg142
  z51 := Tryz.sizeOf142
  v51 := Tryz.zeroValue142
  t146 := Tryz.underlying186
  a146 := Tryz.isAgg186
  z146 := Tryz.sizeOf186
  v146 := Tryz.zeroValue186
  g1 := by kernel_rfl }
open Go.RowKit Go.Lib in
/-- strings.Index: "Index returns the index of the first instance of substr in s, or -1 if substr is not present in s.": AT A substr OF ONE BYTE c: IT RETURNS 'Lib.indexByte s c'; the world is as it was. (LAID: no walk: one application.) -/
theorem Tryz.strings_Index_one (s : ByteArray) (c : UInt8) (w : World) :
    Calls Tryz.prog 150 #[.string s, .string ⟨#[c]⟩] w fun e w' => e = .returned (.int .i64 (Lib.indexByte s.data.toList c)) ∧ w' = w := Any.strings_Index_one Tryz.lays143 s c w
open Go.RowKit Go.Lib in
/-- strings.Index: "Index returns the index of the first instance of substr in s, or -1 if substr is not present in s.": IT RETURNS 'Lib.index s substr'; the world is as it was. (LAID: no walk: one application.) -/
theorem Tryz.strings_Index (s sub : ByteArray) (m : Int) (w : World) (hs : s.size < 4294967281) (hm : w.cell? ⟨0, 0, none⟩ = some (.int .i64 m)) :
    Calls Tryz.prog 150 #[.string s, .string sub] w fun e w' => e = .returned (.int .i64 (Lib.index s.data.toList sub.data.toList)) ∧ w' = w := Any.strings_Index Tryz.lays143 s sub m w hs hm
def Tryz.lays138_ren : Go.Shelf.Ren := ⟨fun | 138 => 149 | 195 => 151 | 218 => 153 | 143 => 150 | 219 => 154 | 217 => 136 | 225 => 156 | 224 => 157 | 267 => 158 | 266 => 146 | 314 => 159 | n => n, fun | 9 => 9 | 3 => 3 | 4 => 4 | 5 => 5 | 0 => 0 | 46 => 104 | 146 => 186 | 51 => 142 | n => n, fun | 1 => 0 | n => n⟩
theorem Tryz.lays138 : Go.Proofs.Lays.n138 Tryz.prog Tryz.lays138_ren := {
  mixed := by kernel_rfl
  f138 := Tryz.func149.trans (congrArg some (by kernel_rfl))
  f143 := Tryz.func150.trans (congrArg some (by kernel_rfl))
  f195 := Tryz.func151.trans (congrArg some (by kernel_rfl))
  f217 := Tryz.func136.trans (congrArg some (by kernel_rfl))
  f218 := Tryz.func153.trans (congrArg some (by kernel_rfl))
  f219 := Tryz.func154.trans (congrArg some (by kernel_rfl))
  f224 := Tryz.func157.trans (congrArg some (by kernel_rfl))
  f225 := Tryz.func156.trans (congrArg some (by kernel_rfl))
  f266 := Tryz.func146.trans (congrArg some (by kernel_rfl))
  f267 := Tryz.func158.trans (congrArg some (by kernel_rfl))
  f314 := Tryz.func159.trans (congrArg some (by kernel_rfl))
  t0 := Tryz.underlying0
  a0 := Tryz.isAgg0
  z0 := Tryz.sizeOf0
  v0 := Tryz.zeroValue0
  t3 := Tryz.underlying3
  a3 := Tryz.isAgg3
  z3 := Tryz.sizeOf3
  v3 := Tryz.zeroValue3
  t4 := Tryz.underlying4
  a4 := Tryz.isAgg4
  z4 := Tryz.sizeOf4
  v4 := Tryz.zeroValue4
  t5 := Tryz.underlying5
  a5 := Tryz.isAgg5
  z5 := Tryz.sizeOf5
  v5 := Tryz.zeroValue5
  t9 := Tryz.underlying9
  a9 := Tryz.isAgg9
  z9 := Tryz.sizeOf9
  v9 := Tryz.zeroValue9
  t46 := Tryz.underlying104
  a46 := Tryz.isAgg104
  z46 := Tryz.sizeOf104
  v46 := Tryz.zeroValue104
  t51 := Tryz.underlying142
  a51 := Tryz.isAgg142
  z51 := Tryz.sizeOf142
  v51 := Tryz.zeroValue142
  t146 := Tryz.underlying186
  a146 := Tryz.isAgg186
  z146 := Tryz.sizeOf186
  v146 := Tryz.zeroValue186
  g1 := by kernel_rfl }
open Go.RowKit Go.Lib in
/-- strings.Count AT A substr OF ONE BYTE ('hp'): "Count counts the number of non-overlapping instances of substr in s.": IT RETURNS 'Lib.countByte s (that byte)'; the world is as it was. ✋ NO CONTRACT HERE YET at an empty substr (utf8.RuneCountInString) or at a longer one (a loop over strings.Index). (LAID: no walk: one application.) -/
theorem Tryz.strings_Count_one (s : ByteArray) (c : UInt8) (w : World) :
    Calls Tryz.prog 149 #[.string s, .string ⟨#[c]⟩] w fun e w' => e = .returned (.int .i64 (Lib.countByte s.data.toList c)) ∧ w' = w := Any.strings_Count_one Tryz.lays138 s c w
open Go.RowKit Go.Lib in
/-- strings.Count AT A substr OF TWO BYTES OR MORE: "Count counts the number of non-overlapping instances of substr in s.": IT RETURNS 'Lib.count s substr'; the world is as it was. (LAID: no walk: one application.) -/
theorem Tryz.strings_Count (s sub : ByteArray) (m : Int) (w : World) (hs : s.size < 4294967281) (hm : w.cell? ⟨0, 0, none⟩ = some (.int .i64 m)) (h2 : 2 ≤ sub.size) :
    Calls Tryz.prog 149 #[.string s, .string sub] w fun e w' => e = .returned (.int .i64 (Lib.countB s sub)) ∧ w' = w := Any.strings_Count Tryz.lays138 s sub m w hs hm h2
def Tryz.laysM219_ren : Go.Shelf.Ren := ⟨fun | 219 => 154 | 217 => 136 | 225 => 156 | 224 => 157 | 267 => 158 | 266 => 146 | 314 => 159 | n => n, fun | 9 => 9 | 3 => 3 | 4 => 4 | 5 => 5 | 46 => 104 | 146 => 186 | 51 => 142 | n => n, fun | 1 => 0 | n => n⟩
theorem Tryz.laysM219 : Go.Proofs.LaysM.n219 Tryz.prog Tryz.laysM219_ren := {
  mixed := by kernel_rfl
  f217 := Tryz.func136.trans (congrArg some (by kernel_rfl))
  f219 := Tryz.func154.trans (congrArg some (by kernel_rfl))
  f224 := Tryz.func157.trans (congrArg some (by kernel_rfl))
  f225 := Tryz.func156.trans (congrArg some (by kernel_rfl))
  f266 := Tryz.func146.trans (congrArg some (by kernel_rfl))
  f267 := Tryz.func158.trans (congrArg some (by kernel_rfl))
  f314 := Tryz.func159.trans (congrArg some (by kernel_rfl))
  t3 := Tryz.underlying3
  a3 := Tryz.isAgg3
  z3 := Tryz.sizeOf3
  v3 := Tryz.zeroValue3
  t4 := Tryz.underlying4
  a4 := Tryz.isAgg4
  z4 := Tryz.sizeOf4
  v4 := Tryz.zeroValue4
  t5 := Tryz.underlying5
  a5 := Tryz.isAgg5
  z5 := Tryz.sizeOf5
  v5 := Tryz.zeroValue5
  t9 := Tryz.underlying9
  a9 := Tryz.isAgg9
  z9 := Tryz.sizeOf9
  v9 := Tryz.zeroValue9
  t46 := Tryz.underlying104
  a46 := Tryz.isAgg104
  z46 := Tryz.sizeOf104
  v46 := Tryz.zeroValue104
  t51 := Tryz.underlying142
  a51 := Tryz.isAgg142
  z51 := Tryz.sizeOf142
  v51 := Tryz.zeroValue142
  t146 := Tryz.underlying186
  a146 := Tryz.isAgg186
  z146 := Tryz.sizeOf186
  v146 := Tryz.zeroValue186
  g1 := by kernel_rfl
  i3 := by kernel_rfl
  i4 := by kernel_rfl
  i5 := by kernel_rfl
  i9 := by kernel_rfl
  i46 := by kernel_rfl
  i51 := by kernel_rfl
  i146 := by kernel_rfl
  m1 := by kernel_rfl
  s1_3 := fun w h => Go.Proofs.cell_of_shapedOpen_int (zero := #[.int .i64 0]) (t := 3) h (of_decide_eq_true (by kernel_rfl)) (by kernel_rfl) rfl (by kernel_rfl) (by kernel_rfl) Tryz.underlying3 }
open Go.RowKit Go.Lib in
theorem Tryz.stringslite_Index_shaped (s sub : ByteArray) (w : World) (h : w.ShapedOpen Tryz.prog) (hs : s.size < 4294967281) :
    Calls Tryz.prog 154 #[.string s, .string sub] w fun e w' => e = .returned (.int .i64 (Lib.index s.data.toList sub.data.toList)) ∧ w' = w := Any.stringslite_Index_shaped Tryz.laysM219 s sub w h hs
def Tryz.laysM143_ren : Go.Shelf.Ren := ⟨fun | 143 => 150 | 219 => 154 | 217 => 136 | 225 => 156 | 224 => 157 | 267 => 158 | 266 => 146 | 314 => 159 | n => n, fun | 9 => 9 | 3 => 3 | 4 => 4 | 5 => 5 | 46 => 104 | 146 => 186 | 51 => 142 | n => n, fun | 1 => 0 | n => n⟩
theorem Tryz.laysM143 : Go.Proofs.LaysM.n143 Tryz.prog Tryz.laysM143_ren := {
  mixed := by kernel_rfl
  f143 := Tryz.func150.trans (congrArg some (by kernel_rfl))
  f217 := Tryz.func136.trans (congrArg some (by kernel_rfl))
  f219 := Tryz.func154.trans (congrArg some (by kernel_rfl))
  f224 := Tryz.func157.trans (congrArg some (by kernel_rfl))
  f225 := Tryz.func156.trans (congrArg some (by kernel_rfl))
  f266 := Tryz.func146.trans (congrArg some (by kernel_rfl))
  f267 := Tryz.func158.trans (congrArg some (by kernel_rfl))
  f314 := Tryz.func159.trans (congrArg some (by kernel_rfl))
  t3 := Tryz.underlying3
  a3 := Tryz.isAgg3
  z3 := Tryz.sizeOf3
  v3 := Tryz.zeroValue3
  t4 := Tryz.underlying4
  a4 := Tryz.isAgg4
  z4 := Tryz.sizeOf4
  v4 := Tryz.zeroValue4
  t5 := Tryz.underlying5
  a5 := Tryz.isAgg5
  z5 := Tryz.sizeOf5
  v5 := Tryz.zeroValue5
  t9 := Tryz.underlying9
  a9 := Tryz.isAgg9
  z9 := Tryz.sizeOf9
  v9 := Tryz.zeroValue9
  t46 := Tryz.underlying104
  a46 := Tryz.isAgg104
  z46 := Tryz.sizeOf104
  v46 := Tryz.zeroValue104
  t51 := Tryz.underlying142
  a51 := Tryz.isAgg142
  z51 := Tryz.sizeOf142
  v51 := Tryz.zeroValue142
  t146 := Tryz.underlying186
  a146 := Tryz.isAgg186
  z146 := Tryz.sizeOf186
  v146 := Tryz.zeroValue186
  g1 := by kernel_rfl
  i3 := by kernel_rfl
  i4 := by kernel_rfl
  i5 := by kernel_rfl
  i9 := by kernel_rfl
  i46 := by kernel_rfl
  i51 := by kernel_rfl
  i146 := by kernel_rfl
  m1 := by kernel_rfl
  s1_3 := fun w h => Go.Proofs.cell_of_shapedOpen_int (zero := #[.int .i64 0]) (t := 3) h (of_decide_eq_true (by kernel_rfl)) (by kernel_rfl) rfl (by kernel_rfl) (by kernel_rfl) Tryz.underlying3 }
open Go.RowKit Go.Lib in
theorem Tryz.strings_Index_shaped (s sub : ByteArray) (w : World) (h : w.ShapedOpen Tryz.prog) (hs : s.size < 4294967281) :
    Calls Tryz.prog 150 #[.string s, .string sub] w fun e w' => e = .returned (.int .i64 (Lib.index s.data.toList sub.data.toList)) ∧ w' = w := Any.strings_Index_shaped Tryz.laysM143 s sub w h hs
def Tryz.laysM138_ren : Go.Shelf.Ren := ⟨fun | 138 => 149 | 195 => 151 | 218 => 153 | 143 => 150 | 219 => 154 | 217 => 136 | 225 => 156 | 224 => 157 | 267 => 158 | 266 => 146 | 314 => 159 | n => n, fun | 9 => 9 | 3 => 3 | 4 => 4 | 5 => 5 | 0 => 0 | 46 => 104 | 146 => 186 | 51 => 142 | n => n, fun | 1 => 0 | n => n⟩
theorem Tryz.laysM138 : Go.Proofs.LaysM.n138 Tryz.prog Tryz.laysM138_ren := {
  mixed := by kernel_rfl
  f138 := Tryz.func149.trans (congrArg some (by kernel_rfl))
  f143 := Tryz.func150.trans (congrArg some (by kernel_rfl))
  f195 := Tryz.func151.trans (congrArg some (by kernel_rfl))
  f217 := Tryz.func136.trans (congrArg some (by kernel_rfl))
  f218 := Tryz.func153.trans (congrArg some (by kernel_rfl))
  f219 := Tryz.func154.trans (congrArg some (by kernel_rfl))
  f224 := Tryz.func157.trans (congrArg some (by kernel_rfl))
  f225 := Tryz.func156.trans (congrArg some (by kernel_rfl))
  f266 := Tryz.func146.trans (congrArg some (by kernel_rfl))
  f267 := Tryz.func158.trans (congrArg some (by kernel_rfl))
  f314 := Tryz.func159.trans (congrArg some (by kernel_rfl))
  t0 := Tryz.underlying0
  a0 := Tryz.isAgg0
  z0 := Tryz.sizeOf0
  v0 := Tryz.zeroValue0
  t3 := Tryz.underlying3
  a3 := Tryz.isAgg3
  z3 := Tryz.sizeOf3
  v3 := Tryz.zeroValue3
  t4 := Tryz.underlying4
  a4 := Tryz.isAgg4
  z4 := Tryz.sizeOf4
  v4 := Tryz.zeroValue4
  t5 := Tryz.underlying5
  a5 := Tryz.isAgg5
  z5 := Tryz.sizeOf5
  v5 := Tryz.zeroValue5
  t9 := Tryz.underlying9
  a9 := Tryz.isAgg9
  z9 := Tryz.sizeOf9
  v9 := Tryz.zeroValue9
  t46 := Tryz.underlying104
  a46 := Tryz.isAgg104
  z46 := Tryz.sizeOf104
  v46 := Tryz.zeroValue104
  t51 := Tryz.underlying142
  a51 := Tryz.isAgg142
  z51 := Tryz.sizeOf142
  v51 := Tryz.zeroValue142
  t146 := Tryz.underlying186
  a146 := Tryz.isAgg186
  z146 := Tryz.sizeOf186
  v146 := Tryz.zeroValue186
  g1 := by kernel_rfl
  i0 := by kernel_rfl
  i3 := by kernel_rfl
  i4 := by kernel_rfl
  i5 := by kernel_rfl
  i9 := by kernel_rfl
  i46 := by kernel_rfl
  i51 := by kernel_rfl
  i146 := by kernel_rfl
  m1 := by kernel_rfl
  s1_3 := fun w h => Go.Proofs.cell_of_shapedOpen_int (zero := #[.int .i64 0]) (t := 3) h (of_decide_eq_true (by kernel_rfl)) (by kernel_rfl) rfl (by kernel_rfl) (by kernel_rfl) Tryz.underlying3 }
open Go.RowKit Go.Lib in
theorem Tryz.strings_Count_shaped (s sub : ByteArray) (w : World) (h : w.ShapedOpen Tryz.prog) (hs : s.size < 4294967281) (h2 : 2 ≤ sub.size) :
    Calls Tryz.prog 149 #[.string s, .string sub] w fun e w' => e = .returned (.int .i64 (Lib.countB s sub)) ∧ w' = w := Any.strings_Count_shaped Tryz.laysM138 s sub w h hs h2
def Tryz.lays206_ren : Go.Shelf.Ren := ⟨fun | 206 => 103 | n => n, fun | 9 => 9 | 4 => 4 | 3 => 3 | n => n, fun | n => n⟩
theorem Tryz.lays206 : Go.Proofs.Lays.n206 Tryz.prog Tryz.lays206_ren := {
  mixed := by kernel_rfl
  f206 := Tryz.func103.trans (congrArg some (by kernel_rfl))
  t3 := Tryz.underlying3
  a3 := Tryz.isAgg3
  z3 := Tryz.sizeOf3
  v3 := Tryz.zeroValue3
  t4 := Tryz.underlying4
  a4 := Tryz.isAgg4
  z4 := Tryz.sizeOf4
  v4 := Tryz.zeroValue4
  t9 := Tryz.underlying9
  a9 := Tryz.isAgg9
  z9 := Tryz.sizeOf9
  v9 := Tryz.zeroValue9 }
open Go.RowKit Go.Lib in
/-- internal/stringslite.HasPrefix (what strings.HasPrefix calls). (LAID: no walk: one application.) -/
theorem Tryz.stringslite_HasPrefix (s p : ByteArray) (w : World) :
    Calls Tryz.prog 103 #[.string s, .string p] w fun e w' => e = .returned (.bool (Lib.hasPrefix s.data.toList p.data.toList)) ∧ w' = w := Any.stringslite_HasPrefix Tryz.lays206 s p w
def Tryz.lays99_ren : Go.Shelf.Ren := ⟨fun | 99 => 65 | 206 => 103 | n => n, fun | 9 => 9 | 4 => 4 | 3 => 3 | n => n, fun | n => n⟩
theorem Tryz.lays99 : Go.Proofs.Lays.n99 Tryz.prog Tryz.lays99_ren := {
  mixed := by kernel_rfl
  f99 := Tryz.func65.trans (congrArg some (by kernel_rfl))
  f206 := Tryz.func103.trans (congrArg some (by kernel_rfl))
  t3 := Tryz.underlying3
  a3 := Tryz.isAgg3
  z3 := Tryz.sizeOf3
  v3 := Tryz.zeroValue3
  t4 := Tryz.underlying4
  a4 := Tryz.isAgg4
  z4 := Tryz.sizeOf4
  v4 := Tryz.zeroValue4
  t9 := Tryz.underlying9
  a9 := Tryz.isAgg9
  z9 := Tryz.sizeOf9
  v9 := Tryz.zeroValue9 }
open Go.RowKit Go.Lib in
/-- strings.HasPrefix: "HasPrefix reports whether the string s begins with prefix.": IT RETURNS 'Lib.hasPrefix s prefix'; the world is as it was. (LAID: no walk: one application.) -/
theorem Tryz.strings_HasPrefix (s p : ByteArray) (w : World) :
    Calls Tryz.prog 65 #[.string s, .string p] w fun e w' => e = .returned (.bool (Lib.hasPrefix s.data.toList p.data.toList)) ∧ w' = w := Any.strings_HasPrefix Tryz.lays99 s p w
def Tryz.lays207_ren : Go.Shelf.Ren := ⟨fun | 207 => 132 | n => n, fun | 9 => 9 | 4 => 4 | 3 => 3 | n => n, fun | n => n⟩
theorem Tryz.lays207 : Go.Proofs.Lays.n207 Tryz.prog Tryz.lays207_ren := {
  mixed := by kernel_rfl
  f207 := Tryz.func132.trans (congrArg some (by kernel_rfl))
  t3 := Tryz.underlying3
  a3 := Tryz.isAgg3
  z3 := Tryz.sizeOf3
  v3 := Tryz.zeroValue3
  t4 := Tryz.underlying4
  a4 := Tryz.isAgg4
  z4 := Tryz.sizeOf4
  v4 := Tryz.zeroValue4
  t9 := Tryz.underlying9
  a9 := Tryz.isAgg9
  z9 := Tryz.sizeOf9
  v9 := Tryz.zeroValue9 }
open Go.RowKit Go.Lib in
/-- internal/stringslite.HasSuffix (what strings.HasSuffix calls). (LAID: no walk: one application.) -/
theorem Tryz.stringslite_HasSuffix (s p : ByteArray) (w : World) (hs : s.size ≤ 9223372036854775807) :
    Calls Tryz.prog 132 #[.string s, .string p] w fun e w' => e = .returned (.bool (Lib.hasSuffix s.data.toList p.data.toList)) ∧ w' = w := Any.stringslite_HasSuffix Tryz.lays207 s p w hs
def Tryz.lays100_ren : Go.Shelf.Ren := ⟨fun | 100 => 113 | 207 => 132 | n => n, fun | 9 => 9 | 4 => 4 | 3 => 3 | n => n, fun | n => n⟩
theorem Tryz.lays100 : Go.Proofs.Lays.n100 Tryz.prog Tryz.lays100_ren := {
  mixed := by kernel_rfl
  f100 := Tryz.func113.trans (congrArg some (by kernel_rfl))
  f207 := Tryz.func132.trans (congrArg some (by kernel_rfl))
  t3 := Tryz.underlying3
  a3 := Tryz.isAgg3
  z3 := Tryz.sizeOf3
  v3 := Tryz.zeroValue3
  t4 := Tryz.underlying4
  a4 := Tryz.isAgg4
  z4 := Tryz.sizeOf4
  v4 := Tryz.zeroValue4
  t9 := Tryz.underlying9
  a9 := Tryz.isAgg9
  z9 := Tryz.sizeOf9
  v9 := Tryz.zeroValue9 }
open Go.RowKit Go.Lib in
/-- strings.HasSuffix: "HasSuffix reports whether the string s ends with suffix.": IT RETURNS 'Lib.hasSuffix s suffix'; the world is as it was. ('hs': no Go string is longer: a caller has it of every string that it was handed.) (LAID: no walk: one application.) -/
theorem Tryz.strings_HasSuffix (s p : ByteArray) (w : World) (hs : s.size ≤ 9223372036854775807) :
    Calls Tryz.prog 113 #[.string s, .string p] w fun e w' => e = .returned (.bool (Lib.hasSuffix s.data.toList p.data.toList)) ∧ w' = w := Any.strings_HasSuffix Tryz.lays100 s p w hs
open Go.RowKit Go.Lib in
/-- strings.Count at whatever sep that is not empty: the two roads under one statement. (LAID: no walk: one application.) -/
theorem Tryz.strings_Count_any (s sep : ByteArray) (m : Int) (w : World) (hs : s.size < 4294967281) (hm : w.cell? ⟨0, 0, none⟩ = some (.int .i64 m)) (h1 : 1 ≤ sep.size) :
    Calls Tryz.prog 149 #[.string s, .string sep] w fun e w' => e = .returned (.int .i64 (Lib.countB s sep)) ∧ w' = w := Any.strings_Count_any Tryz.lays138 s sep m w hs hm h1
def Tryz.lays221_ren : Go.Shelf.Ren := ⟨fun | 221 => 144 | 268 => 148 | 138 => 149 | 143 => 150 | 195 => 151 | 197 => 152 | 218 => 153 | 219 => 154 | 260 => 155 | 217 => 136 | 225 => 156 | 224 => 157 | 267 => 158 | 266 => 146 | 314 => 159 | n => n, fun | 9 => 9 | 3 => 3 | 31 => 43 | 4 => 4 | 0 => 0 | 105 => 179 | 21 => 21 | 5 => 5 | 46 => 104 | 119 => 182 | 139 => 185 | 138 => 184 | 146 => 186 | 51 => 142 | n => n, fun | 1 => 0 | 3 => 1 | 4 => 2 | n => n⟩
theorem Tryz.lays221 : Go.Proofs.Lays.n221 Tryz.prog Tryz.lays221_ren := {
  mixed := by kernel_rfl
  f138 := Tryz.func149.trans (congrArg some (by kernel_rfl))
  f143 := Tryz.func150.trans (congrArg some (by kernel_rfl))
  f195 := Tryz.func151.trans (congrArg some (by kernel_rfl))
  f197 := Tryz.func152.trans (congrArg some (by kernel_rfl))
  f217 := Tryz.func136.trans (congrArg some (by kernel_rfl))
  f218 := Tryz.func153.trans (congrArg some (by kernel_rfl))
  f219 := Tryz.func154.trans (congrArg some (by kernel_rfl))
  f221 := Tryz.func144.trans (congrArg some (by kernel_rfl))
  f224 := Tryz.func157.trans (congrArg some (by kernel_rfl))
  f225 := Tryz.func156.trans (congrArg some (by kernel_rfl))
  f260 := Tryz.func155.trans (congrArg some (by kernel_rfl))
  f266 := Tryz.func146.trans (congrArg some (by kernel_rfl))
  f267 := Tryz.func158.trans (congrArg some (by kernel_rfl))
  f268 := Tryz.func148.trans (congrArg some (by kernel_rfl))
  f314 := Tryz.func159.trans (congrArg some (by kernel_rfl))
  t0 := Tryz.underlying0
  a0 := Tryz.isAgg0
  z0 := Tryz.sizeOf0
  v0 := Tryz.zeroValue0
  t3 := Tryz.underlying3
  a3 := Tryz.isAgg3
  z3 := Tryz.sizeOf3
  v3 := Tryz.zeroValue3
  t4 := Tryz.underlying4
  a4 := Tryz.isAgg4
  z4 := Tryz.sizeOf4
  v4 := Tryz.zeroValue4
  t5 := Tryz.underlying5
  a5 := Tryz.isAgg5
  z5 := Tryz.sizeOf5
  v5 := Tryz.zeroValue5
  t9 := Tryz.underlying9
  a9 := Tryz.isAgg9
  z9 := Tryz.sizeOf9
  v9 := Tryz.zeroValue9
  t21 := Tryz.underlying21
  a21 := Tryz.isAgg21
  z21 := Tryz.sizeOf21
  v21 := Tryz.zeroValue21
  t31 := Tryz.underlying43
  a31 := Tryz.isAgg43
  z31 := Tryz.sizeOf43
  v31 := Tryz.zeroValue43
  t46 := Tryz.underlying104
  a46 := Tryz.isAgg104
  z46 := Tryz.sizeOf104
  v46 := Tryz.zeroValue104
  t51 := Tryz.underlying142
  a51 := Tryz.isAgg142
  z51 := Tryz.sizeOf142
  v51 := Tryz.zeroValue142
  t105 := Tryz.underlying179
  a105 := Tryz.isAgg179
  z105 := Tryz.sizeOf179
  v105 := Tryz.zeroValue179
  t119 := Tryz.underlying182
  a119 := Tryz.isAgg182
  z119 := Tryz.sizeOf182
  t138 := Tryz.underlying184
  a138 := Tryz.isAgg184
  z138 := Tryz.sizeOf184
  v138 := Tryz.zeroValue184
  t139 := Tryz.underlying185
  a139 := Tryz.isAgg185
  z139 := Tryz.sizeOf185
  v139 := Tryz.zeroValue185
  t146 := Tryz.underlying186
  a146 := Tryz.isAgg186
  z146 := Tryz.sizeOf186
  v146 := Tryz.zeroValue186
  g1 := by kernel_rfl
  g3 := by kernel_rfl
  g4 := by kernel_rfl }
open Go.RowKit Go.Lib in
theorem Tryz.strings_genSplit (s sep : ByteArray) (sv : Nat) (n : Int) (N : Nat) (m : Int) (w : World) (hs : s.size < 4294967281) (hm : w.cell? ⟨0, 0, none⟩ = some (.int .i64 m)) (h1 : 1 ≤ sep.size) (hsv : sv ≤ sep.size) (hn0 : n ≠ 0) (hn63 : n ≤ 9223372036854775807) (hN : (N : Int) = min (if n < 0 then (Lib.countB s sep : Int) + 1 else n) ((s.size : Int) + 1)) :
    Calls Tryz.prog 144 #[.string s, .string sep, .int .i64 sv, .int .i64 n] w fun e w' =>
      e = .returned (.slice (some ⟨w.heap.size, 0, none⟩) (Lib.splitB sep sv (N - 1) s).length N) ∧ w' = w.alloc (.cells (Lib.cellsOf (Lib.splitB sep sv (N - 1) s) N) 9) := Any.strings_genSplit Tryz.lays221 (by kernel_rfl) s sep sv n N m w hs hm h1 hsv hn0 hn63 hN
def Tryz.lays146_ren : Go.Shelf.Ren := ⟨fun | 146 => 131 | 221 => 144 | 268 => 148 | 138 => 149 | 143 => 150 | 195 => 151 | 197 => 152 | 218 => 153 | 219 => 154 | 260 => 155 | 217 => 136 | 225 => 156 | 224 => 157 | 267 => 158 | 266 => 146 | 314 => 159 | n => n, fun | 9 => 9 | 31 => 43 | 3 => 3 | 4 => 4 | 0 => 0 | 105 => 179 | 21 => 21 | 5 => 5 | 46 => 104 | 119 => 182 | 139 => 185 | 138 => 184 | 146 => 186 | 51 => 142 | n => n, fun | 1 => 0 | 3 => 1 | 4 => 2 | n => n⟩
theorem Tryz.lays146 : Go.Proofs.Lays.n146 Tryz.prog Tryz.lays146_ren := {
  mixed := by kernel_rfl
  f138 := Tryz.func149.trans (congrArg some (by kernel_rfl))
  f143 := Tryz.func150.trans (congrArg some (by kernel_rfl))
  f146 := Tryz.func131.trans (congrArg some (by kernel_rfl))
  f195 := Tryz.func151.trans (congrArg some (by kernel_rfl))
  f197 := Tryz.func152.trans (congrArg some (by kernel_rfl))
  f217 := Tryz.func136.trans (congrArg some (by kernel_rfl))
  f218 := Tryz.func153.trans (congrArg some (by kernel_rfl))
  f219 := Tryz.func154.trans (congrArg some (by kernel_rfl))
  f221 := Tryz.func144.trans (congrArg some (by kernel_rfl))
  f224 := Tryz.func157.trans (congrArg some (by kernel_rfl))
  f225 := Tryz.func156.trans (congrArg some (by kernel_rfl))
  f260 := Tryz.func155.trans (congrArg some (by kernel_rfl))
  f266 := Tryz.func146.trans (congrArg some (by kernel_rfl))
  f267 := Tryz.func158.trans (congrArg some (by kernel_rfl))
  f268 := Tryz.func148.trans (congrArg some (by kernel_rfl))
  f314 := Tryz.func159.trans (congrArg some (by kernel_rfl))
  t0 := Tryz.underlying0
  a0 := Tryz.isAgg0
  z0 := Tryz.sizeOf0
  v0 := Tryz.zeroValue0
  t3 := Tryz.underlying3
  a3 := Tryz.isAgg3
  z3 := Tryz.sizeOf3
  v3 := Tryz.zeroValue3
  t4 := Tryz.underlying4
  a4 := Tryz.isAgg4
  z4 := Tryz.sizeOf4
  v4 := Tryz.zeroValue4
  t5 := Tryz.underlying5
  a5 := Tryz.isAgg5
  z5 := Tryz.sizeOf5
  v5 := Tryz.zeroValue5
  t9 := Tryz.underlying9
  a9 := Tryz.isAgg9
  z9 := Tryz.sizeOf9
  v9 := Tryz.zeroValue9
  t21 := Tryz.underlying21
  a21 := Tryz.isAgg21
  z21 := Tryz.sizeOf21
  v21 := Tryz.zeroValue21
  t31 := Tryz.underlying43
  a31 := Tryz.isAgg43
  z31 := Tryz.sizeOf43
  v31 := Tryz.zeroValue43
  t46 := Tryz.underlying104
  a46 := Tryz.isAgg104
  z46 := Tryz.sizeOf104
  v46 := Tryz.zeroValue104
  t51 := Tryz.underlying142
  a51 := Tryz.isAgg142
  z51 := Tryz.sizeOf142
  v51 := Tryz.zeroValue142
  t105 := Tryz.underlying179
  a105 := Tryz.isAgg179
  z105 := Tryz.sizeOf179
  v105 := Tryz.zeroValue179
  t119 := Tryz.underlying182
  a119 := Tryz.isAgg182
  z119 := Tryz.sizeOf182
  t138 := Tryz.underlying184
  a138 := Tryz.isAgg184
  z138 := Tryz.sizeOf184
  v138 := Tryz.zeroValue184
  t139 := Tryz.underlying185
  a139 := Tryz.isAgg185
  z139 := Tryz.sizeOf185
  v139 := Tryz.zeroValue185
  t146 := Tryz.underlying186
  a146 := Tryz.isAgg186
  z146 := Tryz.sizeOf186
  v146 := Tryz.zeroValue186
  g1 := by kernel_rfl
  g3 := by kernel_rfl
  g4 := by kernel_rfl }
open Go.RowKit Go.Lib in
/-- strings.Split. (LAID: no walk: one application.) -/
theorem Tryz.strings_Split (s sep : ByteArray) (m : Int) (w : World) (hs : s.size < 4294967281) (hm : w.cell? ⟨0, 0, none⟩ = some (.int .i64 m)) (h1 : 1 ≤ sep.size) :
    Calls Tryz.prog 131 #[.string s, .string sep] w fun e w' =>
      e = .returned (.slice (some ⟨w.heap.size, 0, none⟩) (Lib.countB s sep + 1) (Lib.countB s sep + 1)) ∧ w' = w.alloc (.cells ((Lib.splitB sep 0 (Lib.countB s sep) s).map Value.string).toArray 9) := Any.strings_Split Tryz.lays146 (by kernel_rfl) s sep m w hs hm h1
def Tryz.laysM146_ren : Go.Shelf.Ren := ⟨fun | 146 => 131 | 221 => 144 | 268 => 148 | 138 => 149 | 143 => 150 | 195 => 151 | 197 => 152 | 218 => 153 | 219 => 154 | 260 => 155 | 217 => 136 | 225 => 156 | 224 => 157 | 267 => 158 | 266 => 146 | 314 => 159 | n => n, fun | 9 => 9 | 31 => 43 | 3 => 3 | 4 => 4 | 0 => 0 | 105 => 179 | 21 => 21 | 5 => 5 | 46 => 104 | 119 => 182 | 139 => 185 | 138 => 184 | 146 => 186 | 51 => 142 | n => n, fun | 1 => 0 | 3 => 1 | 4 => 2 | n => n⟩
theorem Tryz.laysM146 : Go.Proofs.LaysM.n146 Tryz.prog Tryz.laysM146_ren := {
  mixed := by kernel_rfl
  f138 := Tryz.func149.trans (congrArg some (by kernel_rfl))
  f143 := Tryz.func150.trans (congrArg some (by kernel_rfl))
  f146 := Tryz.func131.trans (congrArg some (by kernel_rfl))
  f195 := Tryz.func151.trans (congrArg some (by kernel_rfl))
  f197 := Tryz.func152.trans (congrArg some (by kernel_rfl))
  f217 := Tryz.func136.trans (congrArg some (by kernel_rfl))
  f218 := Tryz.func153.trans (congrArg some (by kernel_rfl))
  f219 := Tryz.func154.trans (congrArg some (by kernel_rfl))
  f221 := Tryz.func144.trans (congrArg some (by kernel_rfl))
  f224 := Tryz.func157.trans (congrArg some (by kernel_rfl))
  f225 := Tryz.func156.trans (congrArg some (by kernel_rfl))
  f260 := Tryz.func155.trans (congrArg some (by kernel_rfl))
  f266 := Tryz.func146.trans (congrArg some (by kernel_rfl))
  f267 := Tryz.func158.trans (congrArg some (by kernel_rfl))
  f268 := Tryz.func148.trans (congrArg some (by kernel_rfl))
  f314 := Tryz.func159.trans (congrArg some (by kernel_rfl))
  t0 := Tryz.underlying0
  a0 := Tryz.isAgg0
  z0 := Tryz.sizeOf0
  v0 := Tryz.zeroValue0
  t3 := Tryz.underlying3
  a3 := Tryz.isAgg3
  z3 := Tryz.sizeOf3
  v3 := Tryz.zeroValue3
  t4 := Tryz.underlying4
  a4 := Tryz.isAgg4
  z4 := Tryz.sizeOf4
  v4 := Tryz.zeroValue4
  t5 := Tryz.underlying5
  a5 := Tryz.isAgg5
  z5 := Tryz.sizeOf5
  v5 := Tryz.zeroValue5
  t9 := Tryz.underlying9
  a9 := Tryz.isAgg9
  z9 := Tryz.sizeOf9
  v9 := Tryz.zeroValue9
  t21 := Tryz.underlying21
  a21 := Tryz.isAgg21
  z21 := Tryz.sizeOf21
  v21 := Tryz.zeroValue21
  t31 := Tryz.underlying43
  a31 := Tryz.isAgg43
  z31 := Tryz.sizeOf43
  v31 := Tryz.zeroValue43
  t46 := Tryz.underlying104
  a46 := Tryz.isAgg104
  z46 := Tryz.sizeOf104
  v46 := Tryz.zeroValue104
  t51 := Tryz.underlying142
  a51 := Tryz.isAgg142
  z51 := Tryz.sizeOf142
  v51 := Tryz.zeroValue142
  t105 := Tryz.underlying179
  a105 := Tryz.isAgg179
  z105 := Tryz.sizeOf179
  v105 := Tryz.zeroValue179
  t119 := Tryz.underlying182
  a119 := Tryz.isAgg182
  z119 := Tryz.sizeOf182
  t138 := Tryz.underlying184
  a138 := Tryz.isAgg184
  z138 := Tryz.sizeOf184
  v138 := Tryz.zeroValue184
  t139 := Tryz.underlying185
  a139 := Tryz.isAgg185
  z139 := Tryz.sizeOf185
  v139 := Tryz.zeroValue185
  t146 := Tryz.underlying186
  a146 := Tryz.isAgg186
  z146 := Tryz.sizeOf186
  v146 := Tryz.zeroValue186
  g1 := by kernel_rfl
  g3 := by kernel_rfl
  g4 := by kernel_rfl
  i0 := by kernel_rfl
  i3 := by kernel_rfl
  i4 := by kernel_rfl
  i5 := by kernel_rfl
  i9 := by kernel_rfl
  i21 := by kernel_rfl
  i31 := by kernel_rfl
  i46 := by kernel_rfl
  i51 := by kernel_rfl
  i105 := by kernel_rfl
  i138 := by kernel_rfl
  i139 := by kernel_rfl
  i146 := by kernel_rfl
  m1 := by kernel_rfl
  s1_3 := fun w h => Go.Proofs.cell_of_shapedOpen_int (zero := #[.int .i64 0]) (t := 3) h (of_decide_eq_true (by kernel_rfl)) (by kernel_rfl) rfl (by kernel_rfl) (by kernel_rfl) Tryz.underlying3
  m3 := by kernel_rfl
  m4 := by kernel_rfl }
open Go.RowKit Go.Lib in
/-- strings.Split, sep not empty. (LAID: no walk: one application.) -/
theorem Tryz.strings_Split_shaped (s sep : ByteArray) (w : World) (h : w.ShapedOpen Tryz.prog) (hs : s.size < 4294967281) (h1 : 1 ≤ sep.size) :
    Calls Tryz.prog 131 #[.string s, .string sep] w fun e w' =>
      e = .returned (.slice (some ⟨w.heap.size, 0, none⟩) (Lib.countB s sep + 1) (Lib.countB s sep + 1)) ∧ w' = w.alloc (.cells ((Lib.splitB sep 0 (Lib.countB s sep) s).map Value.string).toArray 9) := Any.strings_Split_shaped Tryz.laysM146 s sep w h hs h1
def Tryz.lays197_ren : Go.Shelf.Ren := ⟨fun | 197 => 152 | 260 => 155 | n => n, fun | 9 => 9 | 21 => 21 | 3 => 3 | 4 => 4 | 5 => 5 | 105 => 179 | 119 => 182 | 0 => 0 | 46 => 104 | 139 => 185 | 138 => 184 | n => n, fun | 3 => 1 | 4 => 2 | n => n⟩
theorem Tryz.lays197 : Go.Proofs.Lays.n197 Tryz.prog Tryz.lays197_ren := {
  mixed := by kernel_rfl
  f197 := Tryz.func152.trans (congrArg some (by kernel_rfl))
  f260 := Tryz.func155.trans (congrArg some (by kernel_rfl))
  t0 := Tryz.underlying0
  a0 := Tryz.isAgg0
  z0 := Tryz.sizeOf0
  v0 := Tryz.zeroValue0
  t3 := Tryz.underlying3
  a3 := Tryz.isAgg3
  z3 := Tryz.sizeOf3
  v3 := Tryz.zeroValue3
  t4 := Tryz.underlying4
  a4 := Tryz.isAgg4
  z4 := Tryz.sizeOf4
  v4 := Tryz.zeroValue4
  t5 := Tryz.underlying5
  a5 := Tryz.isAgg5
  z5 := Tryz.sizeOf5
  v5 := Tryz.zeroValue5
  t9 := Tryz.underlying9
  a9 := Tryz.isAgg9
  z9 := Tryz.sizeOf9
  v9 := Tryz.zeroValue9
  t21 := Tryz.underlying21
  a21 := Tryz.isAgg21
  z21 := Tryz.sizeOf21
  v21 := Tryz.zeroValue21
  t46 := Tryz.underlying104
  a46 := Tryz.isAgg104
  z46 := Tryz.sizeOf104
  v46 := Tryz.zeroValue104
  t105 := Tryz.underlying179
  a105 := Tryz.isAgg179
  z105 := Tryz.sizeOf179
  v105 := Tryz.zeroValue179
  t119 := Tryz.underlying182
  a119 := Tryz.isAgg182
  z119 := Tryz.sizeOf182
  t138 := Tryz.underlying184
  a138 := Tryz.isAgg184
  z138 := Tryz.sizeOf184
  v138 := Tryz.zeroValue184
  t139 := Tryz.underlying185
  a139 := Tryz.isAgg185
  z139 := Tryz.sizeOf185
  v139 := Tryz.zeroValue185
  g3 := by kernel_rfl
  g4 := by kernel_rfl }
open Go.RowKit Go.Lib in
/-- unicode/utf8.DecodeRuneInString: "DecodeRuneInString is like DecodeRune but its input is a string.": ("DecodeRune unpacks the first UTF-8 encoding in p and returns the rune and its width in bytes."): WHERE s BEGINS WITH AN ASCII BYTE x: (x, 1). (LAID: no walk: one application.) -/
theorem Tryz.utf8_DecodeRuneInString_ascii (s : ByteArray) (x : UInt8) (w : World) (h0 : s.data.toList[0]? = some x) (hx : x.toNat < 128) :
    Calls Tryz.prog 152 #[.string s] w fun e w' => e = .returned (.tuple #[.int .i32 x.toNat, .int .i64 1]) ∧ w' = w := Any.utf8_DecodeRuneInString_ascii Tryz.lays197 s x w h0 hx
open Go.RowKit Go.Lib in
theorem Tryz.utf8_RuneCountInString_ascii (s : ByteArray) (w : World) (hs : s.size < 4294967281) (hascii : ∀ (j : Nat) b, s.data.toList[j]? = some b → b.toNat < 128) :
    Calls Tryz.prog 151 #[.string s] w fun e w' => e = .returned (.int .i64 s.size) ∧ w' = w.iter s s.size := Any.utf8_RuneCountInString_ascii Tryz.lays195 s w hs hascii
def Tryz.lays268_ren : Go.Shelf.Ren := ⟨fun | 268 => 148 | 195 => 151 | 197 => 152 | 260 => 155 | n => n, fun | 9 => 9 | 3 => 3 | 31 => 43 | 4 => 4 | 105 => 179 | 21 => 21 | 0 => 0 | 5 => 5 | 119 => 182 | 46 => 104 | 139 => 185 | 138 => 184 | n => n, fun | 3 => 1 | 4 => 2 | n => n⟩
theorem Tryz.lays268 : Go.Proofs.Lays.n268 Tryz.prog Tryz.lays268_ren := {
  mixed := by kernel_rfl
  f195 := Tryz.func151.trans (congrArg some (by kernel_rfl))
  f197 := Tryz.func152.trans (congrArg some (by kernel_rfl))
  f260 := Tryz.func155.trans (congrArg some (by kernel_rfl))
  f268 := Tryz.func148.trans (congrArg some (by kernel_rfl))
  t0 := Tryz.underlying0
  a0 := Tryz.isAgg0
  z0 := Tryz.sizeOf0
  v0 := Tryz.zeroValue0
  t3 := Tryz.underlying3
  a3 := Tryz.isAgg3
  z3 := Tryz.sizeOf3
  v3 := Tryz.zeroValue3
  t4 := Tryz.underlying4
  a4 := Tryz.isAgg4
  z4 := Tryz.sizeOf4
  v4 := Tryz.zeroValue4
  t5 := Tryz.underlying5
  a5 := Tryz.isAgg5
  z5 := Tryz.sizeOf5
  v5 := Tryz.zeroValue5
  t9 := Tryz.underlying9
  a9 := Tryz.isAgg9
  z9 := Tryz.sizeOf9
  v9 := Tryz.zeroValue9
  t21 := Tryz.underlying21
  a21 := Tryz.isAgg21
  z21 := Tryz.sizeOf21
  v21 := Tryz.zeroValue21
  t31 := Tryz.underlying43
  a31 := Tryz.isAgg43
  z31 := Tryz.sizeOf43
  v31 := Tryz.zeroValue43
  t46 := Tryz.underlying104
  a46 := Tryz.isAgg104
  z46 := Tryz.sizeOf104
  v46 := Tryz.zeroValue104
  t105 := Tryz.underlying179
  a105 := Tryz.isAgg179
  z105 := Tryz.sizeOf179
  v105 := Tryz.zeroValue179
  t119 := Tryz.underlying182
  a119 := Tryz.isAgg182
  z119 := Tryz.sizeOf182
  t138 := Tryz.underlying184
  a138 := Tryz.isAgg184
  z138 := Tryz.sizeOf184
  v138 := Tryz.zeroValue184
  t139 := Tryz.underlying185
  a139 := Tryz.isAgg185
  z139 := Tryz.sizeOf185
  v139 := Tryz.zeroValue185
  g3 := by kernel_rfl
  g4 := by kernel_rfl }
open Go.RowKit Go.Lib in
theorem Tryz.strings_explode_all (s : ByteArray) (n : Int) (w : World) (hn : n < 0) (hs : s.size < 4294967281) (hascii : ∀ (j : Nat) b, s.data.toList[j]? = some b → b.toNat < 128) :
    Calls Tryz.prog 148 #[.string s, .int .i64 n] w fun e w' =>
      e = .returned (.slice (some ⟨(w.iter s s.size).heap.size, 0, none⟩) s.size s.size) ∧ w' = (w.iter s s.size).alloc (.cells ((Lib.charsB s).map Value.string).toArray 9) := Any.strings_explode_all Tryz.lays268 (by kernel_rfl) s n w hn hs hascii
open Go.RowKit Go.Lib in
/-- strings.genSplit at sep == "", n < 0: 'return explode(s, n)'. (LAID: no walk: one application.) -/
theorem Tryz.strings_genSplit_chars (s sep : ByteArray) (sv n : Int) (w : World) (h0 : sep.size = 0) (hn : n < 0) (hs : s.size < 4294967281) (hascii : ∀ (j : Nat) b, s.data.toList[j]? = some b → b.toNat < 128) :
    Calls Tryz.prog 144 #[.string s, .string sep, .int .i64 sv, .int .i64 n] w fun e w' =>
      e = .returned (.slice (some ⟨(w.iter s s.size).heap.size, 0, none⟩) s.size s.size) ∧ w' = (w.iter s s.size).alloc (.cells ((Lib.charsB s).map Value.string).toArray 9) := Any.strings_genSplit_chars Tryz.lays221 (by kernel_rfl) s sep sv n w h0 hn hs hascii
open Go.RowKit Go.Lib in
/-- strings.Split(s, ""), s ASCII: a piece a byte. (LAID: no walk: one application.) -/
theorem Tryz.strings_Split_chars (s sep : ByteArray) (w : World) (h0 : sep.size = 0) (hs : s.size < 4294967281) (hascii : ∀ (j : Nat) b, s.data.toList[j]? = some b → b.toNat < 128) :
    Calls Tryz.prog 131 #[.string s, .string sep] w fun e w' =>
      e = .returned (.slice (some ⟨(w.iter s s.size).heap.size, 0, none⟩) s.size s.size) ∧ w' = (w.iter s s.size).alloc (.cells ((Lib.charsB s).map Value.string).toArray 9) := Any.strings_Split_chars Tryz.lays146 (by kernel_rfl) s sep w h0 hs hascii
def Tryz.lays260_ren : Go.Shelf.Ren := ⟨fun | 260 => 155 | n => n, fun | 9 => 9 | 21 => 21 | 3 => 3 | 4 => 4 | 5 => 5 | 119 => 182 | 0 => 0 | 46 => 104 | 139 => 185 | 138 => 184 | n => n, fun | 3 => 1 | 4 => 2 | n => n⟩
theorem Tryz.lays260 : Go.Proofs.Lays.n260 Tryz.prog Tryz.lays260_ren := {
  mixed := by kernel_rfl
  f260 := Tryz.func155.trans (congrArg some (by kernel_rfl))
  t0 := Tryz.underlying0
  a0 := Tryz.isAgg0
  z0 := Tryz.sizeOf0
  v0 := Tryz.zeroValue0
  t3 := Tryz.underlying3
  a3 := Tryz.isAgg3
  z3 := Tryz.sizeOf3
  v3 := Tryz.zeroValue3
  t4 := Tryz.underlying4
  a4 := Tryz.isAgg4
  z4 := Tryz.sizeOf4
  v4 := Tryz.zeroValue4
  t5 := Tryz.underlying5
  a5 := Tryz.isAgg5
  z5 := Tryz.sizeOf5
  v5 := Tryz.zeroValue5
  t9 := Tryz.underlying9
  a9 := Tryz.isAgg9
  z9 := Tryz.sizeOf9
  v9 := Tryz.zeroValue9
  t21 := Tryz.underlying21
  a21 := Tryz.isAgg21
  z21 := Tryz.sizeOf21
  v21 := Tryz.zeroValue21
  t46 := Tryz.underlying104
  a46 := Tryz.isAgg104
  z46 := Tryz.sizeOf104
  v46 := Tryz.zeroValue104
  t119 := Tryz.underlying182
  a119 := Tryz.isAgg182
  z119 := Tryz.sizeOf182
  t138 := Tryz.underlying184
  a138 := Tryz.isAgg184
  z138 := Tryz.sizeOf184
  v138 := Tryz.zeroValue184
  t139 := Tryz.underlying185
  a139 := Tryz.isAgg185
  z139 := Tryz.sizeOf185
  v139 := Tryz.zeroValue185
  g3 := by kernel_rfl
  g4 := by kernel_rfl }
open Go.RowKit Go.Lib in
theorem Tryz.utf8_decodeRuneInStringSlow (s : ByteArray) (w : World) (hT : Lib.Utf8Tabs 1 2 w) :
    Calls Tryz.prog 155 #[.string s] w fun e w' => e = .returned (.tuple #[.int .i32 (Lib.decodeGo s).1, .int .i64 (Lib.decodeGo s).2]) ∧ Below w.heap.size w w' := Any.utf8_decodeRuneInStringSlow Tryz.lays260 s w hT
open Go.RowKit Go.Lib in
/-- **unicode/utf8.DecodeRuneInString AT EVERY STRING.** (LAID: no walk: one application.) -/
theorem Tryz.utf8_DecodeRuneInString (s : ByteArray) (w : World) (hT : Lib.Utf8Tabs 1 2 w) :
    Calls Tryz.prog 152 #[.string s] w fun e w' => e = .returned (.tuple #[.int .i32 (Lib.decodeGo s).1, .int .i64 (Lib.decodeGo s).2]) ∧ Below w.heap.size w w' := Any.utf8_DecodeRuneInString Tryz.lays197 s w hT
def Tryz.laysNm237_ren : Go.Shelf.Ren := ⟨fun | 37 => 61 | n => n, fun | 3 => 3 | 4 => 4 | n => n, fun | n => n⟩
theorem Tryz.laysNm237 : Go.Proofs.Lays2.n37 Tryz.prog Tryz.laysNm237_ren := {
  mixed := by kernel_rfl
  f37 := Tryz.func61.trans (congrArg some (by kernel_rfl))
  t3 := Tryz.underlying3
  a3 := Tryz.isAgg3
  z3 := Tryz.sizeOf3
  v3 := Tryz.zeroValue3
  t4 := Tryz.underlying4
  a4 := Tryz.isAgg4
  z4 := Tryz.sizeOf4
  v4 := Tryz.zeroValue4 }
open Go.RowKit Go.Lib in
/-- cmp.isNaN[int]: 'x != x': false. (LAID: no walk: one application.) -/
theorem Tryz.cmp_isNaN_int2 (x : Int) (w : World) :
    Calls Tryz.prog 61 #[.int .i64 x] w fun e w' => e = .returned (.bool false) ∧ w' = w := Any.cmp_isNaN_int2 Tryz.laysNm237 x w
end Go.Proofs
/- The contracts of path.components, Split, Join. -/
namespace Go.Proofs.YtmhmnchdhacdbaaGreatDoor
open Go.RowKit
set_option linter.unusedVariables false

/-- The library's variable MaxLen holds some number. -/
def Env (w : World) : Prop := ∃ m : Int, w.cell? ⟨0, 0, none⟩ = some (.int .i64 m)
theorem Env.below {w w' : World} (h : Env w) (hb : Below w.heap.size w w') : Env w' := by
  obtain ⟨m, hm⟩ := h; exact ⟨m, (hb.cell (p := ⟨0, 0, none⟩) (cell_lt hm)).trans hm⟩
theorem Env.alloc {w : World} (h : Env w) (o : Obj) : Env (w.alloc o) := h.below ((Below.refl _ _).alloc (Nat.le_refl _) _)

def baL (p : List UInt8) : ByteArray := ⟨p.toArray⟩
def strCells (ps : List (List UInt8)) : List Value := ps.map fun p => .string (baL p)
theorem baL_data (p : List UInt8) : (baL p).data.toList = p := rfl
theorem baL_size (p : List UInt8) : (baL p).size = p.length := by simp [baL, ByteArray.size]

theorem cutP_yes (s p body : ByteArray) (w : World) (h : Lib.hasPrefix s.data.toList p.data.toList = true) (hb : body.data.toList = s.data.toList.drop p.data.toList.length) :
    Calls Tryz.prog 130 #[.string s, .string p] w fun e w' => e = .returned (.tuple #[.string body, .bool true]) ∧ w = w' := by
  refine (Tryz.strings_CutPrefix s p w).mono ?_
  rintro e w' ⟨rfl, rfl⟩
  rw [h]
  have : (⟨(Lib.trimPrefix s.data.toList p.data.toList).toArray⟩ : ByteArray) = body := ba_ext (by rw [hb]; unfold Lib.trimPrefix; rw [h]; rfl)
  rw [this]
  exact ⟨rfl, rfl⟩
theorem cutP_no (s p : ByteArray) (w : World) (h : Lib.hasPrefix s.data.toList p.data.toList = false) :
    Calls Tryz.prog 130 #[.string s, .string p] w fun e w' => e = .returned (.tuple #[.string s, .bool false]) ∧ w = w' := by
  refine (Tryz.strings_CutPrefix s p w).mono ?_
  rintro e w' ⟨rfl, rfl⟩
  rw [h]
  have : (⟨(Lib.trimPrefix s.data.toList p.data.toList).toArray⟩ : ByteArray) = s := ba_ext (by unfold Lib.trimPrefix; rw [h]; rfl)
  rw [this]
  exact ⟨rfl, rfl⟩

theorem split_any (s : ByteArray) (w : World) (he : Env w) (hs : s.size < 4294967281) :
    Calls Tryz.prog 131 #[.string s, .string ⟨#[47]⟩] w fun e w' =>
      e = .returned (.slice (some ⟨w.heap.size, 0, none⟩) (splitL s.data.toList).length (splitL s.data.toList).length) ∧ w.alloc (.cells (strCells (splitL s.data.toList)).toArray 9) = w' := by
  obtain ⟨m, hm⟩ := he
  refine (Tryz.strings_Split s ⟨#[47]⟩ m w hs hm (by decide)).mono ?_
  rintro e w' ⟨rfl, rfl⟩
  rw [countB_eq, splitB_eq]
  exact ⟨rfl, by unfold strCells; rw [List.map_map]; rfl⟩

theorem Blk.strs {w : World} {g : Nat} {ps : List (List UInt8)} (h : Blk w g 9 (strCells ps)) (k : Nat) (hk : k < ps.length) : w.cell? ⟨g, k, none⟩ = some (.string (baL ps[k])) := by
  rw [h.cell]; simp [strCells, hk]

set_option maxHeartbeats 1000000 in
theorem components_some (s : ByteArray) (least : Nat) (ps : List (List UInt8)) (w : World) (he : Env w) (hs : s.size ≤ 2000000) (hl : least ≤ 2) (h : dirL s.data.toList least = some ps) :
    Calls Tryz.prog 104 #[.string s, .int .i64 least] w fun e w' => e = .returned (.tuple #[.slice (some ⟨w.heap.size, 0, none⟩) ps.length ps.length, .bool true]) ∧ w.alloc (.cells (strCells ps).toArray 9) = w' := by
  unfold dirL at h
  split at h
  · rename_i hc
    obtain ⟨h1, h2, h3⟩ := hc
    injection h with h
    have hbl : (baL (s.data.toList.drop 2)).size ≤ 2000000 := by rw [baL_size, List.length_drop]; have : s.data.toList.length = s.size := rfl; omega
    have hmem : ∀ p ∈ ps, compL p = true ∧ p.length ≤ 2000000 := fun p hp => by
      rw [← h] at hp
      exact ⟨List.all_eq_true.1 h3 p hp, by have := (splitL_mem hp).2; rw [baL_size] at hbl; omega⟩
    have HS := Lib.hid (split_any (baL (s.data.toList.drop 2)) w he (by omega))
    have HP := Lib.hid (cutP_yes s ⟨#[47, 47]⟩ (baL (s.data.toList.drop 2)) w h1 rfl)
    rw [baL_data, h] at HS
    rw [h] at h2
    have hlen : ps.length ≤ 2000001 := by rw [← h]; have := splitL_length_le (s.data.toList.drop 2); rw [baL_size] at hbl; omega
    have HM := Lib.hid hmem
    have hd2 : decide (ps.length < least) = false := by simp; omega
    have hd3 : decide ((ps.length : Int) < (least : Int)) = false := by simp; omega
    have HB := Lib.hid (blk_new w (strCells ps) 9)
    clear h h1 h3 hmem
    generalize w.alloc (.cells (strCells ps).toArray 9) = W at HS HB ⊢
    go_enter Tryz.func104, Tryz.ntmps104
    go_wp2_with fail
    refine HP.out.mono ?_
    rintro e w' ⟨rfl, rfl⟩
    go_wp2_with fail
    refine HS.out.mono ?_
    rintro e w' ⟨rfl, rfl⟩
    go_wp2
    go_loop [26] (fun i => ∃ k : Nat, k ≤ ps.length ∧ i = .int .i64 k) (fun i => ps.length - (intOf i).toNat)
    case atStart => exact ⟨0, Nat.zero_le _, rfl⟩
    case round =>
      obtain ⟨k, hk, rfl⟩ := hrel
      by_cases hlt : k < ps.length
      · have hcell := HB.out.strs k hlt
        obtain ⟨hc1, hc2⟩ := HM.out ps[k] (by simp)
        have hcs : compS (baL ps[k]) = true := hc1
        go_wp2_with (go_at_call 66; refine (component_any _ _ (by rw [baL_size]; unfold maxLen; omega)).mono ?_; rintro e w' ⟨rfl, rfl⟩)
        go_round
        case rel => exact ⟨k + 1, by omega, by go_num⟩
        case measure => simp [intOf]; omega
      · go_wp2
        go_ret2
        exact ⟨rfl, rfl⟩
  · cases h

theorem all_take {α : Type} (ps : List α) (f : α → Bool) (k : Nat) (hk : k < ps.length) (h : (ps.take k).all f = true) (hf : f ps[k] = true) : (ps.take (k + 1)).all f = true := by
  rw [List.take_succ_eq_append_getElem hk, List.all_append, h]; simp [hf]

set_option maxHeartbeats 1000000 in
theorem components_none (s : ByteArray) (least : Nat) (w : World) (he : Env w) (hs : s.size ≤ 2000000) (h : dirL s.data.toList least = none) :
    Calls Tryz.prog 104 #[.string s, .int .i64 least] w fun e w' => e = .returned (.tuple #[.slice none 0 0, .bool false]) ∧ Below w.heap.size w w' := by
  cases h1 : Lib.hasPrefix s.data.toList [47, 47]
  · have HP := Lib.hid (cutP_no s ⟨#[47, 47]⟩ w h1)
    clear h h1
    go_enter Tryz.func104, Tryz.ntmps104
    go_wp2_with fail
    refine HP.out.mono ?_
    rintro e w' ⟨rfl, rfl⟩
    go_wp2
    go_ret2
    exact ⟨rfl, Below.refl _ _⟩
  · have hbl : (baL (s.data.toList.drop 2)).size ≤ 2000000 := by rw [baL_size, List.length_drop]; have : s.data.toList.length = s.size := rfl; omega
    have HS := Lib.hid (split_any (baL (s.data.toList.drop 2)) w he (by omega))
    have HP := Lib.hid (cutP_yes s ⟨#[47, 47]⟩ (baL (s.data.toList.drop 2)) w h1 rfl)
    rw [baL_data] at HS
    have hmem : ∀ p ∈ splitL (s.data.toList.drop 2), p.length ≤ 2000000 := fun p hp => by
      have := (splitL_mem hp).2; rw [baL_size] at hbl; omega
    have hlen : (splitL (s.data.toList.drop 2)).length ≤ 2000001 := by have := splitL_length_le (s.data.toList.drop 2); rw [baL_size] at hbl; omega
    have hno : ¬ (least ≤ (splitL (s.data.toList.drop 2)).length ∧ (splitL (s.data.toList.drop 2)).all compL = true) := fun hc => by
      unfold dirL at h; rw [if_pos ⟨h1, hc⟩] at h; cases h
    clear h h1
    generalize splitL (s.data.toList.drop 2) = ps at HS hmem hlen hno
    have HB := Lib.hid (blk_new w (strCells ps) 9)
    have HM := Lib.hid hmem
    have hbw : Below w.heap.size w (w.alloc (.cells (strCells ps).toArray 9)) := (Below.refl _ _).alloc (Nat.le_refl _) _
    clear hmem
    by_cases h2 : least ≤ ps.length
    · have hd2 : decide (ps.length < least) = false := by simp; omega
      have hd3 : decide ((ps.length : Int) < (least : Int)) = false := by simp; omega
      have hno' : ps.all compL = false := by cases hh : ps.all compL; rfl; exact absurd ⟨h2, hh⟩ hno
      have HN := Lib.hid hno'
      clear hno hno'
      generalize w.alloc (.cells (strCells ps).toArray 9) = W at HS HB hbw
      go_enter Tryz.func104, Tryz.ntmps104
      go_wp2_with fail
      refine HP.out.mono ?_
      rintro e w' ⟨rfl, rfl⟩
      go_wp2_with fail
      refine HS.out.mono ?_
      rintro e w' ⟨rfl, rfl⟩
      go_wp2
      go_loop [26] (fun i => ∃ k : Nat, k ≤ ps.length ∧ i = .int .i64 k ∧ (ps.take k).all compL = true) (fun i => ps.length - (intOf i).toNat)
      case atStart => exact ⟨0, Nat.zero_le _, rfl, rfl⟩
      case round =>
        obtain ⟨k, hk, rfl, hall⟩ := hrel
        have HA := Lib.hid hall
        clear hall
        by_cases hlt : k < ps.length
        · have hcell := HB.out.strs k hlt
          have hc2 := HM.out ps[k] (by simp)
          cases hc1 : compL ps[k]
          · have hcs : compS (baL ps[k]) = false := hc1
            clear hc1
            go_wp2_with (go_at_call 66; refine (component_any _ _ (by rw [baL_size]; unfold maxLen; omega)).mono ?_; rintro e w' ⟨rfl, rfl⟩)
            go_ret2
            exact ⟨rfl, hbw⟩
          · have hcs : compS (baL ps[k]) = true := hc1
            have HC := Lib.hid hc1
            clear hc1
            go_wp2_with (go_at_call 66; refine (component_any _ _ (by rw [baL_size]; unfold maxLen; omega)).mono ?_; rintro e w' ⟨rfl, rfl⟩)
            go_round
            case rel => exact ⟨k + 1, by omega, by go_num, all_take ps compL k hlt HA.out HC.out⟩
            case measure => simp [intOf]; omega
        · have := HA.out
          rw [List.take_of_length_le (by omega), HN.out] at this
          cases this
    · have hd2 : decide (ps.length < least) = true := by simp; omega
      have hd3 : decide ((ps.length : Int) < (least : Int)) = true := by simp; omega
      clear hno
      generalize w.alloc (.cells (strCells ps).toArray 9) = W at HS HB hbw
      go_enter Tryz.func104, Tryz.ntmps104
      go_wp2_with fail
      refine HP.out.mono ?_
      rintro e w' ⟨rfl, rfl⟩
      go_wp2_with fail
      refine HS.out.mono ?_
      rintro e w' ⟨rfl, rfl⟩
      go_wp2
      go_ret2
      exact ⟨rfl, hbw⟩

theorem split_some (s : ByteArray) (ps : List (List UInt8)) (w : World) (he : Env w) (hs : s.size ≤ 2000000) (h : dirL s.data.toList 2 = some ps) :
    Calls Tryz.prog 68 #[.string s] w fun e w' => e = .returned (.tuple #[.slice (some ⟨w.heap.size, 0, none⟩) ps.length ps.length, .int .i64 0]) ∧ w.alloc (.cells (strCells ps).toArray 9) = w' := by
  have H := Lib.hid (components_some s 2 ps w he hs (by omega) h)
  generalize w.alloc (.cells (strCells ps).toArray 9) = W at H ⊢
  clear h he
  go_enter Tryz.func68, Tryz.ntmps68
  go_wp2_with fail
  refine H.out.mono ?_
  rintro e w' ⟨rfl, rfl⟩
  go_wp2
  go_ret2
  exact ⟨rfl, rfl⟩
theorem split_none (s : ByteArray) (w : World) (he : Env w) (hs : s.size ≤ 2000000) (h : dirL s.data.toList 2 = none) :
    Calls Tryz.prog 68 #[.string s] w fun e w' => e = .returned (.tuple #[.slice none 0 0, .int .i64 20]) ∧ Below w.heap.size w w' := by
  have H := Lib.hid (components_none s 2 w he hs h)
  clear h he
  go_enter Tryz.func68, Tryz.ntmps68
  go_wp2_with fail
  refine H.out.mono ?_
  rintro e w' ⟨rfl, hb⟩
  go_wp2
  go_ret2
  exact ⟨rfl, hb⟩

end Go.Proofs.YtmhmnchdhacdbaaGreatDoor
/- The contracts of path.Join and of the reference's Component, Parts, Path, Join. -/
namespace Go.Proofs.YtmhmnchdhacdbaaGreatDoor
open Go.RowKit
set_option linter.unusedVariables false

def joinP (ps : List (List UInt8)) : List UInt8 := [47, 47] ++ Lib.join ps [47]
/-- The cells of a block from o on hold these texts. -/
def StrsAt (w : World) (bk o : Nat) (ps : List (List UInt8)) : Prop := ∀ k (hk : k < ps.length), w.cell? ⟨bk, o + k, none⟩ = some (.string (baL ps[k]))
theorem StrsAt.lt {w : World} {bk o : Nat} {ps : List (List UInt8)} (h : StrsAt w bk o ps) (h0 : 0 < ps.length) : bk < w.heap.size := cell_lt (h 0 h0)
theorem StrsAt.below {w w' : World} {bk o : Nat} {ps : List (List UInt8)} (h : StrsAt w bk o ps) (hb : Below w.heap.size w w') : StrsAt w' bk o ps := fun k hk => cell_below (h k hk) hb (cell_lt (h k hk))
theorem StrsAt.of_blk {w : World} {g : Nat} {ps : List (List UInt8)} (h : Blk w g 9 (strCells ps)) : StrsAt w g 0 ps := fun k hk => by rw [Nat.zero_add]; exact h.strs k hk

theorem strs_get (ps : List (List UInt8)) (j : Nat) (x : ByteArray) (h : (ps.map baL)[j]? = some x) : ∃ hk : j < ps.length, x = baL ps[j] := by
  rw [List.getElem?_map] at h
  rcases hj : ps[j]? with _ | p
  · rw [hj] at h; cases h
  · rw [hj] at h
    obtain ⟨hk, e⟩ := List.getElem?_eq_some_iff.1 hj
    exact ⟨hk, by rw [e]; simpa using h.symm⟩
theorem map_baL (ps : List (List UInt8)) : (ps.map baL).map (·.data.toList) = ps := by
  rw [List.map_map]; conv => rhs; rw [← List.map_id ps]
  exact List.map_congr_left fun p _ => baL_data p

theorem strJoin (ps : List (List UInt8)) (bk o c : Nat) (w : World) (hc : StrsAt w bk o ps) (h0 : 0 < ps.length) (hcap : ps.length ≤ c) (hn : ps.length ≤ 2000000) (hlen : (Lib.join ps [47]).length ≤ 10000000000) :
    Calls Tryz.prog 43 #[.slice (some ⟨bk, o, none⟩) ps.length c, .string ⟨#[47]⟩] w fun e w' => e = .returned (.string (baL (Lib.join ps [47]))) ∧ Below w.heap.size w w' := by
  have H := Tryz.strings_Join bk o c (ps.map baL) ⟨#[47]⟩ w (fun j x hx => by obtain ⟨hk, rfl⟩ := strs_get ps j x hx; exact hc j hk) (hc.lt h0) (by simp; omega) (by simpa using hcap)
    (by rw [map_baL]; show (Lib.join ps [47]).length ≤ _; omega)
  rw [map_baL, List.length_map] at H
  exact H

/-! The reference. -/
def letters : List UInt8 := [65, 66, 67, 68, 69, 70, 71, 72, 73, 74, 75, 76, 77, 78, 79, 80, 81, 82, 83, 84, 85, 86, 87, 88, 89, 90, 97, 98, 99, 100, 101, 102, 103, 104, 105, 106, 107, 108, 109, 110, 111, 112, 113, 114, 115, 116, 117, 118, 119, 120, 121, 122, 48, 49, 50, 51, 52, 53, 54, 55, 56, 57, 95, 46, 43, 45]
theorem letters_fin : ∀ n : Fin 256, decide (Lib.indexByte letters (UInt8.ofNat n.val) < 0) = !byteB (n.val : Int) := by decide +kernel
theorem letters_all (c : UInt8) : decide (Lib.indexByte letters c < 0) = !byteB c.toNat := by
  have := letters_fin ⟨c.toNat, c.toNat_lt⟩
  simpa using this
theorem letters_int (c : UInt8) : ((c.toNat : Int)).toNat.toUInt8 = c := by simp
theorem refLetter (c : UInt8) (w : World) (b : Bool) (h : byteB c.toNat = b) : Calls Tryz.prog 114 #[.string ⟨letters.toArray⟩, .int .u8 c.toNat] w fun e w' => ∃ n : Int, e = .returned (.int .i64 n) ∧ decide (n < 0) = (!b) ∧ w = w' := by
  refine (Tryz.strings_IndexByte ⟨letters.toArray⟩ c.toNat w).mono ?_
  rintro e w' ⟨rfl, rfl⟩
  exact ⟨_, rfl, by rw [letters_int]; show decide (Lib.indexByte letters c < 0) = _; rw [letters_all, h], rfl⟩

set_option maxHeartbeats 1000000 in
theorem refComponent_any (s : ByteArray) (w : World) (hs : s.size ≤ maxLen) :
    Calls Tryz.prog 111 #[.string s] w fun e w' => e = .returned (.bool (compS s)) ∧ w = w' := by
  unfold maxLen at hs
  rcases Nat.eq_zero_or_pos s.size with h0 | h0
  · have hne : s.toList = [] := by rw [ByteArray.toList_eq]; exact List.eq_nil_of_length_eq_zero (by simpa using h0)
    have H0 := Lib.hid (compS_nil h0)
    clear h0
    go_enter Tryz.func111, Tryz.ntmps111
    go_wp2_with fail
    go_ret
    exact ⟨ret_bool H0.out.symm, rfl⟩
  · obtain ⟨c, t, hd, hc⟩ := size_pos_of h0
    have hne : s.toList.isEmpty = false := by rw [ByteArray.toList_eq, hd]; rfl
    have hne2 : ¬ s.toList = [] := by rw [ByteArray.toList_eq, hd]; simp
    have HD := Lib.hid hd
    by_cases hc46 : c = 46
    · have h46 : ((s[0].toNat : Int) == 46) = true := by rw [hc, hc46]; rfl
      clear hd hc
      go_enter Tryz.func111, Tryz.ntmps111
      go_wp2_with fail
      go_ret
      exact ⟨ret_bool (compS_dot HD.out hc46).symm, rfl⟩
    · have h46 : ((s[0].toNat : Int) == 46) = false := by
        rw [hc, beq_eq_false_iff_ne]; intro h; exact hc46 (UInt8.toNat.inj (show c.toNat = 46 by omega))
      have HE := Lib.hid (compS_all HD.out hc46)
      clear hd hc HD hc46
      go_enter Tryz.func111, Tryz.ntmps111
      go_wp2_with fail
      clear h46
      go_loop [3] (fun i => ∃ k : Nat, k ≤ s.size ∧ i = .int .i64 k ∧ (s.data.toList.take k).all (fun c => byteB c.toNat) = true) (fun i => s.size - (intOf i).toNat)
      case atStart => exact ⟨0, Nat.zero_le _, rfl, rfl⟩
      case round =>
        obtain ⟨k, hk, rfl, hall⟩ := hrel
        have HA := Lib.hid hall
        clear hall
        by_cases hlt : k < s.size
        · cases hl : byteB s[k].toNat
          · have HL := Lib.hid hl
            clear hl
            go_wp2_with fail
            refine (refLetter s[k] _ _ HL.out).mono ?_
            rintro e w' ⟨n, rfl, hn, rfl⟩
            have hn' : decide (n < 0) = true := hn
            clear hn
            go_wp2
            go_ret
            exact ⟨ret_bool (compS_no (all_stop s (fun c => byteB c.toNat) k hlt HL.out)).symm, rfl⟩
          · have HL := Lib.hid hl
            clear hl
            go_wp2_with fail
            refine (refLetter s[k] _ _ HL.out).mono ?_
            rintro e w' ⟨n, rfl, hn, rfl⟩
            have hn' : decide (n < 0) = false := hn
            clear hn
            go_wp2
            go_round
            case rel => exact ⟨k + 1, by omega, by go_num, all_step s (fun c => byteB c.toNat) k hlt HA.out HL.out⟩
            case measure => simp [intOf]; omega
        · go_wp2_with fail
          go_ret
          exact ⟨ret_bool (by rw [HE.out, all_end s _ k hlt HA.out]), rfl⟩

/-- The reference's Parts. -/
def partsL (l : List UInt8) : Option (List (List UInt8)) := dirL l 1
theorem partsL_some {l : List UInt8} {ps : List (List UInt8)} (h : dirL l 1 = some ps) : Lib.hasPrefix l [47, 47] = true ∧ ps = splitL (l.drop 2) ∧ ps.all compL = true := by
  unfold dirL at h
  split at h
  · rename_i hc; injection h with h; subst h; exact ⟨hc.1, rfl, hc.2.2⟩
  · cases h
theorem partsL_none {l : List UInt8} (h : dirL l 1 = none) (h1 : Lib.hasPrefix l [47, 47] = true) : (splitL (l.drop 2)).all compL = false := by
  unfold dirL at h
  split at h
  · cases h
  · rename_i hc
    cases hh : (splitL (l.drop 2)).all compL
    · rfl
    · exact absurd ⟨h1, by have := splitL_ne (l.drop 2); cases hs : splitL (l.drop 2) <;> simp_all, hh⟩ hc
theorem hasPrefix_sizeR {s : ByteArray} (h : Lib.hasPrefix s.data.toList [47, 47] = true) : 2 ≤ s.size := by
  have : s.data.toList.length = s.size := rfl
  rw [← this]
  cases hl : s.data.toList with
  | nil => rw [hl] at h; cases h
  | cons a l => cases l with
    | nil => rw [hl] at h; unfold Lib.hasPrefix at h; simp at h
    | cons b l => simp

theorem hasPR (s p : ByteArray) (w : World) (b : Bool) (h : Lib.hasPrefix s.data.toList p.data.toList = b) : Calls Tryz.prog 65 #[.string s, .string p] w fun e w' => e = .returned (.bool b) ∧ w = w' := by
  refine (Tryz.strings_HasPrefix s p w).mono ?_
  rintro e w' ⟨rfl, rfl⟩
  exact ⟨by rw [h], rfl⟩

theorem ext_eq (s : ByteArray) (k : Nat) : s.extract k s.size = baL (s.data.toList.drop k) := ba_ext (by
  rw [baL_data]; exact Lib.extract_to_end s k)
theorem split_ext (s : ByteArray) (k : Nat) (w : World) (he : Env w) (hs : s.size ≤ 2000000) :
    Calls Tryz.prog 131 #[.string (s.extract k s.size), .string ⟨#[47]⟩] w fun e w' =>
      e = .returned (.slice (some ⟨w.heap.size, 0, none⟩) (splitL (s.data.toList.drop k)).length (splitL (s.data.toList.drop k)).length) ∧ w.alloc (.cells (strCells (splitL (s.data.toList.drop k))).toArray 9) = w' := by
  rw [ext_eq]
  exact split_any (baL (s.data.toList.drop k)) w he (by rw [baL_size, List.length_drop]; have : s.data.toList.length = s.size := rfl; omega)
theorem split_bounds (s : ByteArray) (k : Nat) (hs : s.size ≤ 2000000) : (splitL (s.data.toList.drop k)).length ≤ 2000001 ∧ ∀ p ∈ splitL (s.data.toList.drop k), p.length ≤ 2000000 := by
  have h1 := splitL_length_le (s.data.toList.drop k)
  have hl : (s.data.toList.drop k).length ≤ 2000000 := by rw [List.length_drop]; have : s.data.toList.length = s.size := rfl; omega
  exact ⟨by omega, fun p hp => by have := (splitL_mem hp).2; omega⟩

set_option maxHeartbeats 1000000 in
theorem refParts_some (s : ByteArray) (ps : List (List UInt8)) (w : World) (he : Env w) (hs : s.size ≤ 2000000) (h : dirL s.data.toList 1 = some ps) :
    Calls Tryz.prog 110 #[.string s] w fun e w' => e = .returned (.tuple #[.slice (some ⟨w.heap.size, 0, none⟩) ps.length ps.length, .bool true]) ∧ w.alloc (.cells (strCells ps).toArray 9) = w' := by
  obtain ⟨h1, rfl, h3⟩ := partsL_some h
  have h2 := hasPrefix_sizeR h1
  have HP := Lib.hid (hasPR s ⟨#[47, 47]⟩ w true h1)
  obtain ⟨hb1, hb2⟩ := split_bounds s 2 hs
  have HS := Lib.hid (split_ext s 2 w he hs)
  clear h h1
  generalize splitL (s.data.toList.drop 2) = ps at *
  have HB := Lib.hid (blk_new w (strCells ps) 9)
  have HM := Lib.hid hb2
  have HA := Lib.hid h3
  clear hb2 h3
  generalize w.alloc (.cells (strCells ps).toArray 9) = W at HS HB ⊢
  go_enter Tryz.func110, Tryz.ntmps110
  go_wp2_with fail
  refine HP.out.mono ?_
  rintro e w' ⟨rfl, rfl⟩
  go_wp2_with fail
  refine HS.out.mono ?_
  rintro e w' ⟨rfl, rfl⟩
  go_wp2_with fail
  go_loop [15] (fun i => ∃ k : Nat, k ≤ ps.length ∧ i = .int .i64 k) (fun i => ps.length - (intOf i).toNat)
  case atStart => exact ⟨0, Nat.zero_le _, rfl⟩
  case round =>
    obtain ⟨k, hk, rfl⟩ := hrel
    by_cases hlt : k < ps.length
    · have hcell := HB.out.strs k hlt
      have hc2 := HM.out ps[k] (by simp)
      have hcs : compS (baL ps[k]) = true := List.all_eq_true.1 HA.out _ (List.getElem_mem hlt)
      go_wp2_with (go_at_call 111; refine (refComponent_any _ _ (by rw [baL_size]; unfold maxLen; omega)).mono ?_; rintro e w' ⟨rfl, rfl⟩)
      go_round
      case rel => exact ⟨k + 1, by omega, by go_num⟩
      case measure => simp [intOf]; omega
    · go_wp2
      go_ret2
      exact ⟨rfl, rfl⟩

set_option maxHeartbeats 1000000 in
theorem refParts_none (s : ByteArray) (w : World) (he : Env w) (hs : s.size ≤ 2000000) (h : dirL s.data.toList 1 = none) :
    Calls Tryz.prog 110 #[.string s] w fun e w' => e = .returned (.tuple #[.slice none 0 0, .bool false]) ∧ Below w.heap.size w w' := by
  cases h1 : Lib.hasPrefix s.data.toList [47, 47]
  · have HP := Lib.hid (hasPR s ⟨#[47, 47]⟩ w false h1)
    clear h h1
    go_enter Tryz.func110, Tryz.ntmps110
    go_wp2_with fail
    refine HP.out.mono ?_
    rintro e w' ⟨rfl, rfl⟩
    go_wp2
    go_ret2
    exact ⟨rfl, Below.refl _ _⟩
  · have h2 := hasPrefix_sizeR h1
    have HP := Lib.hid (hasPR s ⟨#[47, 47]⟩ w true h1)
    have HN := Lib.hid (partsL_none h h1)
    obtain ⟨hb1, hb2⟩ := split_bounds s 2 hs
    have HS := Lib.hid (split_ext s 2 w he hs)
    clear h h1
    generalize splitL (s.data.toList.drop 2) = ps at *
    have HB := Lib.hid (blk_new w (strCells ps) 9)
    have HM := Lib.hid hb2
    have hbw : Below w.heap.size w (w.alloc (.cells (strCells ps).toArray 9)) := (Below.refl _ _).alloc (Nat.le_refl _) _
    clear hb2
    generalize w.alloc (.cells (strCells ps).toArray 9) = W at HS HB hbw ⊢
    go_enter Tryz.func110, Tryz.ntmps110
    go_wp2_with fail
    refine HP.out.mono ?_
    rintro e w' ⟨rfl, rfl⟩
    go_wp2_with fail
    refine HS.out.mono ?_
    rintro e w' ⟨rfl, rfl⟩
    go_wp2_with fail
    go_loop [15] (fun i => ∃ k : Nat, k ≤ ps.length ∧ i = .int .i64 k ∧ (ps.take k).all compL = true) (fun i => ps.length - (intOf i).toNat)
    case atStart => exact ⟨0, Nat.zero_le _, rfl, rfl⟩
    case round =>
      obtain ⟨k, hk, rfl, hall⟩ := hrel
      have HA := Lib.hid hall
      clear hall
      by_cases hlt : k < ps.length
      · have hcell := HB.out.strs k hlt
        have hc2 := HM.out ps[k] (by simp)
        cases hc1 : compL ps[k]
        · have hcs : compS (baL ps[k]) = false := hc1
          clear hc1
          go_wp2_with (go_at_call 111; refine (refComponent_any _ _ (by rw [baL_size]; unfold maxLen; omega)).mono ?_; rintro e w' ⟨rfl, rfl⟩)
          go_ret2
          exact ⟨rfl, hbw⟩
        · have hcs : compS (baL ps[k]) = true := hc1
          have HD := Lib.hid hc1
          clear hc1
          go_wp2_with (go_at_call 111; refine (refComponent_any _ _ (by rw [baL_size]; unfold maxLen; omega)).mono ?_; rintro e w' ⟨rfl, rfl⟩)
          go_round
          case rel => exact ⟨k + 1, by omega, by go_num, all_take ps compL k hlt HA.out HD.out⟩
          case measure => simp [intOf]; omega
      · have := HA.out
        rw [List.take_of_length_le (by omega), HN.out] at this
        cases this

theorem dir_two {l : List UInt8} {ps : List (List UInt8)} (h : dirL l 2 = some ps) : dirL l 1 = some ps ∧ 2 ≤ ps.length := by
  unfold dirL at h ⊢
  split at h
  · rename_i hc
    injection h with h
    subst h
    exact ⟨if_pos ⟨hc.1, by omega, hc.2.2⟩, hc.2.1⟩
  · cases h
theorem dir_two_none {l : List UInt8} {ps : List (List UInt8)} (h : dirL l 2 = none) (h1 : dirL l 1 = some ps) : ps.length < 2 := by
  obtain ⟨a, rfl, c⟩ := partsL_some h1
  unfold dirL at h
  split at h
  · cases h
  · rename_i hc
    exact Nat.lt_of_not_le fun hh => hc ⟨a, hh, c⟩

set_option maxHeartbeats 1000000 in
theorem refPath_some (s : ByteArray) (ps : List (List UInt8)) (w : World) (he : Env w) (hs : s.size ≤ 2000000) (h : dirL s.data.toList 2 = some ps) :
    Calls Tryz.prog 74 #[.string s] w fun e w' => e = .returned (.tuple #[.slice (some ⟨w.heap.size, 0, none⟩) ps.length ps.length, .bool true]) ∧ w.alloc (.cells (strCells ps).toArray 9) = w' := by
  obtain ⟨h1, h2⟩ := dir_two h
  have H := Lib.hid (refParts_some s ps w he hs h1)
  clear h h1 he
  have hd : decide ((ps.length : Int) < 2) = false := by simp; omega
  generalize w.alloc (.cells (strCells ps).toArray 9) = W at H ⊢
  go_enter Tryz.func74, Tryz.ntmps74
  go_wp2_with fail
  refine H.out.mono ?_
  rintro e w' ⟨rfl, rfl⟩
  go_wp2
  go_ret2
  exact ⟨rfl, rfl⟩
set_option maxHeartbeats 1000000 in
theorem refPath_none (s : ByteArray) (w : World) (he : Env w) (hs : s.size ≤ 2000000) (h : dirL s.data.toList 2 = none) :
    Calls Tryz.prog 74 #[.string s] w fun e w' => e = .returned (.tuple #[.slice none 0 0, .bool false]) ∧ Below w.heap.size w w' := by
  cases h1 : dirL s.data.toList 1 with
  | none =>
    have H := Lib.hid (refParts_none s w he hs h1)
    clear h h1 he
    go_enter Tryz.func74, Tryz.ntmps74
    go_wp2_with fail
    refine H.out.mono ?_
    rintro e w' ⟨rfl, hb⟩
    go_wp2
    go_ret2
    exact ⟨rfl, hb⟩
  | some ps =>
    have h2 := dir_two_none h h1
    have H := Lib.hid (refParts_some s ps w he hs h1)
    have hd : decide ((ps.length : Int) < 2) = true := by simp; omega
    have hbw : Below w.heap.size w (w.alloc (.cells (strCells ps).toArray 9)) := (Below.refl _ _).alloc (Nat.le_refl _) _
    clear h h1 he
    generalize w.alloc (.cells (strCells ps).toArray 9) = W at H hbw
    go_enter Tryz.func74, Tryz.ntmps74
    go_wp2_with fail
    refine H.out.mono ?_
    rintro e w' ⟨rfl, rfl⟩
    go_wp2
    go_ret2
    exact ⟨rfl, hbw⟩

end Go.Proofs.YtmhmnchdhacdbaaGreatDoor
/- The reference's Compare, Order, Before: the walks. -/
namespace Go.Proofs.YtmhmnchdhacdbaaGreatDoor
open Go.RowKit
set_option linter.unusedVariables false
set_option linter.unusedSimpArgs false

theorem strCmp (a b : ByteArray) (w : World) : Calls Tryz.prog 108 #[.string a, .string b] w fun e w' => e = .returned (.int .i64 (Lib.compareBytes a.data.toList b.data.toList)) ∧ w = w' :=
  (Tryz.strings_Compare a b w).mono fun e w' ⟨h1, h2⟩ => ⟨h1, h2.symm⟩
/-- Of both lists the first k agree. -/
def agree (ps qs : List (List UInt8)) (k : Nat) : Prop := cmpC (ps.drop k) (qs.drop k) = cmpC ps qs
theorem agree_next {ps qs : List (List UInt8)} {k : Nat} (h1 : k < ps.length) (h2 : k < qs.length) (h : agree ps qs k) : (Lib.compareBytes ps[k] qs[k] = 0 → agree ps qs (k + 1)) ∧ (Lib.compareBytes ps[k] qs[k] ≠ 0 → cmpC ps qs = Lib.compareBytes ps[k] qs[k]) := by
  unfold agree at h ⊢
  rw [List.drop_eq_getElem_cons h1, List.drop_eq_getElem_cons h2, cmpC] at h
  refine ⟨fun h0 => ?_, fun h0 => ?_⟩
  · rw [if_pos h0] at h; exact h
  · rw [if_neg h0] at h; exact h.symm
theorem agree_end {ps qs : List (List UInt8)} {k : Nat} (h : agree ps qs k) (hk : k ≤ ps.length) (hk2 : k ≤ qs.length) (he : k = ps.length ∨ k = qs.length) : cmpC ps qs = if ps.length < qs.length then -1 else if qs.length < ps.length then 1 else 0 := by
  unfold agree at h
  rw [← h]
  rcases he with rfl | rfl
  · rw [List.drop_length]
    by_cases hq : ps.length < qs.length
    · rw [if_pos hq, List.drop_eq_getElem_cons hq]; rfl
    · have : ps.length = qs.length := by omega
      rw [if_neg hq, if_neg (by omega), this, List.drop_length]; rfl
  · rw [List.drop_length]
    by_cases hq : qs.length < ps.length
    · rw [if_neg (by omega), if_pos hq, List.drop_eq_getElem_cons hq]; rfl
    · have : ps.length = qs.length := by omega
      rw [if_neg (by omega), if_neg hq, ← this, List.drop_length]; rfl

set_option maxRecDepth 100000 in
set_option maxHeartbeats 4000000 in
theorem compare_parts (ps qs : List (List UInt8)) (g1 g2 : Nat) (w : World) (hp : StrsAt w g1 0 ps) (hq : StrsAt w g2 0 qs) (h1 : ps.length ≤ 2000001) (h2 : qs.length ≤ 2000001) :
    Calls Tryz.prog 109 #[.slice (some ⟨g1, 0, none⟩) ps.length ps.length, .slice (some ⟨g2, 0, none⟩) qs.length qs.length] w fun e w' => e = .returned (.int .i64 (cmpC ps qs)) ∧ Below w.heap.size w w' := by
  have HP := Lib.hid hp
  have HQ := Lib.hid hq
  have HC := Lib.hid (fun a b X => strCmp a b X)
  clear hp hq
  go_enter Tryz.func109, Tryz.ntmps109
  go_wp2_with fail
  go_loopw [5] (fun s wr => ∃ k : Nat, s = .int .i64 k ∧ k ≤ ps.length ∧ k ≤ qs.length ∧ Hid (agree ps qs k ∧ Below w.heap.size w wr)) (fun s _ => ps.length - (intOf s).toNat)
  case atStart => exact ⟨0, rfl, Nat.zero_le _, Nat.zero_le _, rfl, Below.refl _ _⟩
  case round =>
    obtain ⟨k, rfl, hk, hk2, HI⟩ := hrel
    by_cases hlt : k < ps.length
    · by_cases hlt2 : k < qs.length
      · have hx : wr.cell? ⟨g1, k, none⟩ = some (.string (baL ps[k])) := by
          have h := HP.out k hlt
          rw [Nat.zero_add] at h
          exact cell_below h HI.out.2 (cell_lt h)
        have hy : wr.cell? ⟨g2, k, none⟩ = some (.string (baL qs[k])) := by
          have h := HQ.out k hlt2
          rw [Nat.zero_add] at h
          exact cell_below h HI.out.2 (cell_lt h)
        have HN := Lib.hid (agree_next hlt hlt2 HI.out.1)
        have z1 : (k : Int) < (ps.length : Int) := by omega
        have z2 : (k : Int) < (qs.length : Int) := by omega
        have d1 : decide (k < ps.length) = true := by simp; omega
        have d2 : decide (k < qs.length) = true := by simp; omega
        generalize ps[k] = x at hx HN
        generalize qs[k] = y at hy HN
        go_wp2_with fail
        go_quiet ((go_at_call 108; exact quiet_left (strCmp _ _ _)))
        clear hx hy d1 d2
        have HB : Hid (Below w.heap.size w (wr.drewN nq)) := Lib.hid (below_dN HI.out.2 nq)
        generalize wr.drewN nq = wz at HB ⊢
        rw [baL_data, baL_data]
        by_cases h0 : Lib.compareBytes x y = 0
        · have HA := Lib.hid (HN.out.1 h0)
          rw [h0]
          clear h0 HN
          go_wp2_with fail
          go_roundw
          case rel => exact ⟨k + 1, by go_num, by omega, by omega, HA.out, HB.out⟩
          case measure => simp [intOf]; omega
        · have HA := Lib.hid (HN.out.2 h0)
          have q : (Lib.compareBytes x y != 0) = true := by simpa using h0
          generalize Lib.compareBytes x y = c at HA q
          clear h0 HN
          go_wp2_with fail
          go_ret
          exact ⟨by rw [HA.out]; rfl, HB.out⟩
      · have d1 : decide (k < ps.length) = true := by simp; omega
        have d2 : decide (k < qs.length) = false := by simp; omega
        have HA := Lib.hid (agree_end HI.out.1 hk hk2 (.inr (by omega)))
        have d3 : decide (ps.length < qs.length) = false := by simp; omega
        have d4 : decide (qs.length < ps.length) = true := by simp; omega
        have HV : Hid ((if ps.length < qs.length then (-1 : Int) else if qs.length < ps.length then 1 else 0) = 1) := Lib.hid (by rw [if_neg (by omega), if_pos (by omega)])
        go_wp2_with fail
        go_ret
        exact ⟨by rw [HA.out, HV.out]; rfl, HI.out.2⟩
    · have d1 : decide (k < ps.length) = false := by simp; omega
      have HA := Lib.hid (agree_end HI.out.1 hk hk2 (.inl (by omega)))
      by_cases hq : ps.length < qs.length
      · have d3 : decide (ps.length < qs.length) = true := by simp; omega
        have HV : Hid ((if ps.length < qs.length then (-1 : Int) else if qs.length < ps.length then 1 else 0) = -1) := Lib.hid (by rw [if_pos (by omega)])
        go_wp2_with fail
        go_ret
        exact ⟨by rw [HA.out, HV.out]; rfl, HI.out.2⟩
      · have d3 : decide (ps.length < qs.length) = false := by simp; omega
        have d4 : decide (qs.length < ps.length) = false := by simp; omega
        have HV : Hid ((if ps.length < qs.length then (-1 : Int) else if qs.length < ps.length then 1 else 0) = 0) := Lib.hid (by rw [if_neg (by omega), if_neg (by omega)])
        go_wp2_with fail
        go_ret
        exact ⟨by rw [HA.out, HV.out]; rfl, HI.out.2⟩

/-- What Order leaves: for two paths the program's own order. -/
def OrdPost (w : World) (a b : ByteArray) (e : Ending) (w' : World) : Prop := ∃ n : Int, e = .returned (.int .i64 n) ∧ Below w.heap.size w w' ∧ (validS a = true → validS b = true → n = cmpP a b)
theorem valid_none {a : ByteArray} (h : dirL a.data.toList 2 = none) : validS a = false := by unfold validS validB; rw [h]; rfl
/-- What Order says of any two texts. -/
def ordF (a b : ByteArray) : Int := match dirL a.data.toList 2, dirL b.data.toList 2 with
  | none, none => Lib.compareBytes a.data.toList b.data.toList
  | none, some _ => -1
  | some _, none => 1
  | some ps, some qs => cmpC ps qs
theorem ordF_valid {a b : ByteArray} (ha : validS a = true) (hb : validS b = true) : ordF a b = cmpP a b := by
  unfold ordF
  cases hda : dirL a.data.toList 2 with
  | none => rw [valid_none hda] at ha; cases ha
  | some ps =>
    cases hdb : dirL b.data.toList 2 with
    | none => rw [valid_none hdb] at hb; cases hb
    | some qs => exact (cmpP_comps hda hdb).symm
set_option maxRecDepth 100000 in
set_option maxHeartbeats 4000000 in
theorem order_det (a b : ByteArray) (w : World) (he : Env w) (ha : a.size ≤ 2000000) (hb : b.size ≤ 2000000) :
    Calls Tryz.prog 73 #[.string a, .string b] w fun e w' => e = .returned (.int .i64 (ordF a b)) ∧ Below w.heap.size w w' := by
  have HE := Lib.hid he
  clear he
  have HC := Lib.hid (fun a b X => strCmp a b X)
  cases hda : dirL a.data.toList 2 with
  | none =>
    have HVA := Lib.hid (valid_none hda)
    have HA := Lib.hid (refPath_none a w HE.out ha hda)
    cases hdb : dirL b.data.toList 2 with
    | none =>
      have HB := Lib.hid (fun X (hX : Below w.heap.size w X) => refPath_none b X (HE.out.below hX) hb hdb)
      have HF : Hid (ordF a b = Lib.compareBytes a.data.toList b.data.toList) := Lib.hid (by unfold ordF; rw [hda, hdb])
      clear hda hdb
      go_enter Tryz.func73, Tryz.ntmps73
      go_wp2_with fail
      refine HA.out.mono ?_
      rintro e w1 ⟨rfl, hb1⟩
      have HB1 := Lib.hid (HB.out w1 hb1)
      have H1 := Lib.hid hb1
      clear hb1
      go_wp2_with fail
      refine HB1.out.mono ?_
      rintro e w2 ⟨rfl, hb2⟩
      have H2 := Lib.hid hb2
      clear hb2
      go_wp2_with fail
      refine (HC.out a b w2).mono ?_
      rintro e w3 ⟨rfl, rfl⟩
      go_wp2_with fail
      go_ret
      exact ⟨ret_int HF.out.symm, below_next H1.out H2.out⟩
    | some qs =>
      have HB := Lib.hid (fun X (hX : Below w.heap.size w X) => refPath_some b qs X (HE.out.below hX) hb hdb)
      have HF : Hid (ordF a b = -1) := Lib.hid (by unfold ordF; rw [hda, hdb])
      clear hda hdb
      go_enter Tryz.func73, Tryz.ntmps73
      go_wp2_with fail
      refine HA.out.mono ?_
      rintro e w1 ⟨rfl, hb1⟩
      have HB1 := Lib.hid (HB.out w1 hb1)
      have H1 := Lib.hid hb1
      clear hb1
      go_wp2_with fail
      refine HB1.out.mono ?_
      rintro e w2 ⟨rfl, rfl⟩
      have H2 : Hid (Below w1.heap.size w1 (w1.alloc (.cells (strCells qs).toArray 9))) := Lib.hid ((Below.refl _ _).alloc (Nat.le_refl _) _)
      generalize w1.alloc (.cells (strCells qs).toArray 9) = w2 at H2 ⊢
      go_wp2_with fail
      go_ret
      exact ⟨ret_int HF.out.symm, below_next H1.out H2.out⟩
  | some ps =>
    have HA := Lib.hid (refPath_some a ps w HE.out ha hda)
    have hA1 : Below w.heap.size w (w.alloc (.cells (strCells ps).toArray 9)) := (Below.refl _ _).alloc (Nat.le_refl _) _
    have hS1 := StrsAt.of_blk (blk_new w (strCells ps) 9)
    cases hdb : dirL b.data.toList 2 with
    | none =>
      have HVB := Lib.hid (valid_none hdb)
      have HB := Lib.hid (fun X (hX : Below w.heap.size w X) => refPath_none b X (HE.out.below hX) hb hdb)
      have HF : Hid (ordF a b = 1) := Lib.hid (by unfold ordF; rw [hda, hdb])
      clear hda hdb
      go_enter Tryz.func73, Tryz.ntmps73
      go_wp2_with fail
      refine HA.out.mono ?_
      rintro e w1 ⟨rfl, rfl⟩
      have HB1 := Lib.hid (HB.out _ hA1)
      have H1 := Lib.hid hA1
      clear hA1 hS1
      generalize w.alloc (.cells (strCells ps).toArray 9) = w1 at HB1 H1 ⊢
      go_wp2_with fail
      refine HB1.out.mono ?_
      rintro e w2 ⟨rfl, hb2⟩
      have H2 := Lib.hid hb2
      clear hb2
      go_wp2_with fail
      go_ret
      exact ⟨ret_int HF.out.symm, below_next H1.out H2.out⟩
    | some qs =>
      have HB := Lib.hid (fun X (hX : Below w.heap.size w X) => refPath_some b qs X (HE.out.below hX) hb hdb)
      have HCM := Lib.hid (cmpP_comps hda hdb)
      have hlp : ps.length ≤ 2000001 ∧ qs.length ≤ 2000001 := by
        have k1 : ps = splitL (a.data.toList.drop 2) := by unfold dirL at hda; split at hda; (injection hda with h; exact h.symm); cases hda
        have k2 : qs = splitL (b.data.toList.drop 2) := by unfold dirL at hdb; split at hdb; (injection hdb with h; exact h.symm); cases hdb
        rw [k1, k2]
        exact ⟨(split_bounds a 2 ha).1, (split_bounds b 2 hb).1⟩
      have HLP := Lib.hid hlp
      have HF : Hid (ordF a b = cmpC ps qs) := Lib.hid (by unfold ordF; rw [hda, hdb])
      clear hda hdb hlp
      go_enter Tryz.func73, Tryz.ntmps73
      go_wp2_with fail
      refine HA.out.mono ?_
      rintro e w1 ⟨rfl, rfl⟩
      have HB1 := Lib.hid (HB.out _ hA1)
      have H1 := Lib.hid hA1
      have HS1 := Lib.hid hS1
      clear hA1 hS1
      generalize w.alloc (.cells (strCells ps).toArray 9) = w1 at HB1 H1 HS1 ⊢
      go_wp2_with fail
      refine HB1.out.mono ?_
      rintro e w2 ⟨rfl, rfl⟩
      have hA2 : Below w1.heap.size w1 (w1.alloc (.cells (strCells qs).toArray 9)) := (Below.refl _ _).alloc (Nat.le_refl _) _
      have HS2 := Lib.hid (StrsAt.of_blk (blk_new w1 (strCells qs) 9))
      have HS3 := Lib.hid (HS1.out.below hA2)
      have H2 := Lib.hid hA2
      clear hA2
      generalize w1.alloc (.cells (strCells qs).toArray 9) = w2 at HS2 HS3 H2 ⊢
      have HCP := Lib.hid (compare_parts ps qs w.heap.size w1.heap.size w2 HS3.out HS2.out HLP.out.1 HLP.out.2)
      go_wp2_with fail
      refine HCP.out.mono ?_
      rintro e w3 ⟨rfl, hb3⟩
      have H3 := Lib.hid hb3
      clear hb3
      go_wp2_with fail
      go_ret
      exact ⟨ret_int HF.out.symm, below_next H1.out (below_next H2.out H3.out)⟩
theorem order_any (a b : ByteArray) (w : World) (he : Env w) (ha : a.size ≤ 2000000) (hb : b.size ≤ 2000000) :
    Calls Tryz.prog 73 #[.string a, .string b] w (OrdPost w a b) :=
  (order_det a b w he ha hb).mono fun e w' ⟨h1, h2⟩ => ⟨_, h1, h2, fun h3 h4 => ordF_valid h3 h4⟩

/-- What Before leaves: for records of paths whether the one comes ahead. -/
def BefPost (w : World) (a b : Rcd) (e : Ending) (w' : World) : Prop := ∃ v : Bool, e = .returned (.bool v) ∧ Below w.heap.size w w' ∧ (a.val_ → b.val_ → v = decide (cmpR a b < 0))
theorem cmpI_lt {a b : Int} (h : a ≠ b) : (cmpI a b < 0 ↔ a < b) ∧ cmpI a b ≠ 0 := by
  unfold cmpI; split
  · exact ⟨by constructor <;> intro <;> omega, by decide⟩
  · split
    · exact ⟨by constructor <;> intro <;> omega, by decide⟩
    · omega
theorem bef1 {a b : Rcd} {n : Int} (h : n ≠ 0) (hn : n = cmpP a.to b.to) : decide (n < 0) = decide (cmpR a b < 0) := by
  unfold cmpR orI; rw [← hn, if_neg h]
theorem bef2 {a b : Rcd} (h : cmpP a.to b.to = 0) (hn : a.num ≠ b.num) : decide (a.num < b.num) = decide (cmpR a b < 0) := by
  obtain ⟨h1, h2⟩ := cmpI_lt hn
  unfold cmpR orI; rw [if_pos h, if_neg h2]
  rw [decide_eq_decide]; exact h1.symm
theorem cmpI_eq {a b : Int} (h : a = b) : cmpI a b = 0 := by subst h; unfold cmpI; simp
theorem bef3 {a b : Rcd} {n : Int} (h : cmpP a.to b.to = 0) (he : a.num = b.num) (hz : n ≠ 0) (hn : n = cmpP a.frm b.frm) : decide (n < 0) = decide (cmpR a b < 0) := by
  unfold cmpR orI; rw [if_pos h, if_pos (cmpI_eq he), ← hn, if_neg hz]
theorem bef4 {a b : Rcd} (h : cmpP a.to b.to = 0) (he : a.num = b.num) (hn : cmpP a.frm b.frm = 0) : decide (a.first < b.first) = decide (cmpR a b < 0) := by
  unfold cmpR orI; rw [if_pos h, if_pos (cmpI_eq he), if_pos hn]
  rw [decide_eq_decide]
  unfold cmpI
  constructor
  · intro hh; rw [if_pos hh]; decide
  · intro hh; split at hh
    · assumption
    · split at hh <;> omega
/-- What Before says of any two records. -/
def befF (a b : Rcd) : Bool := if ordF a.to b.to ≠ 0 then decide (ordF a.to b.to < 0) else if a.num ≠ b.num then decide (a.num < b.num) else if ordF a.frm b.frm ≠ 0 then decide (ordF a.frm b.frm < 0) else decide (a.first < b.first)
theorem befF_valid {a b : Rcd} (ha : a.val_) (hb : b.val_) : befF a b = decide (cmpR a b < 0) := by
  unfold befF
  rw [ordF_valid ha.2 hb.2, ordF_valid ha.1 hb.1]
  split
  · rename_i h; exact bef1 h rfl
  · rename_i h
    rw [Decidable.not_not] at h
    split
    · rename_i h2; exact bef2 h h2
    · rename_i h2
      rw [Decidable.not_not] at h2
      split
      · rename_i h3; exact bef3 h h2 h3 rfl
      · rename_i h3; rw [Decidable.not_not] at h3; exact bef4 h h2 h3
set_option maxRecDepth 100000 in
set_option maxHeartbeats 4000000 in
theorem before_det (a b : Rcd) (w : World) (he : Env w) (h1 : a.to.size ≤ 2000000) (h2 : b.to.size ≤ 2000000) (h3 : a.frm.size ≤ 2000000) (h4 : b.frm.size ≤ 2000000) :
    Calls Tryz.prog 90 #[.agg #[.string a.frm, .int .i64 a.first, .int .i64 a.last, .string a.to, .int .i64 a.num, .int .i64 a.how], .agg #[.string b.frm, .int .i64 b.first, .int .i64 b.last, .string b.to, .int .i64 b.num, .int .i64 b.how]] w fun e w' => e = .returned (.bool (befF a b)) ∧ Below w.heap.size w w' := by
  have hb0 : Below w.heap.size w ((w.alloc (.cells #[.string a.frm, .int .i64 a.first, .int .i64 a.last, .string a.to, .int .i64 a.num, .int .i64 a.how] 60)).alloc (.cells #[.string b.frm, .int .i64 b.first, .int .i64 b.last, .string b.to, .int .i64 b.num, .int .i64 b.how] 60)) := ((Below.refl _ _).alloc (Nat.le_refl _) _).alloc (by simp) _
  have hA : Blk ((w.alloc (.cells #[.string a.frm, .int .i64 a.first, .int .i64 a.last, .string a.to, .int .i64 a.num, .int .i64 a.how] 60)).alloc (.cells #[.string b.frm, .int .i64 b.first, .int .i64 b.last, .string b.to, .int .i64 b.num, .int .i64 b.how] 60)) w.heap.size 60 [.string a.frm, .int .i64 a.first, .int .i64 a.last, .string a.to, .int .i64 a.num, .int .i64 a.how] := (blk_new w _ _).alloc _
  have hB : Blk ((w.alloc (.cells #[.string a.frm, .int .i64 a.first, .int .i64 a.last, .string a.to, .int .i64 a.num, .int .i64 a.how] 60)).alloc (.cells #[.string b.frm, .int .i64 b.first, .int .i64 b.last, .string b.to, .int .i64 b.num, .int .i64 b.how] 60)) (w.heap.size + 1) 60 [.string b.frm, .int .i64 b.first, .int .i64 b.last, .string b.to, .int .i64 b.num, .int .i64 b.how] := by
    have k := blk_new (w.alloc (.cells #[.string a.frm, .int .i64 a.first, .int .i64 a.last, .string a.to, .int .i64 a.num, .int .i64 a.how] 60)) [.string b.frm, .int .i64 b.first, .int .i64 b.last, .string b.to, .int .i64 b.num, .int .i64 b.how] 60
    simp only [World.size_alloc] at k
    exact k
  have HO := Lib.hid (fun p q X (hX : Below w.heap.size w X) (hp : p.size ≤ 2000000) (hq : q.size ≤ 2000000) => order_det p q X (he.below hX) hp hq)
  have HZ := Lib.hid (show a.frm.size ≤ 2000000 ∧ b.frm.size ≤ 2000000 from ⟨h3, h4⟩)
  have HO1 := Lib.hid (HO.out a.to b.to _ hb0 h1 h2)
  clear he h1 h2 h3 h4
  go_enter Tryz.func90, Tryz.ntmps90
  go_upto_region 1 with fail
  generalize (w.alloc (.cells #[.string a.frm, .int .i64 a.first, .int .i64 a.last, .string a.to, .int .i64 a.num, .int .i64 a.how] 60)).alloc (.cells #[.string b.frm, .int .i64 b.first, .int .i64 b.last, .string b.to, .int .i64 b.num, .int .i64 b.how] 60) = W1 at hb0 hA hB HO1 ⊢
  obtain ⟨a0, a1, a2, a3, a4, a5⟩ := box6 hA
  obtain ⟨b0, b1, b2, b3, b4, b5⟩ := box6 hB
  have HA := Lib.hid hA
  have HB := Lib.hid hB
  have Hb0 := Lib.hid hb0
  clear hA hB hb0
  go_wp2_with fail
  refine HO1.out.mono ?_
  rintro e w2 ⟨rfl, hb2⟩
  have HV : Hid (befF a b = if ordF a.to b.to ≠ 0 then decide (ordF a.to b.to < 0) else if a.num ≠ b.num then decide (a.num < b.num) else if ordF a.frm b.frm ≠ 0 then decide (ordF a.frm b.frm < 0) else decide (a.first < b.first)) := Lib.hid rfl
  generalize ordF a.to b.to = n1 at HV ⊢
  clear a0 a1 a2 a3 a4 a5 b0 b1 b2 b3 b4 b5
  have HB2 := Lib.hid hb2
  clear hb2
  by_cases z1 : n1 = 0
  · subst z1
    have HV1 : Hid (befF a b = if a.num ≠ b.num then decide (a.num < b.num) else if ordF a.frm b.frm ≠ 0 then decide (ordF a.frm b.frm < 0) else decide (a.first < b.first)) := Lib.hid (by rw [HV.out, if_neg (by simp)])
    clear HV
    obtain ⟨a0, a1, a2, a3, a4, a5⟩ := box6 (HA.out.below HB2.out HA.out.lt)
    obtain ⟨b0, b1, b2, b3, b4, b5⟩ := box6 (HB.out.below HB2.out HB.out.lt)
    by_cases e2 : a.num = b.num
    · have q2 : (a.num != b.num) = false := by simpa using e2
      have HE2 := Lib.hid e2
      have HO2 := Lib.hid (HO.out a.frm b.frm w2 (below_next Hb0.out HB2.out) HZ.out.1 HZ.out.2)
      clear e2
      go_wp2_with fail
      refine HO2.out.mono ?_
      rintro e w3 ⟨rfl, hb3⟩
      have HV2 : Hid (befF a b = if ordF a.frm b.frm ≠ 0 then decide (ordF a.frm b.frm < 0) else decide (a.first < b.first)) := Lib.hid (by rw [HV1.out, if_neg (by rw [HE2.out]; simp)])
      generalize ordF a.frm b.frm = n2 at HV2 ⊢
      clear HV1
      clear a0 a1 a2 a3 a4 a5 b0 b1 b2 b3 b4 b5
      have HB3 := Lib.hid hb3
      clear hb3
      by_cases z2 : n2 = 0
      · subst z2
        have HF : Hid (befF a b = decide (a.first < b.first)) := Lib.hid (by rw [HV2.out, if_neg (by simp)])
        obtain ⟨a0, a1, a2, a3, a4, a5⟩ := box6 (HA.out.below (below_next HB2.out HB3.out) HA.out.lt)
        obtain ⟨b0, b1, b2, b3, b4, b5⟩ := box6 (HB.out.below (below_next HB2.out HB3.out) HB.out.lt)
        go_wp2_with fail
        go_ret
        exact ⟨ret_bool HF.out.symm, below_next Hb0.out (below_next HB2.out HB3.out)⟩
      · have q3 : (n2 != 0) = true := by simpa using z2
        have HF : Hid (befF a b = decide (n2 < 0)) := Lib.hid (by rw [HV2.out, if_pos z2])
        clear z2
        go_wp2_with fail
        go_ret
        exact ⟨ret_bool HF.out.symm, below_next Hb0.out (below_next HB2.out HB3.out)⟩
    · have q2 : (a.num != b.num) = true := by simpa using e2
      have HF : Hid (befF a b = decide (a.num < b.num)) := Lib.hid (by rw [HV1.out, if_pos e2])
      clear e2
      go_wp2_with fail
      go_ret
      exact ⟨ret_bool HF.out.symm, below_next Hb0.out HB2.out⟩
  · have q1 : (n1 != 0) = true := by simpa using z1
    have HF : Hid (befF a b = decide (n1 < 0)) := Lib.hid (by rw [HV.out, if_pos z1])
    clear z1
    go_wp2_with fail
    go_ret
    exact ⟨ret_bool HF.out.symm, below_next Hb0.out HB2.out⟩
theorem refBefore_any (a b : Rcd) (w : World) (he : Env w) (h1 : a.to.size ≤ 2000000) (h2 : b.to.size ≤ 2000000) (h3 : a.frm.size ≤ 2000000) (h4 : b.frm.size ≤ 2000000) :
    Calls Tryz.prog 90 #[.agg #[.string a.frm, .int .i64 a.first, .int .i64 a.last, .string a.to, .int .i64 a.num, .int .i64 a.how], .agg #[.string b.frm, .int .i64 b.first, .int .i64 b.last, .string b.to, .int .i64 b.num, .int .i64 b.how]] w (BefPost w a b) :=
  (before_det a b w he h1 h2 h3 h4).mono fun e w' ⟨k1, k2⟩ => ⟨_, k1, k2, fun k3 k4 => befF_valid k3 k4⟩
end Go.Proofs.YtmhmnchdhacdbaaGreatDoor
