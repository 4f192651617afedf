/- The reference's made, moved, Live: the walks. -/
import Derived.Test.YtnblfaagchflaaaGreatDoorMgw20
namespace Go.Proofs.YtnblfaagchflaaaGreatDoor
open Go.RowKit
set_option linter.unusedVariables false
set_option linter.unusedSimpArgs false

/-- The revision that an edit makes, by the reference. -/
def madeX (n : Int) (x : Edt) : Rev := ⟨x.path, x.base + 1, n, x.act, x.ty, x.sum, x.size, x.frm, x.fnum⟩
set_option maxRecDepth 100000 in
set_option maxHeartbeats 4000000 in
theorem refMade_any (num : Int) (cl tx : ByteArray) (Ae Ac : Option Addr) (ne nc ce cc : Nat) (x : Edt) (w : World) (hb : 0 ≤ x.base ∧ x.base ≤ 1000000) :
    Calls Tryz.prog 61 #[.agg #[.int .i64 num, .string cl, .string tx, .slice Ae ne ce, .slice Ac nc cc], .agg #[.string x.path, .int .i64 x.act, .int .i64 x.ty.base, .bool x.ty.k, .bool x.ty.l, .bool x.ty.x, .int .u64 x.sum, .int .i64 x.size, .int .i64 x.base, .string x.frm, .int .i64 x.fnum, .int .i64 x.fence]] w fun e w' => e = .returned (.agg #[.string (madeX num x).path, .int .i64 (madeX num x).num, .int .i64 (madeX num x).chg, .int .i64 (madeX num x).act, .int .i64 (madeX num x).ty.base, .bool (madeX num x).ty.k, .bool (madeX num x).ty.l, .bool (madeX num x).ty.x, .int .u64 (madeX num x).sum, .int .i64 (madeX num x).size, .string (madeX num x).frm, .int .i64 (madeX num x).fnum]) ∧ Below w.heap.size w w' := by
  have hb0 : Below w.heap.size w (((w.alloc (.cells #[.int .i64 num, .string cl, .string tx, .slice Ae ne ce, .slice Ac nc cc] 53)).alloc (.cells #[.string x.path, .int .i64 x.act, .int .i64 x.ty.base, .bool x.ty.k, .bool x.ty.l, .bool x.ty.x, .int .u64 x.sum, .int .i64 x.size, .int .i64 x.base, .string x.frm, .int .i64 x.fnum, .int .i64 x.fence] 55)).alloc (.cells #[.string ⟨#[]⟩, .int .i64 0, .int .i64 0, .int .i64 0, .int .i64 0, .bool false, .bool false, .bool false, .int .u64 0, .int .i64 0, .string ⟨#[]⟩, .int .i64 0] 40)) := (((Below.refl _ _).alloc (Nat.le_refl _) _).alloc (by simp) _).alloc (by simp; omega) _
  have hZ : Blk (((w.alloc (.cells #[.int .i64 num, .string cl, .string tx, .slice Ae ne ce, .slice Ac nc cc] 53)).alloc (.cells #[.string x.path, .int .i64 x.act, .int .i64 x.ty.base, .bool x.ty.k, .bool x.ty.l, .bool x.ty.x, .int .u64 x.sum, .int .i64 x.size, .int .i64 x.base, .string x.frm, .int .i64 x.fnum, .int .i64 x.fence] 55)).alloc (.cells #[.string ⟨#[]⟩, .int .i64 0, .int .i64 0, .int .i64 0, .int .i64 0, .bool false, .bool false, .bool false, .int .u64 0, .int .i64 0, .string ⟨#[]⟩, .int .i64 0] 40)) (w.heap.size + 1 + 1) 40 [.string ⟨#[]⟩, .int .i64 0, .int .i64 0, .int .i64 0, .int .i64 0, .bool false, .bool false, .bool false, .int .u64 0, .int .i64 0, .string ⟨#[]⟩, .int .i64 0] := by
    have h1 := blk_new ((w.alloc (.cells #[.int .i64 num, .string cl, .string tx, .slice Ae ne ce, .slice Ac nc cc] 53)).alloc (.cells #[.string x.path, .int .i64 x.act, .int .i64 x.ty.base, .bool x.ty.k, .bool x.ty.l, .bool x.ty.x, .int .u64 x.sum, .int .i64 x.size, .int .i64 x.base, .string x.frm, .int .i64 x.fnum, .int .i64 x.fence] 55)) [.string ⟨#[]⟩, .int .i64 0, .int .i64 0, .int .i64 0, .int .i64 0, .bool false, .bool false, .bool false, .int .u64 0, .int .i64 0, .string ⟨#[]⟩, .int .i64 0] 40
    simp only [World.size_alloc] at h1
    exact h1
  have hV : Blk (((w.alloc (.cells #[.int .i64 num, .string cl, .string tx, .slice Ae ne ce, .slice Ac nc cc] 53)).alloc (.cells #[.string x.path, .int .i64 x.act, .int .i64 x.ty.base, .bool x.ty.k, .bool x.ty.l, .bool x.ty.x, .int .u64 x.sum, .int .i64 x.size, .int .i64 x.base, .string x.frm, .int .i64 x.fnum, .int .i64 x.fence] 55)).alloc (.cells #[.string ⟨#[]⟩, .int .i64 0, .int .i64 0, .int .i64 0, .int .i64 0, .bool false, .bool false, .bool false, .int .u64 0, .int .i64 0, .string ⟨#[]⟩, .int .i64 0] 40)) (w.heap.size + 1) 55 [.string x.path, .int .i64 x.act, .int .i64 x.ty.base, .bool x.ty.k, .bool x.ty.l, .bool x.ty.x, .int .u64 x.sum, .int .i64 x.size, .int .i64 x.base, .string x.frm, .int .i64 x.fnum, .int .i64 x.fence] := by
    have h1 := (blk_new (w.alloc (.cells #[.int .i64 num, .string cl, .string tx, .slice Ae ne ce, .slice Ac nc cc] 53)) [.string x.path, .int .i64 x.act, .int .i64 x.ty.base, .bool x.ty.k, .bool x.ty.l, .bool x.ty.x, .int .u64 x.sum, .int .i64 x.size, .int .i64 x.base, .string x.frm, .int .i64 x.fnum, .int .i64 x.fence] 55).alloc (.cells #[.string ⟨#[]⟩, .int .i64 0, .int .i64 0, .int .i64 0, .int .i64 0, .bool false, .bool false, .bool false, .int .u64 0, .int .i64 0, .string ⟨#[]⟩, .int .i64 0] 40)
    simp only [World.size_alloc] at h1
    exact h1
  have hB : Blk (((w.alloc (.cells #[.int .i64 num, .string cl, .string tx, .slice Ae ne ce, .slice Ac nc cc] 53)).alloc (.cells #[.string x.path, .int .i64 x.act, .int .i64 x.ty.base, .bool x.ty.k, .bool x.ty.l, .bool x.ty.x, .int .u64 x.sum, .int .i64 x.size, .int .i64 x.base, .string x.frm, .int .i64 x.fnum, .int .i64 x.fence] 55)).alloc (.cells #[.string ⟨#[]⟩, .int .i64 0, .int .i64 0, .int .i64 0, .int .i64 0, .bool false, .bool false, .bool false, .int .u64 0, .int .i64 0, .string ⟨#[]⟩, .int .i64 0] 40)) w.heap.size 53 [.int .i64 num, .string cl, .string tx, .slice Ae ne ce, .slice Ac nc cc] := ((blk_new w _ _).alloc _).alloc _
  have b0 : 0 ≤ x.base := hb.1
  have b1 : x.base ≤ 1000000 := hb.2
  clear hb
  go_enter Tryz.func61, Tryz.ntmps61
  go_upto_region 1 with fail
  generalize ((w.alloc (.cells #[.int .i64 num, .string cl, .string tx, .slice Ae ne ce, .slice Ac nc cc] 53)).alloc (.cells #[.string x.path, .int .i64 x.act, .int .i64 x.ty.base, .bool x.ty.k, .bool x.ty.l, .bool x.ty.x, .int .u64 x.sum, .int .i64 x.size, .int .i64 x.base, .string x.frm, .int .i64 x.fnum, .int .i64 x.fence] 55)).alloc (.cells #[.string ⟨#[]⟩, .int .i64 0, .int .i64 0, .int .i64 0, .int .i64 0, .bool false, .bool false, .bool false, .int .u64 0, .int .i64 0, .string ⟨#[]⟩, .int .i64 0] 40) = W1 at hb0 hZ hV hB ⊢
  obtain ⟨d0, d1, d2, d3, d4⟩ := box5 hB
  obtain ⟨c0, c1, c2, c3, c4, c5, c6, c7, c8, c9, c10, c11⟩ := box12 hV
  obtain ⟨z0, z1, z2, z3, z4, z5, z6, z7, z8, z9, z10, z11⟩ := box12 hZ
  obtain ⟨y0, y1, y2, y3, y4, y5, y6, y7, y8, y9, y10, y11⟩ := frz12 hZ
  have HZ := Lib.hid hZ
  have Hb0 := Lib.hid hb0
  clear hb0 hZ hV hB
  go_wp2_with fail
  have hZ3 := set12 HZ.out (madeX num x)
  have hB3 := below12 Hb0.out (show w.heap.size ≤ w.heap.size + 1 + 1 by omega) (madeX num x)
  clear d0 d1 d2 d3 d4 c0 c1 c2 c3 c4 c5 c6 c7 c8 c9 c10 c11 z0 z1 z2 z3 z4 z5 z6 z7 z8 z9 z10 z11 y0 y1 y2 y3 y4 y5 y6 y7 y8 y9 y10 y11
  have e : ((((((((((((W1.setCell ⟨w.heap.size + 1 + 1, 0, none⟩ (.string (madeX num x).path)).setCell ⟨w.heap.size + 1 + 1, 1, none⟩ (.int .i64 (madeX num x).num)).setCell ⟨w.heap.size + 1 + 1, 2, none⟩ (.int .i64 (madeX num x).chg)).setCell ⟨w.heap.size + 1 + 1, 3, none⟩ (.int .i64 (madeX num x).act)).setCell ⟨w.heap.size + 1 + 1, 4, none⟩ (.int .i64 (madeX num x).ty.base)).setCell ⟨w.heap.size + 1 + 1, 5, none⟩ (.bool (madeX num x).ty.k)).setCell ⟨w.heap.size + 1 + 1, 6, none⟩ (.bool (madeX num x).ty.l)).setCell ⟨w.heap.size + 1 + 1, 7, none⟩ (.bool (madeX num x).ty.x)).setCell ⟨w.heap.size + 1 + 1, 8, none⟩ (.int .u64 (madeX num x).sum)).setCell ⟨w.heap.size + 1 + 1, 9, none⟩ (.int .i64 (madeX num x).size)).setCell ⟨w.heap.size + 1 + 1, 10, none⟩ (.string (madeX num x).frm)).setCell ⟨w.heap.size + 1 + 1, 11, none⟩ (.int .i64 (madeX num x).fnum)) = ((((((((((((W1.setCell ⟨w.heap.size + 1 + 1, 0, none⟩ (.string ((⟨x.path, x.base + 1, num, x.act, x.ty, x.sum, x.size, x.frm, x.fnum⟩ : Rev)).path)).setCell ⟨w.heap.size + 1 + 1, 1, none⟩ (.int .i64 ((⟨x.path, x.base + 1, num, x.act, x.ty, x.sum, x.size, x.frm, x.fnum⟩ : Rev)).num)).setCell ⟨w.heap.size + 1 + 1, 2, none⟩ (.int .i64 ((⟨x.path, x.base + 1, num, x.act, x.ty, x.sum, x.size, x.frm, x.fnum⟩ : Rev)).chg)).setCell ⟨w.heap.size + 1 + 1, 3, none⟩ (.int .i64 ((⟨x.path, x.base + 1, num, x.act, x.ty, x.sum, x.size, x.frm, x.fnum⟩ : Rev)).act)).setCell ⟨w.heap.size + 1 + 1, 4, none⟩ (.int .i64 ((⟨x.path, x.base + 1, num, x.act, x.ty, x.sum, x.size, x.frm, x.fnum⟩ : Rev)).ty.base)).setCell ⟨w.heap.size + 1 + 1, 5, none⟩ (.bool ((⟨x.path, x.base + 1, num, x.act, x.ty, x.sum, x.size, x.frm, x.fnum⟩ : Rev)).ty.k)).setCell ⟨w.heap.size + 1 + 1, 6, none⟩ (.bool ((⟨x.path, x.base + 1, num, x.act, x.ty, x.sum, x.size, x.frm, x.fnum⟩ : Rev)).ty.l)).setCell ⟨w.heap.size + 1 + 1, 7, none⟩ (.bool ((⟨x.path, x.base + 1, num, x.act, x.ty, x.sum, x.size, x.frm, x.fnum⟩ : Rev)).ty.x)).setCell ⟨w.heap.size + 1 + 1, 8, none⟩ (.int .u64 ((⟨x.path, x.base + 1, num, x.act, x.ty, x.sum, x.size, x.frm, x.fnum⟩ : Rev)).sum)).setCell ⟨w.heap.size + 1 + 1, 9, none⟩ (.int .i64 ((⟨x.path, x.base + 1, num, x.act, x.ty, x.sum, x.size, x.frm, x.fnum⟩ : Rev)).size)).setCell ⟨w.heap.size + 1 + 1, 10, none⟩ (.string ((⟨x.path, x.base + 1, num, x.act, x.ty, x.sum, x.size, x.frm, x.fnum⟩ : Rev)).frm)).setCell ⟨w.heap.size + 1 + 1, 11, none⟩ (.int .i64 ((⟨x.path, x.base + 1, num, x.act, x.ty, x.sum, x.size, x.frm, x.fnum⟩ : Rev)).fnum)) := rfl
  dsimp only at e
  rw [← e]
  generalize ((((((((((((W1.setCell ⟨w.heap.size + 1 + 1, 0, none⟩ (.string (madeX num x).path)).setCell ⟨w.heap.size + 1 + 1, 1, none⟩ (.int .i64 (madeX num x).num)).setCell ⟨w.heap.size + 1 + 1, 2, none⟩ (.int .i64 (madeX num x).chg)).setCell ⟨w.heap.size + 1 + 1, 3, none⟩ (.int .i64 (madeX num x).act)).setCell ⟨w.heap.size + 1 + 1, 4, none⟩ (.int .i64 (madeX num x).ty.base)).setCell ⟨w.heap.size + 1 + 1, 5, none⟩ (.bool (madeX num x).ty.k)).setCell ⟨w.heap.size + 1 + 1, 6, none⟩ (.bool (madeX num x).ty.l)).setCell ⟨w.heap.size + 1 + 1, 7, none⟩ (.bool (madeX num x).ty.x)).setCell ⟨w.heap.size + 1 + 1, 8, none⟩ (.int .u64 (madeX num x).sum)).setCell ⟨w.heap.size + 1 + 1, 9, none⟩ (.int .i64 (madeX num x).size)).setCell ⟨w.heap.size + 1 + 1, 10, none⟩ (.string (madeX num x).frm)).setCell ⟨w.heap.size + 1 + 1, 11, none⟩ (.int .i64 (madeX num x).fnum)) = W3 at hZ3 hB3 ⊢
  obtain ⟨e0, e1, e2, e3, e4, e5, e6, e7, e8, e9, e10, e11⟩ := box12 hZ3
  refine bodyPost_ret (v := .agg #[.string (madeX num x).path, .int .i64 (madeX num x).num, .int .i64 (madeX num x).chg, .int .i64 (madeX num x).act, .int .i64 (madeX num x).ty.base, .bool (madeX num x).ty.k, .bool (madeX num x).ty.l, .bool (madeX num x).ty.x, .int .u64 (madeX num x).sum, .int .i64 (madeX num x).size, .string (madeX num x).frm, .int .i64 (madeX num x).fnum]) (by simp [results, Tryz.results61, go_sem, e0, e1, e2, e3, e4, e5, e6, e7, e8, e9, e10, e11]) rfl ⟨rfl, hB3⟩

def rLiveB (revs : List Rev) (p : ByteArray) : Bool := match rLast revs p with
  | none => false
  | some r => liveA r.act
theorem rLiveB_at {revs : List Rev} {p : ByteArray} : (rLast revs p = none → rLiveB revs p = false) ∧ ∀ r, rLast revs p = some r → rLiveB revs p = liveA r.act := by
  unfold rLiveB
  exact ⟨fun h => by rw [h], fun r h => by rw [h]⟩
set_option maxRecDepth 100000 in
set_option maxHeartbeats 4000000 in
theorem refLive_any (revs : List Rev) (p : ByteArray) (dv dr : Value) (w : World) (hR : Revs w dv revs) (hl : revs.length ≤ 1000000) :
    Calls Tryz.prog 120 #[.agg #[dv, dr], .string p] w fun e w' => e = .returned (.tuple #[.bool (rLiveB revs p), .int .i64 (someR (rLast revs p)).num]) ∧ Below w.heap.size w w' := by
  obtain ⟨Ar, cr, rfl, -⟩ := id hR
  have HR := Lib.hid hR
  clear hR
  have HAT := Lib.hid (@rLiveB_at revs p)
  go_enter Tryz.func120, Tryz.ntmps120
  have hb0 : Below w.heap.size w (w.alloc (.cells #[.slice Ar revs.length cr, dr] 31)) := (Below.refl _ _).alloc (Nat.le_refl _) _
  have hB := blk_new w [.slice Ar revs.length cr, dr] 31
  go_upto_region 1 with fail
  generalize w.alloc (.cells #[.slice Ar revs.length cr, dr] 31) = W1 at hb0 hB ⊢
  obtain ⟨d0, d1, -, -⟩ := box2 hB
  have HLS := Lib.hid (refLast_any revs p (.slice Ar revs.length cr) dr W1 (HR.out.below hb0) hl)
  have Hb0 := Lib.hid hb0
  clear hb0 hB
  go_wp2_with fail
  refine HLS.out.mono ?_
  rintro e w2 ⟨rfl, hb2⟩
  clear d0 d1 HLS
  have HB2 := Lib.hid hb2
  clear hb2
  generalize hro : rLast revs p = o at HAT ⊢
  have HRO := Lib.hid hro
  clear hro
  cases o with
  | none =>
    have HN := Lib.hid (HAT.out.1 rfl)
    have hY := blk_new w2 [.string zeroRev.path, .int .i64 zeroRev.num, .int .i64 zeroRev.chg, .int .i64 zeroRev.act, .int .i64 zeroRev.ty.base, .bool zeroRev.ty.k, .bool zeroRev.ty.l, .bool zeroRev.ty.x, .int .u64 zeroRev.sum, .int .i64 zeroRev.size, .string zeroRev.frm, .int .i64 zeroRev.fnum] 40
    have hA5 : Below w.heap.size w (w2.alloc (.cells #[.string zeroRev.path, .int .i64 zeroRev.num, .int .i64 zeroRev.chg, .int .i64 zeroRev.act, .int .i64 zeroRev.ty.base, .bool zeroRev.ty.k, .bool zeroRev.ty.l, .bool zeroRev.ty.x, .int .u64 zeroRev.sum, .int .i64 zeroRev.size, .string zeroRev.frm, .int .i64 zeroRev.fnum] 40)) := below_next Hb0.out (below_alloc' HB2.out _)
    have hsu : someR none = zeroRev := rfl
    go_upto_region 2 with fail
    clear hsu HAT
    generalize w2.alloc (.cells #[.string zeroRev.path, .int .i64 zeroRev.num, .int .i64 zeroRev.chg, .int .i64 zeroRev.act, .int .i64 zeroRev.ty.base, .bool zeroRev.ty.k, .bool zeroRev.ty.l, .bool zeroRev.ty.x, .int .u64 zeroRev.sum, .int .i64 zeroRev.size, .string zeroRev.frm, .int .i64 zeroRev.fnum] 40) = V3 at hY hA5 ⊢
    obtain ⟨b0, b1, b2, b3, b4, b5, b6, b7, b8, b9, b10, b11⟩ := box12 hY
    have HA5 := Lib.hid hA5
    clear hY hA5
    go_quiet (fail)
    go_wp2_with fail
    go_ret2
    exact ⟨by rw [HN.out, HRO.out]; rfl, below_dN HA5.out _⟩
  | some r =>
    have HN := Lib.hid (HAT.out.2 r rfl)
    have hY := blk_new w2 [.string r.path, .int .i64 r.num, .int .i64 r.chg, .int .i64 r.act, .int .i64 r.ty.base, .bool r.ty.k, .bool r.ty.l, .bool r.ty.x, .int .u64 r.sum, .int .i64 r.size, .string r.frm, .int .i64 r.fnum] 40
    have hA5 : Below w.heap.size w (w2.alloc (.cells #[.string r.path, .int .i64 r.num, .int .i64 r.chg, .int .i64 r.act, .int .i64 r.ty.base, .bool r.ty.k, .bool r.ty.l, .bool r.ty.x, .int .u64 r.sum, .int .i64 r.size, .string r.frm, .int .i64 r.fnum] 40)) := below_next Hb0.out (below_alloc' HB2.out _)
    have hsu : someR (some r) = r := rfl
    go_upto_region 2 with fail
    clear hsu HAT
    generalize w2.alloc (.cells #[.string r.path, .int .i64 r.num, .int .i64 r.chg, .int .i64 r.act, .int .i64 r.ty.base, .bool r.ty.k, .bool r.ty.l, .bool r.ty.x, .int .u64 r.sum, .int .i64 r.size, .string r.frm, .int .i64 r.fnum] 40) = V3 at hY hA5 ⊢
    generalize w2.heap.size = g6 at hY ⊢
    have HY := Lib.hid hY
    have HA5 := Lib.hid hA5
    obtain ⟨b0, b1, b2, b3, b4, b5, b6, b7, b8, b9, b10, b11⟩ := box12 hY
    have HGO := Lib.hid (fun X => refGone_any r X)
    clear hY hA5
    refine wp_region_noPanic ?_
    first
      | go_region_law (go_simp; go_at_call 36; refine (HGO.out _).mono ?_; rintro e w5 ⟨rfl, hX5⟩; have hS5 : Below V3.heap.size V3 w5 := (Below.refl _ _).drew.trans hX5; obtain ⟨k0, k1, k2, k3, k4, k5, k6, k7, k8, k9, k10, k11⟩ := box12 (HY.out.below hS5 HY.out.lt))
      | fail
    all_goals
      refine NoPanic.normal ?_
      go_wp2_with fail
      go_ret2
      exact ⟨by rw [HN.out, HRO.out]; cases liveA r.act <;> rfl, below_next HA5.out hS5⟩
end Go.Proofs.YtnblfaagchflaaaGreatDoor
