/- allowed: a step that adds a file where no file and no dirty path is. -/
import Derived.Test.YteolonjmgojoeaaGreatDoorMgw3
import Derived.Test.YteolonjmgojoeaaGreatDoorProg
import Derived.Shelf.Small.Utf8
import Derived.Shelf.Small.Bits
import Derived.Shelf.Small.Strs
import Derived.Shelf.Small.Wraps
import Derived.Shelf.Utf8.RuneCount
import Derived.Shelf.Strconv.Itoa0
import Derived.Shelf.Strconv.Itoa1
import Derived.Shelf.LaysM
import Derived.Shelf.Strconv.Itoa2
import Derived.Shelf.Strconv.Itoa3
import Derived.Shelf.Strings.Search1
import Derived.Shelf.Strings.Prefix
import Derived.Shelf.Strings.Runes
import Derived.Shelf.Strings.RuneCount
import Derived.Shelf.Strings.IndexAny
import Derived.Shelf.Strings.AsciiSet
import Derived.Shelf.Strings.IndexAnyAll
import Derived.Shelf.Bits.Mul64
import Derived.Ground.Names2Prog
import Derived.Shelf.Slices.SearchI
import Derived.Shelf.Bytes.SlSearch1
import Derived.Shelf.Bytes.Small
import Derived.Shelf.Bytes.IndexByte
import Derived.Shelf.Bytes.SlIndexAt
import Derived.Maps.OwnSet
namespace Go.Proofs.YteolonjmgojoeaaGreatDoor
open Go.RowKit
open Go.Sort (grow)
set_option linter.unusedVariables false
set_option linter.unusedSimpArgs false

theorem IsTree.under {w X : World} {t : Nat} {n : Int} {bl bp bs ba : Nat} (h : IsTree w t n bl bp bs ba) (hX : Below w.heap.size w X) : IsTree X t n bl bp bs ba := Blk.below h hX (Blk.lt h)
theorem IsFile.under {w X : World} {g : Nat} {f : WF} {bv : Value} (h : IsFile w g f bv) (hX : Below w.heap.size w X) : IsFile X g f bv := Blk.below h hX (Blk.lt h)
set_option maxRecDepth 100000 in
set_option maxHeartbeats 4000000 in
theorem allowed_add (t bl bp bs ba : Nat) (n : Int) (x : Syn) (r : Rev) (revs : List Rev) (dv dr : Value) (F1 F2 : ByteArray → Option Nat) (F3 : ByteArray → Option Value) (w : World)
    (hT : IsTree w t n bl bp bs ba) (h1 : FMap Value.string ptrV w bl F1) (h2 : FMap Value.string ptrV w bp F2) (h3 : Strays w bs F3) (hR : Revs w dv revs) (hl : revs.length ≤ 1000000)
    (hp : F2 x.path = none) (hd : F1 x.dst = none) (hs : F3 x.dst = none) (hf : x.frm = emptyS) (ht : ¬ x.dst = emptyS) (hk : ¬ x.kind = 4)
    (hg : greatest revs x.path (fun v : Rev => decide (v.num = x.num)) = some r) (ha : ¬ r.act = 3) (ha2 : ¬ r.act = 5) :
    Calls Tryz.prog 23 #[.pointer (some ⟨t, 0, none⟩), .agg #[dv, dr], .agg #[.int .i64 x.kind, .string x.path, .int .i64 x.num, .string x.frm, .string x.dst]] w fun e w' => e = .returned (.tuple #[.agg #[.string r.path, .int .i64 r.num, .int .i64 r.chg, .int .i64 r.act, .int .i64 r.ty.base, .bool r.ty.k, .bool r.ty.l, .bool r.ty.x, .int .u64 r.sum, .int .i64 r.size, .string r.frm, .int .i64 r.fnum], .bool true]) ∧ Below w.heap.size w w' := by
  have hA : Below w.heap.size w (((w.alloc (.cells #[dv, dr] 48)).alloc (.cells #[.int .i64 x.kind, .string x.path, .int .i64 x.num, .string x.frm, .string x.dst] 60)).alloc (.cells #[.string ⟨#[]⟩, .int .i64 0, .int .i64 0, .int .i64 0, .int .i64 0, .bool false, .bool false, .bool false, .int .u64 0, .int .i64 0, .string ⟨#[]⟩, .int .i64 0] 74)) :=
    (((Below.refl _ _).alloc (Nat.le_refl _) _).alloc (by simp) _).alloc (by simp; omega) _
  have hD : Blk (((w.alloc (.cells #[dv, dr] 48)).alloc (.cells #[.int .i64 x.kind, .string x.path, .int .i64 x.num, .string x.frm, .string x.dst] 60)).alloc (.cells #[.string ⟨#[]⟩, .int .i64 0, .int .i64 0, .int .i64 0, .int .i64 0, .bool false, .bool false, .bool false, .int .u64 0, .int .i64 0, .string ⟨#[]⟩, .int .i64 0] 74)) w.heap.size 48 [dv, dr] :=
    Blk.alloc (Blk.alloc (blk_new w [dv, dr] 48) _) _
  have hS : Blk (((w.alloc (.cells #[dv, dr] 48)).alloc (.cells #[.int .i64 x.kind, .string x.path, .int .i64 x.num, .string x.frm, .string x.dst] 60)).alloc (.cells #[.string ⟨#[]⟩, .int .i64 0, .int .i64 0, .int .i64 0, .int .i64 0, .bool false, .bool false, .bool false, .int .u64 0, .int .i64 0, .string ⟨#[]⟩, .int .i64 0] 74)) (w.heap.size + 1) 60 [.int .i64 x.kind, .string x.path, .int .i64 x.num, .string x.frm, .string x.dst] := by
    have := blk_new (w.alloc (.cells #[dv, dr] 48)) [.int .i64 x.kind, .string x.path, .int .i64 x.num, .string x.frm, .string x.dst] 60
    rw [show (w.alloc (.cells #[dv, dr] 48)).heap.size = w.heap.size + 1 by simp] at this
    exact Blk.alloc this _
  have hV : Blk (((w.alloc (.cells #[dv, dr] 48)).alloc (.cells #[.int .i64 x.kind, .string x.path, .int .i64 x.num, .string x.frm, .string x.dst] 60)).alloc (.cells #[.string ⟨#[]⟩, .int .i64 0, .int .i64 0, .int .i64 0, .int .i64 0, .bool false, .bool false, .bool false, .int .u64 0, .int .i64 0, .string ⟨#[]⟩, .int .i64 0] 74)) (w.heap.size + 1 + 1) 74 [.string ⟨#[]⟩, .int .i64 0, .int .i64 0, .int .i64 0, .int .i64 0, .bool false, .bool false, .bool false, .int .u64 0, .int .i64 0, .string ⟨#[]⟩, .int .i64 0] := by
    have := blk_new ((w.alloc (.cells #[dv, dr] 48)).alloc (.cells #[.int .i64 x.kind, .string x.path, .int .i64 x.num, .string x.frm, .string x.dst] 60)) [.string ⟨#[]⟩, .int .i64 0, .int .i64 0, .int .i64 0, .int .i64 0, .bool false, .bool false, .bool false, .int .u64 0, .int .i64 0, .string ⟨#[]⟩, .int .i64 0] 74
    rw [show ((w.alloc (.cells #[dv, dr] 48)).alloc (.cells #[.int .i64 x.kind, .string x.path, .int .i64 x.num, .string x.frm, .string x.dst] 60)).heap.size = w.heap.size + 1 + 1 by simp] at this
    exact this
  have HT := Lib.hid (fun X (hX : Below w.heap.size w X) => hT.under hX)
  have H2 := Lib.hid (fun X (hX : Below w.heap.size w X) => FMap.below h2 hX)
  have HDI := Lib.hid (fun X (hX : Below w.heap.size w X) => dirty_none t bl bp bs ba n x.dst F1 F3 X (hT.under hX) (FMap.below h1 hX) (FMap.below h3 hX) hs hd)
  have HG := Lib.hid (fun X (hX : Below w.heap.size w X) => get_any revs x.path x.num dv dr X (hR.below hX) hl)
  rw [hg] at HG
  obtain ⟨s1, s2⟩ := strE_yes hf
  obtain ⟨u1, u2⟩ := strE_no ht
  have k1 : (x.kind == 4) = false := by simpa using hk
  have a1 : (r.act == 3) = false := by simpa using ha
  have a2 : (r.act == 5) = false := by simpa using ha2
  have a3 : (r.act != 3) = true := by simpa using ha
  have a4 : (r.act != 5) = true := by simpa using ha2
  have HA := Lib.hid hA
  obtain ⟨t0, t1, t2, t3, t4⟩ := IsTree.facts (HT.out _ hA)
  obtain ⟨q0, q1, q2, q3, q4⟩ := box5s (x := x) hS
  have lk0 : ∀ X, Below w.heap.size w X → (Instr.lookup 35 (.map (some bp)) (.string x.path) true).run Tryz.prog X = .ok (.tuple #[.pointer none, .bool false]) X := fun X hX => by
    have hh := FMap.lookup (w := X) (H2.out X hX) (keyOk_string Tryz.underlying9) Tryz.underlying35 (z := .pointer none) (by rfl) x.path true (f := F2) (enc := ptrV) (B := bp)
    have lv : lookV ptrV (.pointer none) true (F2 x.path) = .tuple #[.pointer none, .bool false] := by rw [hp]; rfl
    rw [lv] at hh; exact hh
  have LK := Lib.hid lk0
  clear lk0 hT h1 h2 h3 hR hl hp hd hs hf ht hk hg ha ha2 hA
  have lk4 : ∀ d os, (Instr.lookup 35 (.map (some bp)) (.string x.path) true).run Tryz.prog (grow (redrawn _ d) os) = .ok (.tuple #[.pointer none, .bool false]) (grow (redrawn _ d) os) := fun d os => LK.out _ (below_next HA.out (below_regrown _ d os))
  have m2 := cell_regrown t2
  have n1 := cell_regrown q1
  have HD := Lib.hid hD
  have HS := Lib.hid hS
  have HV := Lib.hid hV
  clear hD hS hV
  go_enter Tryz.func23, Tryz.ntmps23
  go_wp2_with fail
  refine wp_region_quiet_below (by kernel_rfl) (by kernel_rfl) ?_
  repeat (first | go_big_quiet_step (fail) | quiet_step (fail))
  refine wpQuiet_nil ?_
  intro _ hw9
  obtain ⟨⟨dq, osq⟩, hw9⟩ := hw9
  subst hw9
  have HQ := Lib.hid (below_regrown (((w.alloc (.cells #[dv, dr] 48)).alloc (.cells #[.int .i64 x.kind, .string x.path, .int .i64 x.num, .string x.frm, .string x.dst] 60)).alloc (.cells #[.string ⟨#[]⟩, .int .i64 0, .int .i64 0, .int .i64 0, .int .i64 0, .bool false, .bool false, .bool false, .int .u64 0, .int .i64 0, .string ⟨#[]⟩, .int .i64 0] 74)) dq osq)
  have HA5 := Lib.hid (below_next HA.out HQ.out)
  have HD5 := Lib.hid (HD.out.below HQ.out HD.out.lt)
  have HS5 := Lib.hid (HS.out.below HQ.out HS.out.lt)
  have HV5 := Lib.hid (HV.out.below HQ.out HV.out.lt)
  clear lk4 m2 n1 t0 t1 t2 t3 t4 q0 q1 q2 q3 q4 HQ HD HS HV HA
  generalize grow (redrawn (((w.alloc (.cells #[dv, dr] 48)).alloc (.cells #[.int .i64 x.kind, .string x.path, .int .i64 x.num, .string x.frm, .string x.dst] 60)).alloc (.cells #[.string ⟨#[]⟩, .int .i64 0, .int .i64 0, .int .i64 0, .int .i64 0, .bool false, .bool false, .bool false, .int .u64 0, .int .i64 0, .string ⟨#[]⟩, .int .i64 0] 74)) dq) osq = W5 at HA5 HD5 HS5 HV5 ⊢
  obtain ⟨q0, q1, q2, q3, q4⟩ := box5s (x := x) HS5.out
  have HDR := Lib.hid (HDI.out W5 HA5.out)
  go_wp2_with fail
  refine HDR.out.mono ?_
  rintro e w6 ⟨rfl, rfl⟩
  have HG5 := Lib.hid (HG.out W5 HA5.out)
  obtain ⟨d0, d1⟩ := (⟨HD5.out.cell 0, HD5.out.cell 1⟩ : W5.cell? ⟨w.heap.size, 0, none⟩ = some dv ∧ W5.cell? ⟨w.heap.size, 1, none⟩ = some dr)
  go_wp2_with fail
  refine HG5.out.mono ?_
  rintro e w7 ⟨rfl, hb⟩
  have HV7 := Lib.hid (((HV5.out.below hb HV5.out.lt).alloc (.cells #[.string r.path, .int .i64 r.num, .int .i64 r.chg, .int .i64 r.act, .int .i64 r.ty.base, .bool r.ty.k, .bool r.ty.l, .bool r.ty.x, .int .u64 r.sum, .int .i64 r.size, .string r.frm, .int .i64 r.fnum] 74)))
  have HA7 := Lib.hid ((below_next HA5.out hb).alloc (below_next HA5.out hb).size (.cells #[.string r.path, .int .i64 r.num, .int .i64 r.chg, .int .i64 r.act, .int .i64 r.ty.base, .bool r.ty.k, .bool r.ty.l, .bool r.ty.x, .int .u64 r.sum, .int .i64 r.size, .string r.frm, .int .i64 r.fnum] 74))
  obtain ⟨z0, z1, z2, z3, z4, z5, z6, z7, z8, z9, z10, z11⟩ := box12 HV7.out
  obtain ⟨y0, y1, y2, y3, y4, y5, y6, y7, y8, y9, y10, y11⟩ := frz12 HV7.out
  obtain ⟨x0, x1, x2, x3, x4, x5, x6, x7, x8, x9, x10, x11⟩ := box12 (blk_new w7 [.string r.path, .int .i64 r.num, .int .i64 r.chg, .int .i64 r.act, .int .i64 r.ty.base, .bool r.ty.k, .bool r.ty.l, .bool r.ty.x, .int .u64 r.sum, .int .i64 r.size, .string r.frm, .int .i64 r.fnum] 74)
  dsimp only [someR, Option.isSome, Option.getD]
  have HN : w.heap.size + 1 + 1 < w7.heap.size := Nat.lt_of_lt_of_le HV5.out.lt hb.size
  have n1 : w.heap.size + 1 + 1 ≠ w7.heap.size := by omega
  have n2 : w7.heap.size ≠ w.heap.size + 1 + 1 := by omega
  clear hb HN
  go_upto_region 9 with fail
  generalize w7.alloc (.cells #[.string r.path, .int .i64 r.num, .int .i64 r.chg, .int .i64 r.act, .int .i64 r.ty.base, .bool r.ty.k, .bool r.ty.l, .bool r.ty.x, .int .u64 r.sum, .int .i64 r.size, .string r.frm, .int .i64 r.fnum] 74) = W8 at *
  generalize w7.heap.size = g10 at *
  refine wp_region_noPanic ?_
  first
    | go_region_law (fail)
    | fail
  all_goals
    refine NoPanic.normal ?_
    go_wp2_with fail
    have hZ3 := set12 HV7.out r
    have hB3 := below12 HA7.out (show w.heap.size ≤ w.heap.size + 1 + 1 by omega) r
    generalize ((((((((((((W8.setCell ⟨w.heap.size + 1 + 1, 0, none⟩ (.string r.path)).setCell ⟨w.heap.size + 1 + 1, 1, none⟩ (.int .i64 r.num)).setCell ⟨w.heap.size + 1 + 1, 2, none⟩ (.int .i64 r.chg)).setCell ⟨w.heap.size + 1 + 1, 3, none⟩ (.int .i64 r.act)).setCell ⟨w.heap.size + 1 + 1, 4, none⟩ (.int .i64 r.ty.base)).setCell ⟨w.heap.size + 1 + 1, 5, none⟩ (.bool r.ty.k)).setCell ⟨w.heap.size + 1 + 1, 6, none⟩ (.bool r.ty.l)).setCell ⟨w.heap.size + 1 + 1, 7, none⟩ (.bool r.ty.x)).setCell ⟨w.heap.size + 1 + 1, 8, none⟩ (.int .u64 r.sum)).setCell ⟨w.heap.size + 1 + 1, 9, none⟩ (.int .i64 r.size)).setCell ⟨w.heap.size + 1 + 1, 10, none⟩ (.string r.frm)).setCell ⟨w.heap.size + 1 + 1, 11, none⟩ (.int .i64 r.fnum)) = W9 at hZ3 hB3 ⊢
    obtain ⟨e0, e1, e2, e3, e4, e5, e6, e7, e8, e9, e10, e11⟩ := box12 hZ3
    exact bodyPost_ret (v := .tuple #[.agg #[.string r.path, .int .i64 r.num, .int .i64 r.chg, .int .i64 r.act, .int .i64 r.ty.base, .bool r.ty.k, .bool r.ty.l, .bool r.ty.x, .int .u64 r.sum, .int .i64 r.size, .string r.frm, .int .i64 r.fnum], .bool true]) (by simp [results, Tryz.results23, go_sem, e0, e1, e2, e3, e4, e5, e6, e7, e8, e9, e10, e11]) rfl ⟨rfl, hB3.drew⟩
end Go.Proofs.YteolonjmgojoeaaGreatDoor
