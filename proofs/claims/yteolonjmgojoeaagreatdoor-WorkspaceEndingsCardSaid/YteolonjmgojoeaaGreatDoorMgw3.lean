/- Get. -/
import Derived.Test.YteolonjmgojoeaaGreatDoorMzGreat
import Derived.Test.YteolonjmgojoeaaGreatDoorMzSyA
import Derived.Test.YteolonjmgojoeaaGreatDoorMzMem
import Derived.Test.YteolonjmgojoeaaGreatDoorMgw1
import Derived.Test.YteolonjmgojoeaaGreatDoorMzSyC
import Derived.Lib.QuietBelow
import Derived.Deep.MidRow
import Derived.StillTailTactics
namespace Go.Proofs.YteolonjmgojoeaaGreatDoor
open Go.RowKit
set_option linter.unusedVariables false
set_option linter.unusedSimpArgs false

set_option maxRecDepth 100000 in
set_option maxHeartbeats 4000000 in
theorem get_any (revs : List Rev) (q : ByteArray) (m : Int) (dv dr : Value) (w : World) (hR : Revs w dv revs) (hl : revs.length ≤ 1000000) :
    Calls Tryz.prog 50 #[.agg #[dv, dr], .string q, .int .i64 m] w
      fun e w' => e = .returned (.tuple #[.agg #[.string (someR (greatest revs q (fun v : Rev => decide (v.num = m)))).path, .int .i64 (someR (greatest revs q (fun v : Rev => decide (v.num = m)))).num, .int .i64 (someR (greatest revs q (fun v : Rev => decide (v.num = m)))).chg, .int .i64 (someR (greatest revs q (fun v : Rev => decide (v.num = m)))).act, .int .i64 (someR (greatest revs q (fun v : Rev => decide (v.num = m)))).ty.base, .bool (someR (greatest revs q (fun v : Rev => decide (v.num = m)))).ty.k, .bool (someR (greatest revs q (fun v : Rev => decide (v.num = m)))).ty.l, .bool (someR (greatest revs q (fun v : Rev => decide (v.num = m)))).ty.x, .int .u64 (someR (greatest revs q (fun v : Rev => decide (v.num = m)))).sum, .int .i64 (someR (greatest revs q (fun v : Rev => decide (v.num = m)))).size, .string (someR (greatest revs q (fun v : Rev => decide (v.num = m)))).frm, .int .i64 (someR (greatest revs q (fun v : Rev => decide (v.num = m)))).fnum], .bool (greatest revs q (fun v : Rev => decide (v.num = m))).isSome]) ∧ Below w.heap.size w w' := by
  have HR := Lib.hid hR
  obtain ⟨Ar, cr, rfl, -⟩ := hR
  obtain ⟨dv, hdv⟩ : ∃ v, Value.slice Ar revs.length cr = v := ⟨_, rfl⟩
  have hb0 : Below w.heap.size w (((w.alloc (.cells #[(.slice Ar revs.length cr), dr] 48)).alloc (.cells #[.int .i64 m] 3)).alloc (.cells #[.string ⟨#[]⟩, .int .i64 0, .int .i64 0, .int .i64 0, .int .i64 0, .bool false, .bool false, .bool false, .int .u64 0, .int .i64 0, .string ⟨#[]⟩, .int .i64 0] 74)) := ((((Below.refl _ _).alloc (Nat.le_refl _) _).alloc (by simp) _).alloc (by simp; omega) _)
  have hZ : Blk (((w.alloc (.cells #[(.slice Ar revs.length cr), dr] 48)).alloc (.cells #[.int .i64 m] 3)).alloc (.cells #[.string ⟨#[]⟩, .int .i64 0, .int .i64 0, .int .i64 0, .int .i64 0, .bool false, .bool false, .bool false, .int .u64 0, .int .i64 0, .string ⟨#[]⟩, .int .i64 0] 74)) (w.heap.size + 1 + 1) 74 [.string ⟨#[]⟩, .int .i64 0, .int .i64 0, .int .i64 0, .int .i64 0, .bool false, .bool false, .bool false, .int .u64 0, .int .i64 0, .string ⟨#[]⟩, .int .i64 0] := by
    have h1 := blk_new ((w.alloc (.cells #[(.slice Ar revs.length cr), dr] 48)).alloc (.cells #[.int .i64 m] 3)) [.string ⟨#[]⟩, .int .i64 0, .int .i64 0, .int .i64 0, .int .i64 0, .bool false, .bool false, .bool false, .int .u64 0, .int .i64 0, .string ⟨#[]⟩, .int .i64 0] 74
    simp only [World.size_alloc] at h1
    exact h1
  have hcell : (((w.alloc (.cells #[(.slice Ar revs.length cr), dr] 48)).alloc (.cells #[.int .i64 m] 3)).alloc (.cells #[.string ⟨#[]⟩, .int .i64 0, .int .i64 0, .int .i64 0, .int .i64 0, .bool false, .bool false, .bool false, .int .u64 0, .int .i64 0, .string ⟨#[]⟩, .int .i64 0] 74)).cell? ⟨w.heap.size + 1, 0, none⟩ = some (.int .i64 m) := by
    have h1 := (blk_new (w.alloc (.cells #[(.slice Ar revs.length cr), dr] 48)) [.int .i64 m] 3).alloc (.cells #[.string ⟨#[]⟩, .int .i64 0, .int .i64 0, .int .i64 0, .int .i64 0, .bool false, .bool false, .bool false, .int .u64 0, .int .i64 0, .string ⟨#[]⟩, .int .i64 0] 74)
    simp only [World.size_alloc] at h1
    exact h1.cell 0
  have HC := Lib.hid (greatest_get revs q m (w.heap.size + 1) (.slice Ar revs.length cr) dr _ (HR.out.below hb0) hcell hl)
  clear hdv dv hcell
  generalize greatest revs q (fun v : Rev => decide (v.num = m)) = o at HC ⊢
  generalize someR o = r at HC ⊢
  go_enter Tryz.func50, Tryz.ntmps50
  go_wp2_with fail
  refine HC.out.mono ?_
  rintro e w1 ⟨rfl, hb1⟩
  have hZ1 := hZ.below hb1 hZ.lt
  have hbw1 := below_next hb0 hb1
  obtain ⟨z0, z1, z2, z3, z4, z5, z6, z7, z8, z9, z10, z11⟩ := box12 hZ1
  obtain ⟨y0, y1, y2, y3, y4, y5, y6, y7, y8, y9, y10, y11⟩ := frz12 hZ1
  clear hb1
  go_wp2_with fail
  have hZ3 := set12 hZ1 r
  have hB3 := below12 hbw1 (show w.heap.size ≤ w.heap.size + 1 + 1 by omega) r
  generalize ((((((((((((w1.setCell ⟨w.heap.size + 1 + 1, 0, none⟩ (.string r.path)).setCell ⟨w.heap.size + 1 + 1, 1, none⟩ (.int .i64 r.num)).setCell ⟨w.heap.size + 1 + 1, 2, none⟩ (.int .i64 r.chg)).setCell ⟨w.heap.size + 1 + 1, 3, none⟩ (.int .i64 r.act)).setCell ⟨w.heap.size + 1 + 1, 4, none⟩ (.int .i64 r.ty.base)).setCell ⟨w.heap.size + 1 + 1, 5, none⟩ (.bool r.ty.k)).setCell ⟨w.heap.size + 1 + 1, 6, none⟩ (.bool r.ty.l)).setCell ⟨w.heap.size + 1 + 1, 7, none⟩ (.bool r.ty.x)).setCell ⟨w.heap.size + 1 + 1, 8, none⟩ (.int .u64 r.sum)).setCell ⟨w.heap.size + 1 + 1, 9, none⟩ (.int .i64 r.size)).setCell ⟨w.heap.size + 1 + 1, 10, none⟩ (.string r.frm)).setCell ⟨w.heap.size + 1 + 1, 11, none⟩ (.int .i64 r.fnum)) = W3 at hZ3 hB3 ⊢
  obtain ⟨e0, e1, e2, e3, e4, e5, e6, e7, e8, e9, e10, e11⟩ := box12 hZ3
  exact bodyPost_ret (v := .tuple #[.agg #[.string r.path, .int .i64 r.num, .int .i64 r.chg, .int .i64 r.act, .int .i64 r.ty.base, .bool r.ty.k, .bool r.ty.l, .bool r.ty.x, .int .u64 r.sum, .int .i64 r.size, .string r.frm, .int .i64 r.fnum], .bool o.isSome]) (by simp [results, Tryz.results50, go_sem, e0, e1, e2, e3, e4, e5, e6, e7, e8, e9, e10, e11]) rfl ⟨rfl, hB3⟩
end Go.Proofs.YteolonjmgojoeaaGreatDoor
/- Leaves of the workspace: a file, isOpened, added. -/
namespace Go.Proofs.YteolonjmgojoeaaGreatDoor
open Go.RowKit
set_option linter.unusedVariables false
set_option linter.unusedSimpArgs false

structure WF where
  loc : ByteArray
  rev : Rev
  st : Int
def WF.cells (f : WF) (bv : Value) : List Value := [.string f.loc] ++ f.rev.cells ++ [.int .i64 f.st, bv]
def IsFile (w : World) (g : Nat) (f : WF) (bv : Value) : Prop := Blk w g 96 (f.cells bv)
theorem IsFile.facts {w : World} {g : Nat} {f : WF} {bv : Value} (h : IsFile w g f bv) :
    w.cell? ⟨g, 0, none⟩ = some (.string f.loc) ∧ w.cell? ⟨g, 1, none⟩ = some (.string f.rev.path) ∧ w.cell? ⟨g, 2, none⟩ = some (.int .i64 f.rev.num) ∧ w.cell? ⟨g, 9, none⟩ = some (.int .u64 f.rev.sum) ∧ w.cell? ⟨g, 10, none⟩ = some (.int .i64 f.rev.size) ∧ w.cell? ⟨g, 13, none⟩ = some (.int .i64 f.st) ∧ w.cell? ⟨g, 14, none⟩ = some bv :=
  ⟨Blk.cell h 0, Blk.cell h 1, Blk.cell h 2, Blk.cell h 9, Blk.cell h 10, Blk.cell h 13, Blk.cell h 14⟩
theorem added_any (f : WF) (g : Nat) (bv : Value) (w : World) (h : IsFile w g f bv) : Calls Tryz.prog 47 #[.pointer (some ⟨g, 0, none⟩)] w fun e w' => e = .returned (.bool (f.rev.num == 0)) ∧ w = w' := by
  obtain ⟨c0, c1, c2, c9, c10, c13, c14⟩ := h.facts
  go_enter Tryz.func47, Tryz.ntmps47
  go_wp2_with fail
  go_ret
  exact ⟨rfl, rfl⟩
end Go.Proofs.YteolonjmgojoeaaGreatDoor
/- put: a file into both maps of a tree. -/
namespace Go.Proofs.YteolonjmgojoeaaGreatDoor
open Go.RowKit
set_option linter.unusedVariables false
set_option linter.unusedSimpArgs false

def ptrV (g : Nat) : Value := .pointer (some ⟨g, 0, none⟩)
def IsTree (w : World) (t : Nat) (n : Int) (bl bp bs ba : Nat) : Prop := Blk w t 39 [.int .i64 n, .map (some bl), .map (some bp), .map (some bs), .map (some ba)]
theorem IsTree.facts {w : World} {t : Nat} {n : Int} {bl bp bs ba : Nat} (h : IsTree w t n bl bp bs ba) :
    w.cell? ⟨t, 0, none⟩ = some (.int .i64 n) ∧ w.cell? ⟨t, 1, none⟩ = some (.map (some bl)) ∧ w.cell? ⟨t, 2, none⟩ = some (.map (some bp)) ∧ w.cell? ⟨t, 3, none⟩ = some (.map (some bs)) ∧ w.cell? ⟨t, 4, none⟩ = some (.map (some ba)) :=
  ⟨Blk.cell h 0, Blk.cell h 1, Blk.cell h 2, Blk.cell h 3, Blk.cell h 4⟩
theorem blk_grown_map {κ α : Type} [BEq κ] {kv : κ → Value} {enc : α → Value} {F : κ → Option α} {w w' : World} {g B : Nat} {e : TypeId} {cs : List Value} (h : Blk w g e cs) (hM : FMap kv enc w B F) (hg : w.grownBy w' (some B)) : Blk w' g e cs :=
  Blk.grown h hg (by intro e2; injection e2 with e2; subst e2; obtain ⟨m, ⟨es, c, ho, _⟩, _⟩ := hM; unfold Blk at h; rw [ho] at h; cases h)
/-- What put leaves. -/
def Put (w : World) (t g bl bp : Nat) (f : WF) (F1 F2 : ByteArray → Option Nat) (w' : World) : Prop :=
  (∃ v, w.grownBy v (some bl) ∧ v.grownBy w' (some bp)) ∧ NMap Value.string ptrV w' bl (upd F1 f.loc g) ∧ NMap Value.string ptrV w' bp (upd F2 f.rev.path g)
set_option maxRecDepth 100000 in
set_option maxHeartbeats 2000000 in
theorem put_any (t g bl bp bs ba : Nat) (n : Int) (f : WF) (bv : Value) (F1 F2 : ByteArray → Option Nat) (w : World) (hT : IsTree w t n bl bp bs ba) (hF : IsFile w g f bv) (h1 : NMap Value.string ptrV w bl F1) (h2 : NMap Value.string ptrV w bp F2) (hne : bl ≠ bp) :
    Calls Tryz.prog 26 #[.pointer (some ⟨t, 0, none⟩), .pointer (some ⟨g, 0, none⟩)] w fun e w' => e = .returned (.tuple #[]) ∧ Put w t g bl bp f F1 F2 w' := by
  obtain ⟨v, u1, hM1, hg1, hs1⟩ := NMap.update (w := w.drew) h1 (keyOk_string Tryz.underlying9) Tryz.underlying35 f.loc g
  have u1' : (Instr.mapUpdate 35 (.map (some bl)) (.string f.loc) (.pointer (some ⟨g, 0, none⟩))).run Tryz.prog w.drew = .ok () v := u1
  have hgv : w.grownBy v (some bl) := ⟨hg1.os, hg1.tape, hg1.output, hg1.size, hg1.block⟩
  have hTv : IsTree v t n bl bp bs ba := blk_grown_map hT h1.fmap hgv
  have hFv : IsFile v g f bv := blk_grown_map hF h1.fmap hgv
  have h2v : NMap Value.string ptrV v bp F2 := h2.keep (hgv.block bp h2.lt (by intro e; injection e with e; exact hne e.symm))
  obtain ⟨x, u2, hM2, hg2, hs2⟩ := NMap.update (w := v.drew) h2v (keyOk_string Tryz.underlying9) Tryz.underlying35 f.rev.path g
  have u2' : (Instr.mapUpdate 35 (.map (some bp)) (.string f.rev.path) (.pointer (some ⟨g, 0, none⟩))).run Tryz.prog v.drew = .ok () x := u2
  have hgx : v.grownBy x (some bp) := ⟨hg2.os, hg2.tape, hg2.output, hg2.size, hg2.block⟩
  have hM1x : NMap Value.string ptrV x bl (upd F1 f.loc g) := hM1.keep (hgx.block bl hM1.lt (by intro e; injection e with e; exact hne e))
  have HP : Hid (Put w t g bl bp f F1 F2 x) := Lib.hid ⟨⟨v, hgv, hgx⟩, hM1x, hM2⟩
  obtain ⟨t0, t1, t2, t3, t4⟩ := hT.facts
  obtain ⟨c0, c1, c2, c9, c10, c13, c14⟩ := hF.facts
  obtain ⟨s0, s1, s2, s3, s4⟩ := hTv.facts
  obtain ⟨d0, d1, d2, d9, d10, d13, d14⟩ := hFv.facts
  clear u1 u2
  go_enter Tryz.func26, Tryz.ntmps26
  go_wp2_with fail
  go_still_tail 9, (by kernel_rfl)
  change wpList _ _ _ _ _ w.drew
  go_wp2_with fail
  go_still_tail 10, (by kernel_rfl)
  change wpList _ _ _ _ _ v.drew
  go_wp2_with fail
  go_end0
  exact ⟨rfl, HP.out⟩
end Go.Proofs.YteolonjmgojoeaaGreatDoor
/- dirty: whether a client path is dirty. -/
namespace Go.Proofs.YteolonjmgojoeaaGreatDoor
open Go.RowKit
set_option linter.unusedVariables false
set_option linter.unusedSimpArgs false

/-- The strays: local paths and their bytes. -/
def Strays (w : World) (bs : Nat) (F : ByteArray → Option Value) : Prop := FMap Value.string id w bs F
set_option maxRecDepth 100000 in
set_option maxHeartbeats 2000000 in
theorem dirty_none (t bl bp bs ba : Nat) (n : Int) (l : ByteArray) (F1 : ByteArray → Option Nat) (F3 : ByteArray → Option Value) (w : World) (hT : IsTree w t n bl bp bs ba) (h1 : FMap Value.string ptrV w bl F1) (h3 : Strays w bs F3) (hl : F3 l = none) (hf : F1 l = none) :
    Calls Tryz.prog 49 #[.pointer (some ⟨t, 0, none⟩), .string l] w fun e w' => e = .returned (.bool false) ∧ w = w' := by
  obtain ⟨t0, t1, t2, t3, t4⟩ := hT.facts
  have lk := FMap.lookup h3 (keyOk_string Tryz.underlying9) Tryz.underlying36 (z := .slice none 0 0) (by rfl) l true
  have lv : lookV id (.slice none 0 0) true (F3 l) = .tuple #[.slice none 0 0, .bool false] := by rw [hl]; rfl
  rw [lv] at lk
  have lk1 := FMap.lookup h1 (keyOk_string Tryz.underlying9) Tryz.underlying35 (z := .pointer none) (by rfl) l true
  have lv1 : lookV ptrV (.pointer none) true (F1 l) = .tuple #[.pointer none, .bool false] := by rw [hf]; rfl
  rw [lv1] at lk1
  clear hl lv hf lv1
  go_enter Tryz.func49, Tryz.ntmps49
  go_wp2_with fail
  go_ret
  exact ⟨rfl, rfl⟩
end Go.Proofs.YteolonjmgojoeaaGreatDoor
/- syncplan.result: the have-list after a plan: words, the closure. -/
namespace Go.Proofs.YteolonjmgojoeaaGreatDoor
open Go.RowKit
open Go.Sort (grow)
set_option linter.unusedVariables false
set_option linter.unusedSimpArgs false

/-- What a step that is done adds. -/
def addS (x : Syn) : List Hav := if x.dst = emptyS then [] else [⟨x.path, x.num, x.dst⟩]
def putS (x : Syn) : List Hav := if staysB x.kind then [] else addS x
def Syns (w : World) (v : Value) (l : List Syn) : Prop := Row w 5 v l.length (l.flatMap Syn.cells)
def SynAt (w : World) (a : Addr) (x : Syn) : Prop := w.cell? a = some (.int .i64 x.kind) ∧ w.cell? ⟨a.block, a.off + 1, none⟩ = some (.string x.path) ∧ w.cell? ⟨a.block, a.off + 2, none⟩ = some (.int .i64 x.num) ∧ w.cell? ⟨a.block, a.off + 3, none⟩ = some (.string x.frm) ∧ w.cell? ⟨a.block, a.off + 4, none⟩ = some (.string x.dst)
theorem Syns.at_ {w : World} {A : Option Addr} {c : Nat} {l : List Syn} (h : Syns w (.slice A l.length c) l) {k : Nat} (hk : k < l.length) :
    ∃ ad, A = some ad ∧ ad.block < w.heap.size ∧ SynAt w (ad.add (k * 5)) l[k] := by
  obtain ⟨ad, e, hb, hc⟩ := row_at (f := Syn.cells) (n := 5) (fun _ => rfl) h hk
  exact ⟨ad, e, hb, hc 0 _ rfl, hc 1 _ rfl, hc 2 _ rfl, hc 3 _ rfl, hc 4 _ rfl⟩
theorem Syns.head {w : World} {A : Option Addr} {c n : Nat} {x : Syn} {r : List Syn} (h : Syns w (.slice A n c) (x :: r)) :
    n = r.length + 1 ∧ ∃ ad, A = some ad ∧ ad.block < w.heap.size ∧ SynAt w ad x := by
  have hn : n = (x :: r).length := by obtain ⟨A', c', e, -⟩ := id h; injection e
  subst hn
  obtain ⟨ad, e, hb, hc⟩ := Syns.at_ (k := 0) h (by simp)
  refine ⟨rfl, ad, e, hb, ?_⟩
  have : ad.add (0 * 5) = ad := by unfold Addr.add; simp
  rw [this] at hc; exact hc
theorem Syns.below {w w' : World} {v : Value} {l : List Syn} (h : Syns w v l) (hb : Below w.heap.size w w') : Syns w' v l := Row.below h hb
theorem Havs.below {w w' : World} {v : Value} {l : List Hav} (h : Havs w v l) (hb : Below w.heap.size w w') : Havs w' v l := Row.below h hb
theorem havElem : ElemOk Tryz.prog 82 117 3 40 := elemOk_of Tryz.underlying82 (z := .agg #[.string ⟨#[]⟩, .int .i64 0, .string ⟨#[]⟩]) (by kernel_rfl) rfl (by decide)
/-- The list that is made: in box b, a row of its own. -/
structure Aft (w0 w : World) (b : Nat) (l : List Hav) (v : Value) : Prop where
  bel : Below b w0 w
  box : Blk w b 82 [v]
  row : w.ownsRow (b + 1) 117 3 v l.length (l.flatMap Hav.cells)
/-- What a turn of the list leaves alone. -/
def Kp (b : Nat) (w w' : World) (v v' : Value) : Prop := w.heap.size ≤ w'.heap.size ∧ ∀ k, k < w.heap.size → k ≠ b → v.ownBlock ≠ some k → w'.heap[k]? = w.heap[k]? ∧ v'.ownBlock ≠ some k
theorem Kp.refl (b : Nat) (w : World) (v : Value) : Kp b w w v v := ⟨Nat.le_refl _, fun k _ _ h => ⟨rfl, h⟩⟩
theorem Kp.below {b : Nat} {w w' : World} {v : Value} (h : Below w.heap.size w w') : Kp b w w' v v := ⟨h.size, fun k hk _ h2 => ⟨h.block k hk, h2⟩⟩
theorem Kp.trans {b : Nat} {w w' w2 : World} {v v' v2 : Value} (h : Kp b w w' v v') (h2 : Kp b w' w2 v' v2) : Kp b w w2 v v2 :=
  ⟨Nat.le_trans h.1 h2.1, fun k hk hb hv => by
    obtain ⟨a1, a2⟩ := h.2 k hk hb hv
    obtain ⟨c1, c2⟩ := h2.2 k (Nat.lt_of_lt_of_le hk h.1) hb a2
    exact ⟨c1.trans a1, c2⟩⟩
theorem Kp.blk {b g : Nat} {w w' : World} {v v' : Value} {e : TypeId} {cs : List Value} (h : Kp b w w' v v') (hB : Blk w g e cs) (hg : g ≠ b) (hv : v.ownBlock ≠ some g) : Blk w' g e cs ∧ v'.ownBlock ≠ some g := by
  obtain ⟨a1, a2⟩ := h.2 g hB.lt hg hv
  exact ⟨a1.trans hB, a2⟩
theorem Aft.under {w0 w X : World} {b : Nat} {l : List Hav} {v : Value} (h : Aft w0 w b l v) (hX : Below w.heap.size w X) : Aft w0 X b l v :=
  ⟨h.bel.trans (hX.mono (Nat.le_of_lt h.box.lt)), h.box.below hX h.box.lt, own_below h.row hX⟩
theorem hav_one (x : Hav) : ∀ v ∈ x.cells, v.oneCell' = true := by
  intro v hv
  simp only [Hav.cells, List.mem_cons, List.not_mem_nil, or_false] at hv
  rcases hv with rfl | rfl | rfl <;> rfl
theorem flat_snoc {α β : Type} (f : α → List β) (l : List α) (x : α) : (l ++ [x]).flatMap f = l.flatMap f ++ f x := by simp
/-- An entry is appended and the box is written. -/
theorem Aft.push {w0 w w2 : World} {b : Nat} {l : List Hav} {v : Value} {x : Hav} {A' : Option Addr} {c' : Nat} (h : Aft w0 w b l v)
    (hown : w2.ownsRow (b + 1) 117 3 (.slice A' (l.length + 1) c') (l.length + 1) (l.flatMap Hav.cells ++ x.cells)) (hgr : w.grownBy w2 v.ownBlock)
    (hob : (Value.slice A' (l.length + 1) c').ownBlock = v.ownBlock ∨ (Value.slice A' (l.length + 1) c').ownBlock = some w.heap.size) :
    Aft w0 (w2.setCell ⟨b, 0, none⟩ (.slice A' (l.length + 1) c')) b (l ++ [x]) (.slice A' (l.length + 1) c') ∧ Kp b w (w2.setCell ⟨b, 0, none⟩ (.slice A' (l.length + 1) c')) v (.slice A' (l.length + 1) c') := by
  have hl := h.box.lt
  have hb1 : ∀ k, v.ownBlock = some k → b < k := fun k e => by have := (h.row.lt k e).1; omega
  have hbx : some b ≠ v.ownBlock := fun e => by have := hb1 b e.symm; omega
  have hbel : Below b w0 w2 := h.bel.grown hgr (Nat.le_of_lt hl) (fun k e => by have := hb1 k e; omega)
  have hne : (Value.slice A' (l.length + 1) c').ownBlock ≠ some b := by
    rcases hob with e | e
    · rw [e]; exact fun e => hbx e.symm
    · rw [e]; intro e2; injection e2 with e2; omega
  refine ⟨⟨hbel.setCell (p := ⟨b, 0, none⟩) (Nat.le_refl _) _, (Blk.grown h.box hgr hbx).set_ 0 _, ?_⟩, ?_, fun k hk hkb hv => ⟨?_, ?_⟩⟩
  · rw [List.length_append, List.length_singleton, flat_snoc]
    exact own_setCell hown (p := ⟨b, 0, none⟩) hne _
  · simpa using hgr.size
  · rw [Below.heap_setCell w2 _ _ k hkb]
    exact hgr.block k hk (fun e => hv e.symm)
  · rcases hob with e | e
    · rw [e]; exact hv
    · rw [e]; intro e2; injection e2 with e2; omega
theorem Aft.alloc {w0 w : World} {b : Nat} {l : List Hav} {v : Value} (h : Aft w0 w b l v) (o : Obj) : Aft w0 (w.alloc o) b l v := h.under ((Below.refl _ _).alloc (Nat.le_refl _) _)
theorem addS_yes {x : Syn} (h : x.dst = emptyS) : addS x = [] := if_pos h
theorem addS_no {x : Syn} (h : ¬ x.dst = emptyS) : addS x = [⟨x.path, x.num, x.dst⟩] := if_neg h
set_option maxRecDepth 100000 in
set_option maxHeartbeats 2000000 in
/-- The closure: what a step adds is appended. -/
theorem addS_any (x : Syn) (w0 w : World) (b : Nat) (l : List Hav) (v : Value) (hA : Aft w0 w b l v) (hl : (l.length + 1) * 40 ≤ 140737488355328) :
    Calls Tryz.prog 69 #[.agg #[.int .i64 x.kind, .string x.path, .int .i64 x.num, .string x.frm, .string x.dst], .pointer (some ⟨b, 0, none⟩)] w fun e w' => e = .returned (.tuple #[]) ∧ ∃ v', Aft w0 w' b (l ++ addS x) v' ∧ Kp b w w' v v' := by
  have hA1 := hA.alloc (.cells #[.int .i64 x.kind, .string x.path, .int .i64 x.num, .string x.frm, .string x.dst] 60)
  have hK1 : Kp b w (w.alloc (.cells #[.int .i64 x.kind, .string x.path, .int .i64 x.num, .string x.frm, .string x.dst] 60)) v v := Kp.below ((Below.refl _ _).alloc (Nat.le_refl _) _)
  have hS := blk_new w [.int .i64 x.kind, .string x.path, .int .i64 x.num, .string x.frm, .string x.dst] 60
  by_cases h1 : x.dst = emptyS
  · have HK := Lib.hid (addS_yes h1)
    obtain ⟨s1, s2⟩ := strE_yes h1
    have HA := Lib.hid hA1
    have HKp := Lib.hid hK1
    clear h1 hA hA1 hK1 hS
    go_enter Tryz.func69, Tryz.ntmps69
    go_wp2_with fail
    go_end0
    exact ⟨rfl, _, by rw [HK.out, List.append_nil]; exact HA.out, HKp.out⟩
  · have HK := Lib.hid (addS_no h1)
    obtain ⟨s1, s2⟩ := strE_no h1
    obtain ⟨s3, s4, s5, s6, s7⟩ := box5s (x := x) hS
    have hbx : (w.alloc (.cells #[.int .i64 x.kind, .string x.path, .int .i64 x.num, .string x.frm, .string x.dst] 60)).cell? ⟨b, 0, none⟩ = some v := hA1.box.cell 0
    have hA2 := hA1.alloc (.cells #[.string x.path, .int .i64 x.num, .string x.dst] 117)
    have hK2 : Kp b w ((w.alloc (.cells #[.int .i64 x.kind, .string x.path, .int .i64 x.num, .string x.frm, .string x.dst] 60)).alloc (.cells #[.string x.path, .int .i64 x.num, .string x.dst] 117)) v v := Kp.below (((Below.refl _ _).alloc (Nat.le_refl _) _).alloc (by simp) _)
    have hrow := row_new (w.alloc (.cells #[.int .i64 x.kind, .string x.path, .int .i64 x.num, .string x.frm, .string x.dst] 60)) [.string x.path, .int .i64 x.num, .string x.dst] 117 3 1 rfl (by unfold maxLen; omega) (w.heap.size + 1) (by simp)
    obtain ⟨A0, c0, rfl⟩ := own_slice hA.row
    have hsz : b + 1 ≤ ((w.alloc (.cells #[.int .i64 x.kind, .string x.path, .int .i64 x.num, .string x.frm, .string x.dst] 60)).alloc (.cells #[.string x.path, .int .i64 x.num, .string x.dst] 117)).heap.size := by have := hA.box.lt; simp; omega
    clear h1 hA hA1 hK1 hS
    go_enter Tryz.func69, Tryz.ntmps69
    go_wp2_with (at_builtin; refine wpList_app rfl rfl havElem hA2.row rfl hrow rfl (hav_one ⟨x.path, x.num, x.dst⟩) hl (by unfold maxLen; omega) hsz ?_; intro A' c' w2 hown hgr hob; obtain ⟨hA3, hK3⟩ := hA2.push (x := ⟨x.path, x.num, x.dst⟩) hown hgr hob; have hbw := Blk.grown hA2.box hgr (fun e => by have := (hA2.row.lt b e.symm).1; omega); have hfz := hbw.frozen 0; have hcl : w2.cell? ⟨b, 0, none⟩ = some (.slice A0 l.length c0) := hbw.cell 0)
    go_end0
    exact ⟨rfl, _, by rw [HK.out]; exact hA3, hK2.trans hK3⟩
end Go.Proofs.YteolonjmgojoeaaGreatDoor
