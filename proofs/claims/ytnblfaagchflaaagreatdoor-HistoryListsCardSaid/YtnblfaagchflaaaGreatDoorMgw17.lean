/- The arguments of the statements, opened: changes, edits, records. -/
import Derived.Test.YtnblfaagchflaaaGreatDoorMgw16
import Derived.Test.YtnblfaagchflaaaGreatDoorMzHp
import Derived.Test.YtnblfaagchflaaaGreatDoorMgw14
import Derived.ProofKit
import Derived.OpenShut
import Derived.ShutString
import Derived.ChangeOld
import Derived.Deep.Slices
import Derived.Deep.Fields
import Derived.SizedLaws
import Derived.Sort.LotA
import Derived.Shelf.SlSortCmp.KitK
import Derived.Lib.QuietBelow
import Derived.Deep.DeepCutAuto
import Derived.Lib.Strings
import Derived.Deep.RegionHeld3
import Derived.Deep.MidRow
import Derived.StillTailTactics
import Derived.IntWalk
import Derived.Laws.EntriesVeiled
import Derived.Lib.AppendZeros
import Derived.Deep.RegionLaw
import Derived.Deep.LoopGhost
import Derived.Deep.CutBlock
namespace Go.Proofs.YtnblfaagchflaaaGreatDoor
open Go.RowKit Go.ChangeShapes Go.WideShapes Go.Deep
set_option linter.unusedVariables false
set_option linter.unusedSimpArgs false

section
variable {H : Type} {enc : TypeId × Value → H} {P : Program} {w : World} {spare : Nat → Bool} {held : Bool}
/-- No part of d is too great for memory. -/
def Wt (P : Program) (e : TypeId) (d : DataW H) : Prop := ∀ x ∈ d.weights P e, x ≤ reachBytes
/-- Whatever reads as a value of type e is the cells of some x, of which Pr holds. -/
def Rd {α : Type} (enc : TypeId × Value → H) (P : Program) (w : World) (spare : Nat → Bool) (held : Bool) (e : TypeId) (f : α → List Value) (Pr : α → Prop) : Prop :=
  ∀ n cs y, DataW.trod enc P w 0 spare held n e cs = some y → Wt P e y.1 → ∃ x, cs = f x ∧ Pr x
theorem rd_string {t : TypeId} (ht : P.underlying t = some .string) : Rd enc P w spare held t (fun s : ByteArray => [.string s]) (fun s => s.size ≤ reachBytes) := fun n cs y h hw => by
  obtain ⟨s, e, hy, hs⟩ := DataW.trod_string ht h
  subst hy
  exact ⟨s, e, hw _ (by simp [DataW.weights])⟩
theorem rd_int {t : TypeId} {k : IntKind} (ht : P.underlying t = some (.int k)) : Rd enc P w spare held t (fun n : Int => [.int k n]) (fun n => (Lit.int k n).wf = true) := fun n cs y h _ => by
  obtain ⟨s, e, _, hs⟩ := DataW.trod_int ht h
  exact ⟨s, e, hs⟩
theorem rd_bool {t : TypeId} (ht : P.underlying t = some .bool) : Rd enc P w spare held t (fun b : Bool => [.bool b]) (fun _ => True) := fun n cs y h _ => by
  obtain ⟨s, e, _⟩ := DataW.trod_bool ht h
  exact ⟨s, e, trivial⟩
theorem choose_list {α : Type} {p : Nat → α → Prop} : ∀ (n : Nat), (∀ i, i < n → ∃ x, p i x) → ∃ l : List α, l.length = n ∧ ∀ i (h : i < l.length), p i l[i]
  | 0, _ => ⟨[], rfl, fun i h => absurd h (by simp)⟩
  | n + 1, h => by
    obtain ⟨l, hl, hp⟩ := choose_list n (fun i hi => h i (by omega))
    obtain ⟨x, hx⟩ := h n (by omega)
    refine ⟨l ++ [x], by simp [hl], fun i hi => ?_⟩
    by_cases hil : i < l.length
    · rw [List.getElem_append_left hil]; exact hp i hil
    · have : i = n := by simp at hi; omega
      subst this
      rw [List.getElem_append_right (by omega)]; simpa using hx
theorem wts_all {P : Program} {e : TypeId} {l : List (DataW H)} {d : DataW H} {x : Nat} (hd : d ∈ l) (hx : x ∈ d.weights P e) : x ∈ DataW.weightsAll P e l := by
  induction l with
  | nil => cases hd
  | cons a l ih =>
    rw [DataW.weightsAll]
    rcases List.mem_cons.1 hd with rfl | hd
    · exact List.mem_append_left _ hx
    · exact List.mem_append_right _ (ih hd)
/-- A field of a struct. -/
theorem rd_field {e : TypeId} {fs : Array Field} {cs : List Value} {n : Nat} {y : DataW H × List MemPlace} (he : P.underlying e = some (.struct fs)) (h : DataW.trod enc P w 0 spare held n e cs = some y) (hw : Wt P e y.1) {i : Nat} {f : Field} (hf : fs[i]? = some f) :
    ∃ n' y', DataW.trod enc P w 0 spare held n' f.type ((cs.drop f.offset).take (P.cellsOf f.type)) = some y' ∧ Wt P f.type y'.1 := by
  obtain ⟨ys, n', _, hy, _, hlen, hfld⟩ := DataW.trod_struct he h
  have := hfld i f hf
  have hi := (Array.getElem?_eq_some_iff.1 hf).1
  rw [List.getElem?_eq_getElem (by omega)] at this
  refine ⟨n', _, this, fun x hx => hw x ?_⟩
  rw [hy]
  simp only [DataW.weights, he]
  exact DataW.weights_mem_each (j := i) (t := f.type) (by simp [hf]) (by rw [List.getElem?_map, List.getElem?_eq_getElem (by omega)]; rfl) x hx
theorem rd_field' {e T : TypeId} {fs : Array Field} {cs : List Value} {n off k : Nat} {y : DataW H × List MemPlace} (he : P.underlying e = some (.struct fs)) (h : DataW.trod enc P w 0 spare held n e cs = some y) (hw : Wt P e y.1) {i : Nat} {f : Field} (hf : fs[i]? = some f) (hT : f.type = T) (ho : f.offset = off) (hk : P.cellsOf T = k) :
    ∃ n' y', DataW.trod enc P w 0 spare held n' T ((cs.drop off).take k) = some y' ∧ Wt P T y'.1 := by
  obtain ⟨n', y', h', hw'⟩ := rd_field he h hw hf
  rw [hT] at hw'
  rw [hT, ho, hk] at h'
  exact ⟨n', y', h', hw'⟩
theorem rd_len {e : TypeId} {fs : Array Field} {cs : List Value} {n : Nat} {y : DataW H × List MemPlace} (he : P.underlying e = some (.struct fs)) (h : DataW.trod enc P w 0 spare held n e cs = some y) : cs.length = P.cellsOf e := by
  obtain ⟨ys, n', _, _, hl, _, _⟩ := DataW.trod_struct he h
  exact hl
/-- A slice. -/
theorem rd_slice {α : Type} {f : α → List Value} {Pr : α → Prop} {k : Nat} {t e : TypeId} (hf : ∀ x, (f x).length = k) (hk : 0 < k) (ht : P.underlying t = some (.slice e)) (hC : P.cellsOf e = k) (hR : Rd enc P w spare held e f Pr) :
    ∀ n cs y, DataW.trod enc P w 0 spare held n t cs = some y → Wt P t y.1 → ∃ (v : Value) (l : List α), cs = [v] ∧ l.length * P.bytesOf e ≤ reachBytes ∧ (∃ A c, v = .slice A l.length c) ∧ Row w k v l.length (l.flatMap f) ∧ ∀ x ∈ l, Pr x := by
  intro n cs y h hw
  rcases open_slice ht h with ⟨rfl, _⟩ | ⟨x, len, cap, m, nf, D, Pl, rfl, _, hl, hm, hmm, hy, hi⟩
  · exact ⟨_, [], rfl, by simp, ⟨none, 0, rfl⟩, Row.nil_ w k, by simp⟩
  · have hnm : len ≤ m := by rw [hmm]; split <;> omega
    obtain ⟨l, hll, hp⟩ := choose_list (α := α) (p := fun i q => (∀ j u, (f q)[j]? = some u → w.cell? (x.add (i * k + j)) = some u) ∧ Pr q) len (fun i hin => by
      obtain ⟨cs', hcc, htr⟩ := hi i (by omega)
      rw [hC] at hcc
      obtain ⟨_, hcl, hat⟩ := World.cells?_some hcc
      obtain ⟨q, rfl, hq⟩ := hR _ _ _ htr (fun z hz => hw z (by
        rw [hy]
        simp only [DataW.weights, ht]
        exact List.mem_cons_of_mem _ (List.mem_append_left _ (wts_all (List.mem_map.2 ⟨i, List.mem_range.2 hin, rfl⟩) hz))))
      refine ⟨q, fun j u hu => ?_, hq⟩
      have hj : j < k := by rw [← hf q]; exact (List.getElem?_eq_some_iff.1 hu).1
      have := hat j (by omega)
      rw [add_add'] at this
      rw [this]
      first | exact hu | (simpa using hu))
    refine ⟨_, l, rfl, ?_, ⟨some x, cap, by rw [hll]⟩, ?_, fun q hq => ?_⟩
    · have := hw ((len + (m - len)) * P.bytesOf e) (by rw [hy]; simp [DataW.weights, ht])
      rw [hll]
      exact Nat.le_trans (Nat.mul_le_mul_right _ (by omega)) this
    · rw [hll]
      refine ⟨_, _, rfl, hl, hm, by rw [flat_len f k hf, hll], fun h => (by cases h), fun hn => ⟨x, rfl, ?_, fun j u hu => ?_⟩⟩
      · have h0 : 0 < (f (l[0]'(by omega))).length := by rw [hf]; exact hk
        have := (hp 0 (by omega)).1 0 _ (List.getElem?_eq_getElem h0)
        exact (add_block x _) ▸ cell_lt this
      · have hjl : j < len * k := by have := (List.getElem?_eq_some_iff.1 hu).1; rwa [flat_len f k hf, hll] at this
        have hq : j / k < l.length := by rw [hll, Nat.div_lt_iff_lt_mul hk]; exact hjl
        have hr : j % k < k := Nat.mod_lt _ hk
        have e1 : j / k * k + j % k = j := by rw [Nat.mul_comm]; exact Nat.div_add_mod j k
        have e2 := flat_get f k hf l (j / k) (j % k) hq hr
        rw [e1, hu] at e2
        have := (hp (j / k) hq).1 (j % k) u e2.symm
        rwa [e1] at this
    · obtain ⟨i, hil, rfl⟩ := List.mem_iff_getElem.1 hq
      exact (hp i hil).2
end
section
variable {H : Type} {enc : TypeId × Value → H}
theorem rd_ty (w : World) (spare : Nat → Bool) (held : Bool) : Rd enc Tryz.prog w spare held 35 Ty.cells (fun _ => True) := by
  intro n cs y h hw
  have hl : cs.length = 4 := (rd_len Tryz.underlying35 h).trans (by kernel_rfl)
  obtain ⟨n0, y0, h0, wh0⟩ := rd_field' (T := 3) (off := 0) (k := 1) Tryz.underlying35 h hw (i := 0) rfl rfl rfl (by kernel_rfl)
  obtain ⟨a0, e0, p0⟩ := rd_int Tryz.underlying3 _ _ _ h0 wh0
  obtain ⟨n1, y1, h1, wh1⟩ := rd_field' (T := 4) (off := 1) (k := 1) Tryz.underlying35 h hw (i := 1) rfl rfl rfl (by kernel_rfl)
  obtain ⟨a1, e1, p1⟩ := rd_bool Tryz.underlying4 _ _ _ h1 wh1
  obtain ⟨n2, y2, h2, wh2⟩ := rd_field' (T := 4) (off := 2) (k := 1) Tryz.underlying35 h hw (i := 2) rfl rfl rfl (by kernel_rfl)
  obtain ⟨a2, e2, p2⟩ := rd_bool Tryz.underlying4 _ _ _ h2 wh2
  obtain ⟨n3, y3, h3, wh3⟩ := rd_field' (T := 4) (off := 3) (k := 1) Tryz.underlying35 h hw (i := 3) rfl rfl rfl (by kernel_rfl)
  obtain ⟨a3, e3, p3⟩ := rd_bool Tryz.underlying4 _ _ _ h3 wh3
  clear h hw h0 h1 h2 h3 wh0 wh1 wh2 wh3
  match cs, hl with
  | [u0, u1, u2, u3], _ =>
    have e0' : [u0] = _ := e0
    have e1' : [u1] = _ := e1
    have e2' : [u2] = _ := e2
    have e3' : [u3] = _ := e3
    clear e0
    clear e1
    clear e2
    clear e3
    simp only [List.cons.injEq, and_true] at e0' e1' e2' e3'
    subst e0' e1' e2' e3'
    exact ⟨⟨a0, a1, a2, a3⟩, rfl, trivial⟩
theorem rd_con (w : World) (spare : Nat → Bool) (held : Bool) : Rd enc Tryz.prog w spare held 38 (fun p : Int × Int => [.int .u64 p.1, .int .i64 p.2]) (fun _ => True) := by
  intro n cs y h hw
  have hl : cs.length = 2 := (rd_len Tryz.underlying38 h).trans (by kernel_rfl)
  obtain ⟨n0, y0, h0, wh0⟩ := rd_field' (T := 36) (off := 0) (k := 1) Tryz.underlying38 h hw (i := 0) rfl rfl rfl (by kernel_rfl)
  obtain ⟨a0, e0, p0⟩ := rd_int Tryz.underlying36 _ _ _ h0 wh0
  obtain ⟨n1, y1, h1, wh1⟩ := rd_field' (T := 3) (off := 1) (k := 1) Tryz.underlying38 h hw (i := 1) rfl rfl rfl (by kernel_rfl)
  obtain ⟨a1, e1, p1⟩ := rd_int Tryz.underlying3 _ _ _ h1 wh1
  clear h hw h0 h1 wh0 wh1
  match cs, hl with
  | [u0, u1], _ =>
    have e0' : [u0] = _ := e0
    have e1' : [u1] = _ := e1
    clear e0
    clear e1
    simp only [List.cons.injEq, and_true] at e0' e1'
    subst e0' e1'
    exact ⟨(a0, a1), rfl, trivial⟩
theorem rd_edt (w : World) (spare : Nat → Bool) (held : Bool) : Rd enc Tryz.prog w spare held 55 Edt.cells (fun x => x.path.size ≤ reachBytes ∧ x.frm.size ≤ reachBytes) := by
  intro n cs y h hw
  have hl : cs.length = 12 := (rd_len Tryz.underlying55 h).trans (by kernel_rfl)
  obtain ⟨n0, y0, h0, wh0⟩ := rd_field' (T := 9) (off := 0) (k := 1) Tryz.underlying55 h hw (i := 0) rfl rfl rfl (by kernel_rfl)
  obtain ⟨a0, e0, p0⟩ := rd_string Tryz.underlying9 _ _ _ h0 wh0
  obtain ⟨n1, y1, h1, wh1⟩ := rd_field' (T := 3) (off := 1) (k := 1) Tryz.underlying55 h hw (i := 1) rfl rfl rfl (by kernel_rfl)
  obtain ⟨a1, e1, p1⟩ := rd_int Tryz.underlying3 _ _ _ h1 wh1
  obtain ⟨n2, y2, h2, wh2⟩ := rd_field' (T := 35) (off := 2) (k := 4) Tryz.underlying55 h hw (i := 2) rfl rfl rfl (by kernel_rfl)
  obtain ⟨a2, e2, p2⟩ := rd_ty w spare held _ _ _ h2 wh2
  obtain ⟨n3, y3, h3, wh3⟩ := rd_field' (T := 38) (off := 6) (k := 2) Tryz.underlying55 h hw (i := 3) rfl rfl rfl (by kernel_rfl)
  obtain ⟨a3, e3, p3⟩ := rd_con w spare held _ _ _ h3 wh3
  obtain ⟨n4, y4, h4, wh4⟩ := rd_field' (T := 3) (off := 8) (k := 1) Tryz.underlying55 h hw (i := 4) rfl rfl rfl (by kernel_rfl)
  obtain ⟨a4, e4, p4⟩ := rd_int Tryz.underlying3 _ _ _ h4 wh4
  obtain ⟨n5, y5, h5, wh5⟩ := rd_field' (T := 9) (off := 9) (k := 1) Tryz.underlying55 h hw (i := 5) rfl rfl rfl (by kernel_rfl)
  obtain ⟨a5, e5, p5⟩ := rd_string Tryz.underlying9 _ _ _ h5 wh5
  obtain ⟨n6, y6, h6, wh6⟩ := rd_field' (T := 3) (off := 10) (k := 1) Tryz.underlying55 h hw (i := 6) rfl rfl rfl (by kernel_rfl)
  obtain ⟨a6, e6, p6⟩ := rd_int Tryz.underlying3 _ _ _ h6 wh6
  obtain ⟨n7, y7, h7, wh7⟩ := rd_field' (T := 3) (off := 11) (k := 1) Tryz.underlying55 h hw (i := 7) rfl rfl rfl (by kernel_rfl)
  obtain ⟨a7, e7, p7⟩ := rd_int Tryz.underlying3 _ _ _ h7 wh7
  clear h hw h0 h1 h2 h3 h4 h5 h6 h7 wh0 wh1 wh2 wh3 wh4 wh5 wh6 wh7
  match cs, hl with
  | [u0, u1, u2, u3, u4, u5, u6, u7, u8, u9, u10, u11], _ =>
    have e0' : [u0] = _ := e0
    have e1' : [u1] = _ := e1
    have e2' : [u2, u3, u4, u5] = _ := e2
    have e3' : [u6, u7] = _ := e3
    have e4' : [u8] = _ := e4
    have e5' : [u9] = _ := e5
    have e6' : [u10] = _ := e6
    have e7' : [u11] = _ := e7
    clear e0
    clear e1
    clear e2
    clear e3
    clear e4
    clear e5
    clear e6
    clear e7
    simp only [Ty.cells, List.cons.injEq, and_true] at e0' e1' e2' e3' e4' e5' e6' e7'
    obtain ⟨b0, b1, b2, b3⟩ := e2'
    obtain ⟨b4, b5⟩ := e3'
    subst e0' e1' b0 b1 b2 b3 b4 b5 e4' e5' e6' e7'
    exact ⟨⟨a0, a1, a2, a3.1, a3.2, a4, a5, a6, a7⟩, rfl, p0, p5⟩
theorem rd_rcd (w : World) (spare : Nat → Bool) (held : Bool) : Rd enc Tryz.prog w spare held 57 Rcd.cells (fun x => x.frm.size ≤ reachBytes ∧ x.to.size ≤ reachBytes ∧ x.last ≤ 9223372036854775807) := by
  intro n cs y h hw
  have hl : cs.length = 6 := (rd_len Tryz.underlying57 h).trans (by kernel_rfl)
  obtain ⟨n0, y0, h0, wh0⟩ := rd_field' (T := 9) (off := 0) (k := 1) Tryz.underlying57 h hw (i := 0) rfl rfl rfl (by kernel_rfl)
  obtain ⟨a0, e0, p0⟩ := rd_string Tryz.underlying9 _ _ _ h0 wh0
  obtain ⟨n1, y1, h1, wh1⟩ := rd_field' (T := 3) (off := 1) (k := 1) Tryz.underlying57 h hw (i := 1) rfl rfl rfl (by kernel_rfl)
  obtain ⟨a1, e1, p1⟩ := rd_int Tryz.underlying3 _ _ _ h1 wh1
  obtain ⟨n2, y2, h2, wh2⟩ := rd_field' (T := 3) (off := 2) (k := 1) Tryz.underlying57 h hw (i := 2) rfl rfl rfl (by kernel_rfl)
  obtain ⟨a2, e2, p2⟩ := rd_int Tryz.underlying3 _ _ _ h2 wh2
  obtain ⟨n3, y3, h3, wh3⟩ := rd_field' (T := 9) (off := 3) (k := 1) Tryz.underlying57 h hw (i := 3) rfl rfl rfl (by kernel_rfl)
  obtain ⟨a3, e3, p3⟩ := rd_string Tryz.underlying9 _ _ _ h3 wh3
  obtain ⟨n4, y4, h4, wh4⟩ := rd_field' (T := 3) (off := 4) (k := 1) Tryz.underlying57 h hw (i := 4) rfl rfl rfl (by kernel_rfl)
  obtain ⟨a4, e4, p4⟩ := rd_int Tryz.underlying3 _ _ _ h4 wh4
  obtain ⟨n5, y5, h5, wh5⟩ := rd_field' (T := 3) (off := 5) (k := 1) Tryz.underlying57 h hw (i := 5) rfl rfl rfl (by kernel_rfl)
  obtain ⟨a5, e5, p5⟩ := rd_int Tryz.underlying3 _ _ _ h5 wh5
  clear h hw h0 h1 h2 h3 h4 h5 wh0 wh1 wh2 wh3 wh4 wh5
  match cs, hl with
  | [u0, u1, u2, u3, u4, u5], _ =>
    have e0' : [u0] = _ := e0
    have e1' : [u1] = _ := e1
    have e2' : [u2] = _ := e2
    have e3' : [u3] = _ := e3
    have e4' : [u4] = _ := e4
    have e5' : [u5] = _ := e5
    clear e0
    clear e1
    clear e2
    clear e3
    clear e4
    clear e5
    simp only [List.cons.injEq, and_true] at e0' e1' e2' e3' e4' e5'
    subst e0' e1' e2' e3' e4' e5'
    exact ⟨⟨a0, a1, a2, a3, a4, a5⟩, rfl, p0, p3, by simp [Lit.wf] at p2; show a2 ≤ 9223372036854775807; omega⟩
/-- What the reading of a change gives. -/
def ChV.rd (w : World) (p : ChV) : Prop := p.ok w ∧ p.1.edits.length * 96 ≤ reachBytes ∧ p.1.recs.length * 64 ≤ reachBytes ∧ (∃ A c, p.2.1 = .slice A p.1.edits.length c) ∧ (∃ A c, p.2.2 = .slice A p.1.recs.length c) ∧
  (∀ x ∈ p.1.edits, x.path.size ≤ reachBytes ∧ x.frm.size ≤ reachBytes) ∧ ∀ x ∈ p.1.recs, x.frm.size ≤ reachBytes ∧ x.to.size ≤ reachBytes ∧ x.last ≤ 9223372036854775807
theorem rd_chg (w : World) (spare : Nat → Bool) (held : Bool) : Rd enc Tryz.prog w spare held 53 ChV.cells (ChV.rd w) := by
  intro n cs y h hw
  have hl : cs.length = 5 := (rd_len Tryz.underlying53 h).trans (by kernel_rfl)
  obtain ⟨n0, y0, h0, wh0⟩ := rd_field' (T := 3) (off := 0) (k := 1) Tryz.underlying53 h hw (i := 0) rfl rfl rfl (by kernel_rfl)
  obtain ⟨a0, e0, p0⟩ := rd_int Tryz.underlying3 _ _ _ h0 wh0
  obtain ⟨n1, y1, h1, wh1⟩ := rd_field' (T := 9) (off := 1) (k := 1) Tryz.underlying53 h hw (i := 1) rfl rfl rfl (by kernel_rfl)
  obtain ⟨a1, e1, p1⟩ := rd_string Tryz.underlying9 _ _ _ h1 wh1
  obtain ⟨n2, y2, h2, wh2⟩ := rd_field' (T := 9) (off := 2) (k := 1) Tryz.underlying53 h hw (i := 2) rfl rfl rfl (by kernel_rfl)
  obtain ⟨a2, e2, p2⟩ := rd_string Tryz.underlying9 _ _ _ h2 wh2
  obtain ⟨n3, y3, h3, wh3⟩ := rd_field' (T := 51) (off := 3) (k := 1) Tryz.underlying53 h hw (i := 3) rfl rfl rfl (by kernel_rfl)
  obtain ⟨v3, es, e3, b3, s3, r3, p3⟩ := rd_slice (k := 12) (fun _ => rfl) (by decide) Tryz.underlying51 (by kernel_rfl) (rd_edt w spare held) _ _ _ h3 wh3
  obtain ⟨n4, y4, h4, wh4⟩ := rd_field' (T := 29) (off := 4) (k := 1) Tryz.underlying53 h hw (i := 4) rfl rfl rfl (by kernel_rfl)
  obtain ⟨v4, rs, e4, b4, s4, r4, p4⟩ := rd_slice (k := 6) (fun _ => rfl) (by decide) Tryz.underlying29 (by kernel_rfl) (rd_rcd w spare held) _ _ _ h4 wh4
  rw [show Tryz.prog.bytesOf 55 = 96 by kernel_rfl] at b3
  rw [show Tryz.prog.bytesOf 57 = 64 by kernel_rfl] at b4
  clear h hw h0 h1 h2 h3 h4 wh0 wh1 wh2 wh3 wh4
  match cs, hl with
  | [u0, u1, u2, u3, u4], _ =>
    have e0' : [u0] = _ := e0
    have e1' : [u1] = _ := e1
    have e2' : [u2] = _ := e2
    have e3' : [u3] = _ := e3
    have e4' : [u4] = _ := e4
    clear e0 e1 e2 e3 e4
    simp only [List.cons.injEq, and_true] at e0' e1' e2' e3' e4'
    subst e0' e1' e2' e3' e4'
    exact ⟨(⟨a0, a1, a2, es, rs⟩, u3, u4), rfl, ⟨r3, r4⟩, b3, b4, s3, s4, p3, p4⟩
theorem chgs_open (w : World) (spare : Nat → Bool) (held : Bool) {n : Nat} {v : Value} {y : DataW H × List MemPlace} (h : DataW.trod enc Tryz.prog w 0 spare held n 22 [v] = some y) (hw : Wt Tryz.prog 22 y.1) :
    ∃ ps : List ChV, Chgs w v ps ∧ ps.length * 88 ≤ reachBytes ∧ ∀ p ∈ ps, p.rd w := by
  obtain ⟨v', ps, e, hb, -, hr, hp⟩ := rd_slice (k := 5) (fun _ => rfl) (by decide) Tryz.underlying22 (by kernel_rfl) (rd_chg w spare held) _ _ _ h hw
  rw [show Tryz.prog.bytesOf 53 = 88 by kernel_rfl] at hb
  simp only [List.cons.injEq, and_true] at e
  subst e
  exact ⟨ps, ⟨hr, fun p hq => (hp p hq).1⟩, hb, hp⟩
end
end Go.Proofs.YtnblfaagchflaaaGreatDoor
/- Region 1 of HistoryOnce: Small of the changes and one more. -/
namespace Go.Proofs.YtnblfaagchflaaaGreatDoor
open Go.RowKit
set_option linter.unusedVariables false
set_option linter.unusedSimpArgs false
/-- What Small is asked of, as a test. -/
def sizeOk (ps : List ChV) : Prop := ps.length * 88 ≤ 140737488355328 ∧ (∀ p ∈ ps, chgLen p.1 ≤ 10000000000000) ∧ ∀ p ∈ ps, (∀ x ∈ p.1.edits, x.path.size ≤ 140737488355328 ∧ x.frm.size ≤ 140737488355328) ∧ ∀ x ∈ p.1.recs, x.frm.size ≤ 140737488355328 ∧ x.to.size ≤ 140737488355328

end Go.Proofs.YtnblfaagchflaaaGreatDoor
/- Plain: the reference's examination of a record answers as the program's. -/
namespace Go.Proofs.YtnblfaagchflaaaGreatDoor
open Go.RowKit
set_option linter.unusedVariables false
set_option linter.unusedSimpArgs false

theorem editsOf_has {es : List Edt} (hn : (es.map (·.path)).Nodup) {e : Edt} (he : e ∈ es) : editsOf es e.path = some e := by
  have hfar : ∀ (l : List Edt) (f : ByteArray → Option Edt) (p : ByteArray), p ∉ l.map (·.path) → l.foldl (fun f e => upd f e.path e) f p = f p := by
    intro l
    induction l with
    | nil => intro f p _; rfl
    | cons x l ih =>
      intro f p hp
      rw [List.map_cons, List.mem_cons, not_or] at hp
      rw [List.foldl_cons, ih _ _ hp.2]
      unfold upd; rw [if_neg hp.1]
  have key : ∀ (l : List Edt) (f : ByteArray → Option Edt), (l.map (·.path)).Nodup → e ∈ l → l.foldl (fun f e => upd f e.path e) f e.path = some e := by
    intro l
    induction l with
    | nil => intro f _ h; cases h
    | cons x l ih =>
      intro f hn he
      rw [List.map_cons, List.nodup_cons] at hn
      rw [List.foldl_cons]
      rcases List.mem_cons.1 he with rfl | he
      · rw [hfar _ _ _ hn.1]; unfold upd; rw [if_pos rfl]
      · exact ih _ hn.2 he
  exact key es _ hn he
/-- The edit into which a record leads, by the reference. -/
def tgtM (x : Rcd) (o : Option Edt) (y : Edt) : Option Edt := if y.path = x.to ∧ y.base + 1 = x.num ∧ y.act ≠ 5 then some y else o
def tgt (es : List Edt) (x : Rcd) : Option Edt := es.foldl (tgtM x) none
theorem tgt_mem {es : List Edt} {x : Rcd} {t : Edt} (h : tgt es x = some t) : t ∈ es ∧ t.path = x.to ∧ t.base + 1 = x.num ∧ t.act ≠ 5 := by
  suffices H : ∀ (l : List Edt) (o : Option Edt) (S : Edt → Prop), (∀ y, o = some y → S y ∧ y.path = x.to ∧ y.base + 1 = x.num ∧ y.act ≠ 5) → (∀ y ∈ l, S y) → l.foldl (tgtM x) o = some t → S t ∧ t.path = x.to ∧ t.base + 1 = x.num ∧ t.act ≠ 5 by
    exact H es none (fun y => y ∈ es) (fun y hy => by cases hy) (fun y hy => hy) h
  intro l
  induction l with
  | nil => intro o S ho _ h; exact ho t h
  | cons z l ih =>
    intro o S ho hl h
    refine ih (tgtM x o z) S (fun y hy => ?_) (fun y hy => hl y (List.mem_cons_of_mem _ hy)) h
    unfold tgtM at hy
    split at hy
    · rename_i hc
      injection hy with hy
      subst hy
      exact ⟨hl _ (List.mem_cons_self ..), hc⟩
    · exact ho y hy
theorem tgt_has {es : List Edt} (hn : (es.map (·.path)).Nodup) {x : Rcd} {t : Edt} (ht : t ∈ es) (h1 : t.path = x.to) (h2 : t.base + 1 = x.num) (h3 : t.act ≠ 5) : tgt es x = some t := by
  have hsome : ∀ (l : List Edt) (o : Option Edt), (o.isSome = true ∨ t ∈ l) → (l.foldl (tgtM x) o).isSome = true := by
    intro l
    induction l with
    | nil => intro o h; rcases h with h | h
             · exact h
             · cases h
    | cons z l ih =>
      intro o h
      rw [List.foldl_cons]
      apply ih
      rcases h with h | h
      · left; unfold tgtM; split
        · rfl
        · exact h
      · rcases List.mem_cons.1 h with rfl | h
        · left; unfold tgtM; rw [if_pos ⟨h1, h2, h3⟩]; rfl
        · exact .inr h
  obtain ⟨u, hu⟩ := Option.isSome_iff_exists.1 (hsome es none (.inr ht))
  have hu' : tgt es x = some u := hu
  obtain ⟨a, b, -⟩ := tgt_mem hu'
  have e1 := editsOf_has hn a
  have e2 := editsOf_has hn ht
  rw [b] at e1
  rw [h1, e1] at e2
  injection e2 with e2
  rw [hu', e2]
def ignB (rs : List Rcd) (x : Rcd) : Bool := rs.all fun y => decide (y.to ≠ x.to ∨ y.num ≠ x.num ∨ y.how = 3)
def atR (D : List Rev) (p : ByteArray) (n : Int) : Rev := (rGet D p n).getD zeroRev
def refLine (D : List Rev) (x : Rcd) : Fil := rFirst D (atR D x.frm x.last)
def refSteps (D : List Rev) (x : Rcd) : Bool := (List.range (x.last - x.first + 1).toNat).all fun (i : Nat) => decide ((atR D x.frm (x.first + i)).act ≠ 5) && decide (rFirst D (atR D x.frm (x.first + i)) = refLine D x)
def refCopy (D : List Rev) (t : Edt) (x : Rcd) : Bool := if x.how = 1 then (decide ((atR D x.frm x.last).act = 3) == decide (t.act = 3)) && (decide ((atR D x.frm x.last).act = 3) || (decide ((atR D x.frm x.last).ty = t.ty) && decide ((atR D x.frm x.last).sum = t.sum) && decide ((atR D x.frm x.last).size = t.size))) else true
def refIgn (D : List Rev) (rs : List Rcd) (t : Edt) (x : Rcd) : Bool := if ignB rs x then decide (t.act = 2) && decide (t.ty = (atR D x.to t.base).ty) && decide (t.sum = (atR D x.to t.base).sum) && decide (t.size = (atR D x.to t.base).size) else true
/-- A record's examination by the reference, its place among the others aside. -/
def refRec (D : List Rev) (c : Chg) (x : Rcd) : Bool :=
  decide (1 ≤ x.how ∧ x.how ≤ 4) && match tgt c.edits x with
    | none => false
    | some t => decide (1 ≤ x.first ∧ x.first ≤ x.last ∧ x.last ≤ (logOf D x.frm).length) && refSteps D x && (decide (t.act = 1) || !decide (rFirst D ((rPrev D (madeR (lastOf D) c.num t)).getD zeroRev) = refLine D x)) && refCopy D t x && refIgn D c.recs t x

theorem LineOk.some_ {D : List Rev} (hL : LineOk D) {f l : Fil} (h : linesOf D f = some l) : ∃ v ∈ D, v.act ≠ 5 ∧ (v.path, v.num) = f ∧ l = rFirst D v := by
  apply Classical.byContradiction
  intro hn
  have := hL.none_ f fun v hv h5 e => hn ⟨v, hv, h5, e, by
    have h2 := hL.live v hv h5
    rw [e, h] at h2
    injection h2⟩
  rw [this] at h
  cases h
theorem DepOk.line_at {d : Dep} (h : DepOk d) {p : ByteArray} {n : Int} {l : Fil} (hl : linesOf d.revs (p, n) = some l) : ∃ v, rGet d.revs p n = some v ∧ v.act ≠ 5 ∧ l = rFirst d.revs v := by
  obtain ⟨v, hv, h5, e, hr⟩ := h.line.some_ hl
  injection e with e1 e2
  subst e1 e2
  exact ⟨v, (h.log _).rget hv rfl, h5, hr⟩
theorem DepOk.at_line {d : Dep} (h : DepOk d) {p : ByteArray} {n : Int} {v : Rev} (hv : rGet d.revs p n = some v) (h5 : v.act ≠ 5) : linesOf d.revs (p, n) = some (rFirst d.revs v) := by
  obtain ⟨a, b, c⟩ := rGet_mem hv
  have := h.line.live v a h5
  rwa [b, c] at this
/-- The line that a revision that an edit makes would be of. -/
theorem target_line {d : Dep} {c : Chg} (h : DepOk d) (hs : ∀ r ∈ d.revs, r.chg < c.num) (h2 : everyE (lastOf d.revs) emptyS c.edits = 0) {e : Edt} (he : e ∈ c.edits) (h5 : e.act ≠ 5) {l : Fil} {v : Rev} (hv : v ∈ d.revs) (hl : l = rFirst d.revs v) :
    (l = lineV (linesOf d.revs) (madeR (lastOf d.revs) c.num e)) ↔ (e.act ≠ 1 ∧ rFirst d.revs ((rPrev d.revs (madeR (lastOf d.revs) c.num e)).getD zeroRev) = l) := by
  rcases made_prev2 h.log hs h2 he with a1 | ⟨u, u1, u2, u3, u4⟩
  · unfold lineV
    rw [if_pos (show (madeR (lastOf d.revs) c.num e).act = 1 from a1)]
    constructor
    · intro hh
      exfalso
      obtain ⟨x, hx, e1⟩ := rFirst_in h.prev hv
      rw [hl, e1] at hh
      injection hh with k1 k2
      have := last_bound h.log hx
      rw [k1] at this
      have k2' : x.num = (lastR (lastOf d.revs) e.path).num + 1 := k2
      have k3 : (lastR (lastOf d.revs) (madeR (lastOf d.revs) c.num e).path).num = (lastR (lastOf d.revs) e.path).num := rfl
      omega
    · rintro ⟨hh, -⟩; exact absurd a1 hh
  · have hu := rPrev_mem u1
    have ha1 : e.act ≠ 1 := by
      intro a1
      unfold rPrev at u1
      rw [if_pos (show (madeR (lastOf d.revs) c.num e).act = 1 from a1)] at u1
      cases u1
    rw [u1]
    have hgu : linesOf d.revs (u.path, u.num) = some (rFirst d.revs u) := h.line.live u hu (fun k => by rw [k] at u3; cases u3)
    have hL : lineV (linesOf d.revs) (madeR (lastOf d.revs) c.num e) = rFirst d.revs u := by
      unfold lineV
      rw [if_neg (show ¬ (madeR (lastOf d.revs) c.num e).act = 1 from ha1)]
      by_cases a4 : e.act = 4
      · rw [if_pos (show (madeR (lastOf d.revs) c.num e).act = 4 from a4)]
        rw [if_pos a4] at u4
        show (linesOf d.revs (e.frm, e.fnum)).getD zeroFil = _
        rw [← u4, hgu]; rfl
      · rw [if_neg (show ¬ (madeR (lastOf d.revs) c.num e).act = 4 from a4)]
        rw [if_neg a4] at u4
        show (linesOf d.revs (e.path, (lastR (lastOf d.revs) e.path).num + 1 - 1)).getD zeroFil = _
        rw [show (lastR (lastOf d.revs) e.path).num + 1 - 1 = (lastR (lastOf d.revs) e.path).num by omega, ← u4, hgu]; rfl
    rw [hL]
    exact ⟨fun hh => ⟨ha1, hh.symm⟩, fun hh => hh.2.symm⟩
theorem DepOk.num_in {d : Dep} (h : DepOk d) {p : ByteArray} {n : Int} {v : Rev} (hv : rGet d.revs p n = some v) : 1 ≤ n ∧ n ≤ (logOf d.revs p).length := ((h.log p).rget_in n).1 ⟨v, hv⟩
/-- What sourceR finds, in the reference's words. -/
theorem source_iff {d : Dep} (h : DepOk d) (r : Rcd) (target : Fil) (v : Rev) : sourceR d.revs r target = some v ↔ (rGet d.revs r.frm r.last = some v ∧ 1 ≤ r.first ∧ r.first ≤ r.last ∧ r.last ≤ (logOf d.revs r.frm).length ∧ refSteps d.revs r = true ∧ refLine d.revs r ≠ target) := by
  have hg := (h.log r.frm).rget_eq r.last
  constructor
  · intro hS
    unfold sourceR at hS
    rw [← hg] at hS
    cases hv : rGet d.revs r.frm r.last with
    | none => rw [hv] at hS; cases hS
    | some u =>
      rw [hv] at hS
      simp only at hS
      split at hS
      · cases hS
      · rename_i hb
        cases hl : linesOf d.revs (r.frm, r.last) with
        | none => rw [hl] at hS; cases hS
        | some line =>
          rw [hl] at hS
          simp only at hS
          split at hS
          · cases hS
          · rename_i hne
            split at hS
            · rename_i hall
              injection hS with hS
              subst hS
              obtain ⟨w, w1, w2, w3⟩ := h.line_at hl
              rw [hv] at w1
              injection w1 with w1
              subst w1
              have hline : refLine d.revs r = line := by unfold refLine atR; rw [hv]; exact w3.symm
              have hin := h.num_in hv
              refine ⟨rfl, by omega, by omega, hin.2, ?_, by rw [hline]; exact hne⟩
              unfold refSteps
              rw [List.all_eq_true]
              intro i hi
              rw [List.mem_range] at hi
              rw [hline]
              by_cases hlast : r.first + (i : Int) = r.last
              · rw [hlast]
                unfold atR
                rw [hv]
                simp [w2, w3]
              · have hlt : i < (r.last - r.first).toNat := by omega
                have hx := List.all_eq_true.1 hall i (List.mem_range.2 hlt)
                have hx' : linesOf d.revs (r.frm, r.first + (i : Int)) = some line := of_decide_eq_true hx
                obtain ⟨y, y1, y2, y3⟩ := h.line_at hx'
                unfold atR
                rw [y1]
                simp [y2, y3]
            · cases hS
  · rintro ⟨hv, h1, h2, h3, h4, h5⟩
    have hstep : ∀ i : Nat, i < (r.last - r.first + 1).toNat → linesOf d.revs (r.frm, r.first + (i : Int)) = some (refLine d.revs r) := by
      intro i hi
      unfold refSteps at h4
      have := List.all_eq_true.1 h4 i (List.mem_range.2 hi)
      rw [Bool.and_eq_true, decide_eq_true_eq, decide_eq_true_eq] at this
      obtain ⟨w, hw⟩ := ((h.log r.frm).rget_in (r.first + (i : Int))).2 ⟨by omega, by omega⟩
      unfold atR at this
      rw [hw] at this
      simp only [Option.getD_some] at this
      rw [← this.2]
      exact h.at_line hw this.1
    have hll := hstep (r.last - r.first).toNat (by omega)
    rw [show r.first + ((r.last - r.first).toNat : Int) = r.last by omega] at hll
    have hlen : (logOf d.revs r.frm).length ≤ d.revs.length := List.length_filter_le ..
    unfold sourceR
    rw [← hg, hv]
    simp only
    rw [if_neg (by omega), hll]
    simp only
    rw [if_neg h5, if_pos]
    rw [List.all_eq_true]
    intro i hi
    rw [List.mem_range] at hi
    exact decide_eq_true (hstep i (by omega))
end Go.Proofs.YtnblfaagchflaaaGreatDoor
/- Plain: what HistoryMoves counts; what HistoryWhole finds. -/
namespace Go.Proofs.YtnblfaagchflaaaGreatDoor
open Go.RowKit
set_option linter.unusedVariables false
set_option linter.unusedSimpArgs false
theorem countP_path {es : List Edt} (hn : (es.map (·.path)).Nodup) {y : Edt} (hy : y ∈ es) (p : Edt → Bool) (hp : p y = true) : es.countP (fun x => p x && decide (x.path = y.path)) = 1 := by
  induction es with
  | nil => cases hy
  | cons a es ih =>
    rw [List.map_cons, List.nodup_cons] at hn
    rw [List.countP_cons]
    rcases List.mem_cons.1 hy with rfl | hy
    · have : es.countP (fun x => p x && decide (x.path = y.path)) = 0 := by
        rw [List.countP_eq_zero]
        intro x hx hh
        rw [Bool.and_eq_true] at hh
        exact hn.1 (List.mem_map.2 ⟨x, hx, of_decide_eq_true hh.2⟩)
      rw [this]; simp [hp]
    · have hne : a.path ≠ y.path := fun e => hn.1 (List.mem_map.2 ⟨y, hy, e.symm⟩)
      rw [ih hn.2 hy]; simp [hne]
end Go.Proofs.YtnblfaagchflaaaGreatDoor
/- The reference's Append: the regions that append. -/
namespace Go.Proofs.YtnblfaagchflaaaGreatDoor
open Go.RowKit
set_option linter.unusedVariables false
set_option linter.unusedSimpArgs false

theorem ApR.put2 {V wr w7 : World} {g7 : Nat} {v1 v2 v3 : Value} {n m m' : Nat} {xs ys ys' : List Value} (h : ApR V wr g7 v1 v2 n m xs ys) (hX : Below wr.heap.size wr w7) (ho : w7.ownsRow wr.heap.size 57 6 v3 m' ys') :
    ApR V (w7.setCell ⟨g7, 1, none⟩ v3) g7 v1 v3 n m' xs ys' := by
  have l1 := h.one.lt
  have lb := h.box.lt
  have l3 := ho.lt
  have n3 : v3.ownBlock ≠ some g7 := fun e => by have := (l3 _ e).1; omega
  have hs := h.bel.size
  refine ⟨(below_next h.bel hX).setCell (p := ⟨g7, 1, none⟩) h.le _, h.le, (h.box.below hX lb).set_ 1 v3, own_setCell (own_below h.one hX) (p := ⟨g7, 1, none⟩) h.ne1 _, own_mono (own_setCell ho (p := ⟨g7, 1, none⟩) n3 _) hs, h.ne1, n3, ?_⟩
  intro x e1 e2
  have := l1 _ e1
  have := l3 _ e2
  omega
set_option maxRecDepth 100000 in
set_option maxHeartbeats 8000000 in
theorem raR9 (ops : Array Oper) (hops : Tryz.f32.body.bind (regAt 9) = some ops) (Q : Exit → Act → World → Prop) (g3 g7 g9 n m : Nat) (num : Int) (cl tx : ByteArray) (Ae Ac : Option Addr) (ne nc ce cc : Nat) (x : Edt) (r : Rev) (v1 v2 : Value) (xs ys : List Value) (V V1 : World)
    (hR : ApR V V1 g7 v1 v2 n m xs ys) (hB : Blk V1 g9 55 [.string x.path, .int .i64 x.act, .int .i64 x.ty.base, .bool x.ty.k, .bool x.ty.l, .bool x.ty.x, .int .u64 x.sum, .int .i64 x.size, .int .i64 x.base, .string x.frm, .int .i64 x.fnum, .int .i64 x.fence]) (hC : Blk V1 g3 53 [.int .i64 num, .string cl, .string tx, .slice Ae ne ce, .slice Ac nc cc]) (hn : n ≤ 100000)
    (hrev : ∀ X, Below V1.heap.size V1 X → Calls Tryz.prog 61 #[.agg #[.int .i64 num, .string cl, .string tx, .slice Ae ne ce, .slice Ac nc cc], .agg #[.string x.path, .int .i64 x.act, .int .i64 x.ty.base, .bool x.ty.k, .bool x.ty.l, .bool x.ty.x, .int .u64 x.sum, .int .i64 x.size, .int .i64 x.base, .string x.frm, .int .i64 x.fnum, .int .i64 x.fence]] X fun e w' => e = .returned (.agg #[.string r.path, .int .i64 r.num, .int .i64 r.chg, .int .i64 r.act, .int .i64 r.ty.base, .bool r.ty.k, .bool r.ty.l, .bool r.ty.x, .int .u64 r.sum, .int .i64 r.size, .string r.frm, .int .i64 r.fnum]) ∧ Below X.heap.size X w')
    (u0 u1 u2 u4 u5 u6 u8 u10 u11 u12 u13 u14 u15 u16 u17 u18 u19 u20 u21 u22 u23 u24 u25 u26 u27 u28 u29 u30 u31 u32 u33 u34 u35 u36 u37 u38 u39 u40 u41 u42 u43 u44 u45 u46 u47 u48 u49 : Value)
    (hQ : ∀ (t30 t31 t32 t33 t34 t35 t36 t37 : Value) (v3 : Value) (w' : World), Hid (ApR V w' g7 v3 v2 (n + 1) m (xs ++ [.string r.path, .int .i64 r.num, .int .i64 r.chg, .int .i64 r.act, .int .i64 r.ty.base, .bool r.ty.k, .bool r.ty.l, .bool r.ty.x, .int .u64 r.sum, .int .i64 r.size, .string r.frm, .int .i64 r.fnum]) ys) → Q .normal ⟨#[u0, u1, u2, .pointer (some ⟨g3, 0, none⟩), u4, u5, u6, .pointer (some ⟨g7, 0, none⟩), u8, .pointer (some ⟨g9, 0, none⟩), u10, u11, u12, u13, u14, u15, u16, u17, u18, u19, u20, u21, u22, u23, u24, u25, u26, u27, u28, u29, t30, t31, t32, t33, t34, t35, t36, t37, u38, u39, u40, u41, u42, u43, u44, u45, u46, u47, u48, u49], []⟩ w') :
    (Code.region 9 ops true).wp Tryz.prog Q ⟨#[u0, u1, u2, .pointer (some ⟨g3, 0, none⟩), u4, u5, u6, .pointer (some ⟨g7, 0, none⟩), u8, .pointer (some ⟨g9, 0, none⟩), u10, u11, u12, u13, u14, u15, u16, u17, u18, u19, u20, u21, u22, u23, u24, u25, u26, u27, u28, u29, u30, u31, u32, u33, u34, u35, u36, u37, u38, u39, u40, u41, u42, u43, u44, u45, u46, u47, u48, u49], []⟩ V1 := by
  simp only [Tryz.f32, Option.bind_some, regAt] at hops
  simp at hops
  subst hops
  obtain ⟨A1, c1, hv1⟩ := own_slice hR.one
  subst hv1
  have HQ := Lib.hid hQ
  have HR := Lib.hid hR
  have HB := Lib.hid hB
  have HC := Lib.hid hC
  have HRV2 := Lib.hid hrev
  clear hQ hR hB hrev hC
  have f0 : V1.cell? ⟨g7, 0, none⟩ = some (.slice A1 n c1) := HR.out.box.cell 0
  obtain ⟨c0, c1', c2, c3, c4, c5, c6, c7, c8, c9, c10, c11⟩ := box12 HB.out
  obtain ⟨k0, k1, k2, k3, k4⟩ := box5 HC.out
  refine wp_region_noPanic ?_
  go_region_law (first
    | (refine step_app rfl rfl revElem (own_below (own_below HR.out.one hS5) ((Below.refl _ _).alloc (Nat.le_refl _) _)) (by simp [Act.eval, Act.put]) (row_new w5 [.string r.path, .int .i64 r.num, .int .i64 r.chg, .int .i64 r.act, .int .i64 r.ty.base, .bool r.ty.k, .bool r.ty.l, .bool r.ty.x, .int .u64 r.sum, .int .i64 r.size, .string r.frm, .int .i64 r.fnum] _ 12 1 rfl (by decide) _ rfl) (by simp [Act.eval, Act.put]) (by simp [Value.oneCell']) (by omega) (by unfold maxLen; omega) (by have := hS5.size; have := HR.out.bel.size; simp; omega) ?_; intro A6 c6' w6 hO6 hG6 hw6; have hbx := (HR.out.box.below (below_next hS5 ((Below.refl _ _).alloc (Nat.le_refl _) _)) HR.out.box.lt).grown hG6 (fun e => HR.out.ne1 e.symm); obtain ⟨b0, b1, g0, g1⟩ := box2 hbx)
    | (go_simp; go_at_call 61; refine (HRV2.out _ (Below.refl _ _).drew).mono ?_; rintro e w5 ⟨rfl, hX5⟩; have hS5 : Below V1.heap.size V1 w5 := (Below.refl _ _).drew.trans hX5; have f5 : w5.cell? ⟨g7, 0, none⟩ = some (.slice A1 n c1) := (HR.out.box.below hS5 HR.out.box.lt).cell 0; have f6 : (w5.alloc (.cells #[.string r.path, .int .i64 r.num, .int .i64 r.chg, .int .i64 r.act, .int .i64 r.ty.base, .bool r.ty.k, .bool r.ty.l, .bool r.ty.x, .int .u64 r.sum, .int .i64 r.size, .string r.frm, .int .i64 r.fnum] 40)).cell? ⟨g7, 0, none⟩ = some (.slice A1 n c1) := (HR.out.box.below (hS5.alloc hS5.size _) HR.out.box.lt).cell 0))
  all_goals exact NoPanic.normal (HQ.out _ _ _ _ _ _ _ _ _ _ (HR.out.push (below_next hS5 ((Below.refl _ _).alloc (Nat.le_refl _) _)) hO6 hG6 hw6))
end Go.Proofs.YtnblfaagchflaaaGreatDoor
/- The arguments of the statements at a row: lists of changes, one change. -/
namespace Go.Proofs.YtnblfaagchflaaaGreatDoor
open Go.RowKit Go.ChangeShapes Go.WideShapes Go.Deep
set_option linter.unusedVariables false
set_option linter.unusedSimpArgs false

section
variable {H : Type} {enc : TypeId × Value → H}
theorem wt_at {P : Program} {ps : Array TypeId} {ts : List TypeId} {ds gs : List (DataW H)} (h : (DataW.weightsEach P (ps.toList ++ ts) (ds ++ gs)).all (· ≤ reachBytes) = true) (j : Nat) (t : TypeId) (d : DataW H) (ht : ps[j]? = some t) (hd : ds[j]? = some d) : Wt P t d := by
  intro x hx
  have h1 : (ps.toList ++ ts)[j]? = some t := by
    rw [List.getElem?_append_left (by rw [Array.length_toList]; exact (Array.getElem?_eq_some_iff.1 ht).1), Array.getElem?_toList]; exact ht
  have h2 : (ds ++ gs)[j]? = some d := by
    rw [List.getElem?_append_left (List.getElem?_eq_some_iff.1 hd).1]; exact hd
  have := List.all_eq_true.1 h x (DataW.weights_mem_each h1 h2 x hx)
  simpa using this
/-- What the reading of a list of changes gives. -/
def ChgsRd (w : World) (v : Value) (ps : List ChV) : Prop := Chgs w v ps ∧ ps.length * 88 ≤ reachBytes ∧ ∀ p ∈ ps, p.rd w
set_option maxRecDepth 100000 in
theorem chgs_arg {w : World} {r : Reach} {b0 : Nat} {spare : Nat → Bool} {held : Bool} {v : Value} {d : DataW H} {p : List MemPlace} (hv : Value.okWide Tryz.prog w r b0 22 v) (h : DataW.Trod enc Tryz.prog w 0 spare held 22 v d p) (hw : Wt Tryz.prog 22 d) :
    ∃ ps : List ChV, ChgsRd w v ps := by
  obtain ⟨a, n, c, rfl⟩ := okWide_slice Tryz.underlying22 hv
  obtain ⟨m, hm⟩ := h
  exact chgs_open w spare held hm hw
theorem rd_last {w : World} {p : ChV} (h : p.rd w) : ∀ r ∈ p.1.recs, r.last ≤ 9223372036854775807 := fun r hr => (h.2.2.2.2.2.2 r hr).2.2
theorem rd_size {w : World} {p : ChV} (h : p.rd w) : chgLen p.1 ≤ 10000000000000 ∧ (∀ x ∈ p.1.edits, x.path.size ≤ 140737488355328 ∧ x.frm.size ≤ 140737488355328) ∧ ∀ x ∈ p.1.recs, x.frm.size ≤ 140737488355328 ∧ x.to.size ≤ 140737488355328 := by
  have hb : reachBytes = 140737488351232 := by decide
  obtain ⟨-, h1, h2, -, -, h3, h4⟩ := h
  rw [hb] at h1 h2
  refine ⟨?_, fun x hx => ?_, fun x hx => ?_⟩
  · unfold chgLen; omega
  · have := h3 x hx; rw [hb] at this; omega
  · have := h4 x hx; rw [hb] at this; omega
theorem rd_sizeOk' {w : World} {v : Value} {ps : List ChV} (h : ChgsRd w v ps) : sizeOk ps := by
  have hb : reachBytes = 140737488351232 := by decide
  have hl := h.2.1
  rw [hb] at hl
  exact ⟨by omega, fun q hq => (rd_size (h.2.2 q hq)).1, fun q hq => (rd_size (h.2.2 q hq)).2⟩
end
end Go.Proofs.YtnblfaagchflaaaGreatDoor
