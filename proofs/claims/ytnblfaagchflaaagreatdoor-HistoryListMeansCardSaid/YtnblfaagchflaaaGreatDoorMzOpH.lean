/- The arguments of the statements, opened: changes, edits, records. -/
import Derived.Test.YtnblfaagchflaaaGreatDoorMgw19
import Derived.ProofKit
import Derived.OpenShut
import Derived.ShutString
import Derived.ChangeOld
import Derived.Deep.Slices
import Derived.Deep.Fields
import Derived.SizedLaws
namespace Go.Proofs.YtnblfaagchflaaaGreatDoor
open Go.RowKit Go.ChangeShapes Go.WideShapes Go.Deep
set_option linter.unusedVariables false
set_option linter.unusedSimpArgs false

section
variable {H : Type} {enc : TypeId × Value → H} {P : Program} {w : World} {spare : Nat → Bool} {held : Bool}
/-- No part of d is too great for memory. -/
def Wt (P : Program) (e : TypeId) (d : DataW H) : Prop := ∀ x ∈ d.weights P e, x ≤ reachBytes
/-- Whatever reads as a value of type e is the cells of some x, of which Pr holds. -/
def Rd {α : Type} (enc : TypeId × Value → H) (P : Program) (w : World) (spare : Nat → Bool) (held : Bool) (e : TypeId) (f : α → List Value) (Pr : α → Prop) : Prop :=
  ∀ n cs y, DataW.trod enc P w 0 spare held n e cs = some y → Wt P e y.1 → ∃ x, cs = f x ∧ Pr x
theorem rd_string {t : TypeId} (ht : P.underlying t = some .string) : Rd enc P w spare held t (fun s : ByteArray => [.string s]) (fun s => s.size ≤ reachBytes) := fun n cs y h hw => by
  obtain ⟨s, e, hy, hs⟩ := DataW.trod_string ht h
  subst hy
  exact ⟨s, e, hw _ (by simp [DataW.weights])⟩
theorem rd_int {t : TypeId} {k : IntKind} (ht : P.underlying t = some (.int k)) : Rd enc P w spare held t (fun n : Int => [.int k n]) (fun n => (Lit.int k n).wf = true) := fun n cs y h _ => by
  obtain ⟨s, e, _, hs⟩ := DataW.trod_int ht h
  exact ⟨s, e, hs⟩
theorem rd_bool {t : TypeId} (ht : P.underlying t = some .bool) : Rd enc P w spare held t (fun b : Bool => [.bool b]) (fun _ => True) := fun n cs y h _ => by
  obtain ⟨s, e, _⟩ := DataW.trod_bool ht h
  exact ⟨s, e, trivial⟩
theorem choose_list {α : Type} {p : Nat → α → Prop} : ∀ (n : Nat), (∀ i, i < n → ∃ x, p i x) → ∃ l : List α, l.length = n ∧ ∀ i (h : i < l.length), p i l[i]
  | 0, _ => ⟨[], rfl, fun i h => absurd h (by simp)⟩
  | n + 1, h => by
    obtain ⟨l, hl, hp⟩ := choose_list n (fun i hi => h i (by omega))
    obtain ⟨x, hx⟩ := h n (by omega)
    refine ⟨l ++ [x], by simp [hl], fun i hi => ?_⟩
    by_cases hil : i < l.length
    · rw [List.getElem_append_left hil]; exact hp i hil
    · have : i = n := by simp at hi; omega
      subst this
      rw [List.getElem_append_right (by omega)]; simpa using hx
theorem wts_all {P : Program} {e : TypeId} {l : List (DataW H)} {d : DataW H} {x : Nat} (hd : d ∈ l) (hx : x ∈ d.weights P e) : x ∈ DataW.weightsAll P e l := by
  induction l with
  | nil => cases hd
  | cons a l ih =>
    rw [DataW.weightsAll]
    rcases List.mem_cons.1 hd with rfl | hd
    · exact List.mem_append_left _ hx
    · exact List.mem_append_right _ (ih hd)
/-- A field of a struct. -/
theorem rd_field {e : TypeId} {fs : Array Field} {cs : List Value} {n : Nat} {y : DataW H × List MemPlace} (he : P.underlying e = some (.struct fs)) (h : DataW.trod enc P w 0 spare held n e cs = some y) (hw : Wt P e y.1) {i : Nat} {f : Field} (hf : fs[i]? = some f) :
    ∃ n' y', DataW.trod enc P w 0 spare held n' f.type ((cs.drop f.offset).take (P.cellsOf f.type)) = some y' ∧ Wt P f.type y'.1 := by
  obtain ⟨ys, n', _, hy, _, hlen, hfld⟩ := DataW.trod_struct he h
  have := hfld i f hf
  have hi := (Array.getElem?_eq_some_iff.1 hf).1
  rw [List.getElem?_eq_getElem (by omega)] at this
  refine ⟨n', _, this, fun x hx => hw x ?_⟩
  rw [hy]
  simp only [DataW.weights, he]
  exact DataW.weights_mem_each (j := i) (t := f.type) (by simp [hf]) (by rw [List.getElem?_map, List.getElem?_eq_getElem (by omega)]; rfl) x hx
theorem rd_field' {e T : TypeId} {fs : Array Field} {cs : List Value} {n off k : Nat} {y : DataW H × List MemPlace} (he : P.underlying e = some (.struct fs)) (h : DataW.trod enc P w 0 spare held n e cs = some y) (hw : Wt P e y.1) {i : Nat} {f : Field} (hf : fs[i]? = some f) (hT : f.type = T) (ho : f.offset = off) (hk : P.cellsOf T = k) :
    ∃ n' y', DataW.trod enc P w 0 spare held n' T ((cs.drop off).take k) = some y' ∧ Wt P T y'.1 := by
  obtain ⟨n', y', h', hw'⟩ := rd_field he h hw hf
  rw [hT] at hw'
  rw [hT, ho, hk] at h'
  exact ⟨n', y', h', hw'⟩
theorem rd_len {e : TypeId} {fs : Array Field} {cs : List Value} {n : Nat} {y : DataW H × List MemPlace} (he : P.underlying e = some (.struct fs)) (h : DataW.trod enc P w 0 spare held n e cs = some y) : cs.length = P.cellsOf e := by
  obtain ⟨ys, n', _, _, hl, _, _⟩ := DataW.trod_struct he h
  exact hl
/-- A slice. -/
theorem rd_slice {α : Type} {f : α → List Value} {Pr : α → Prop} {k : Nat} {t e : TypeId} (hf : ∀ x, (f x).length = k) (hk : 0 < k) (ht : P.underlying t = some (.slice e)) (hC : P.cellsOf e = k) (hR : Rd enc P w spare held e f Pr) :
    ∀ n cs y, DataW.trod enc P w 0 spare held n t cs = some y → Wt P t y.1 → ∃ (v : Value) (l : List α), cs = [v] ∧ l.length * P.bytesOf e ≤ reachBytes ∧ (∃ A c, v = .slice A l.length c) ∧ Row w k v l.length (l.flatMap f) ∧ ∀ x ∈ l, Pr x := by
  intro n cs y h hw
  rcases open_slice ht h with ⟨rfl, _⟩ | ⟨x, len, cap, m, nf, D, Pl, rfl, _, hl, hm, hmm, hy, hi⟩
  · exact ⟨_, [], rfl, by simp, ⟨none, 0, rfl⟩, Row.nil_ w k, by simp⟩
  · have hnm : len ≤ m := by rw [hmm]; split <;> omega
    obtain ⟨l, hll, hp⟩ := choose_list (α := α) (p := fun i q => (∀ j u, (f q)[j]? = some u → w.cell? (x.add (i * k + j)) = some u) ∧ Pr q) len (fun i hin => by
      obtain ⟨cs', hcc, htr⟩ := hi i (by omega)
      rw [hC] at hcc
      obtain ⟨_, hcl, hat⟩ := World.cells?_some hcc
      obtain ⟨q, rfl, hq⟩ := hR _ _ _ htr (fun z hz => hw z (by
        rw [hy]
        simp only [DataW.weights, ht]
        exact List.mem_cons_of_mem _ (List.mem_append_left _ (wts_all (List.mem_map.2 ⟨i, List.mem_range.2 hin, rfl⟩) hz))))
      refine ⟨q, fun j u hu => ?_, hq⟩
      have hj : j < k := by rw [← hf q]; exact (List.getElem?_eq_some_iff.1 hu).1
      have := hat j (by omega)
      rw [add_add'] at this
      rw [this]
      first | exact hu | (simpa using hu))
    refine ⟨_, l, rfl, ?_, ⟨some x, cap, by rw [hll]⟩, ?_, fun q hq => ?_⟩
    · have := hw ((len + (m - len)) * P.bytesOf e) (by rw [hy]; simp [DataW.weights, ht])
      rw [hll]
      exact Nat.le_trans (Nat.mul_le_mul_right _ (by omega)) this
    · rw [hll]
      refine ⟨_, _, rfl, hl, hm, by rw [flat_len f k hf, hll], fun h => (by cases h), fun hn => ⟨x, rfl, ?_, fun j u hu => ?_⟩⟩
      · have h0 : 0 < (f (l[0]'(by omega))).length := by rw [hf]; exact hk
        have := (hp 0 (by omega)).1 0 _ (List.getElem?_eq_getElem h0)
        exact (add_block x _) ▸ cell_lt this
      · have hjl : j < len * k := by have := (List.getElem?_eq_some_iff.1 hu).1; rwa [flat_len f k hf, hll] at this
        have hq : j / k < l.length := by rw [hll, Nat.div_lt_iff_lt_mul hk]; exact hjl
        have hr : j % k < k := Nat.mod_lt _ hk
        have e1 : j / k * k + j % k = j := by rw [Nat.mul_comm]; exact Nat.div_add_mod j k
        have e2 := flat_get f k hf l (j / k) (j % k) hq hr
        rw [e1, hu] at e2
        have := (hp (j / k) hq).1 (j % k) u e2.symm
        rwa [e1] at this
    · obtain ⟨i, hil, rfl⟩ := List.mem_iff_getElem.1 hq
      exact (hp i hil).2
end
section
variable {H : Type} {enc : TypeId × Value → H}
theorem rd_ty (w : World) (spare : Nat → Bool) (held : Bool) : Rd enc Tryz.prog w spare held 35 Ty.cells (fun _ => True) := by
  intro n cs y h hw
  have hl : cs.length = 4 := (rd_len Tryz.underlying35 h).trans (by kernel_rfl)
  obtain ⟨n0, y0, h0, wh0⟩ := rd_field' (T := 3) (off := 0) (k := 1) Tryz.underlying35 h hw (i := 0) rfl rfl rfl (by kernel_rfl)
  obtain ⟨a0, e0, p0⟩ := rd_int Tryz.underlying3 _ _ _ h0 wh0
  obtain ⟨n1, y1, h1, wh1⟩ := rd_field' (T := 4) (off := 1) (k := 1) Tryz.underlying35 h hw (i := 1) rfl rfl rfl (by kernel_rfl)
  obtain ⟨a1, e1, p1⟩ := rd_bool Tryz.underlying4 _ _ _ h1 wh1
  obtain ⟨n2, y2, h2, wh2⟩ := rd_field' (T := 4) (off := 2) (k := 1) Tryz.underlying35 h hw (i := 2) rfl rfl rfl (by kernel_rfl)
  obtain ⟨a2, e2, p2⟩ := rd_bool Tryz.underlying4 _ _ _ h2 wh2
  obtain ⟨n3, y3, h3, wh3⟩ := rd_field' (T := 4) (off := 3) (k := 1) Tryz.underlying35 h hw (i := 3) rfl rfl rfl (by kernel_rfl)
  obtain ⟨a3, e3, p3⟩ := rd_bool Tryz.underlying4 _ _ _ h3 wh3
  clear h hw h0 h1 h2 h3 wh0 wh1 wh2 wh3
  match cs, hl with
  | [u0, u1, u2, u3], _ =>
    have e0' : [u0] = _ := e0
    have e1' : [u1] = _ := e1
    have e2' : [u2] = _ := e2
    have e3' : [u3] = _ := e3
    clear e0
    clear e1
    clear e2
    clear e3
    simp only [List.cons.injEq, and_true] at e0' e1' e2' e3'
    subst e0' e1' e2' e3'
    exact ⟨⟨a0, a1, a2, a3⟩, rfl, trivial⟩
theorem rd_con (w : World) (spare : Nat → Bool) (held : Bool) : Rd enc Tryz.prog w spare held 38 (fun p : Int × Int => [.int .u64 p.1, .int .i64 p.2]) (fun _ => True) := by
  intro n cs y h hw
  have hl : cs.length = 2 := (rd_len Tryz.underlying38 h).trans (by kernel_rfl)
  obtain ⟨n0, y0, h0, wh0⟩ := rd_field' (T := 36) (off := 0) (k := 1) Tryz.underlying38 h hw (i := 0) rfl rfl rfl (by kernel_rfl)
  obtain ⟨a0, e0, p0⟩ := rd_int Tryz.underlying36 _ _ _ h0 wh0
  obtain ⟨n1, y1, h1, wh1⟩ := rd_field' (T := 3) (off := 1) (k := 1) Tryz.underlying38 h hw (i := 1) rfl rfl rfl (by kernel_rfl)
  obtain ⟨a1, e1, p1⟩ := rd_int Tryz.underlying3 _ _ _ h1 wh1
  clear h hw h0 h1 wh0 wh1
  match cs, hl with
  | [u0, u1], _ =>
    have e0' : [u0] = _ := e0
    have e1' : [u1] = _ := e1
    clear e0
    clear e1
    simp only [List.cons.injEq, and_true] at e0' e1'
    subst e0' e1'
    exact ⟨(a0, a1), rfl, trivial⟩
theorem rd_edt (w : World) (spare : Nat → Bool) (held : Bool) : Rd enc Tryz.prog w spare held 55 Edt.cells (fun x => x.path.size ≤ reachBytes ∧ x.frm.size ≤ reachBytes) := by
  intro n cs y h hw
  have hl : cs.length = 12 := (rd_len Tryz.underlying55 h).trans (by kernel_rfl)
  obtain ⟨n0, y0, h0, wh0⟩ := rd_field' (T := 9) (off := 0) (k := 1) Tryz.underlying55 h hw (i := 0) rfl rfl rfl (by kernel_rfl)
  obtain ⟨a0, e0, p0⟩ := rd_string Tryz.underlying9 _ _ _ h0 wh0
  obtain ⟨n1, y1, h1, wh1⟩ := rd_field' (T := 3) (off := 1) (k := 1) Tryz.underlying55 h hw (i := 1) rfl rfl rfl (by kernel_rfl)
  obtain ⟨a1, e1, p1⟩ := rd_int Tryz.underlying3 _ _ _ h1 wh1
  obtain ⟨n2, y2, h2, wh2⟩ := rd_field' (T := 35) (off := 2) (k := 4) Tryz.underlying55 h hw (i := 2) rfl rfl rfl (by kernel_rfl)
  obtain ⟨a2, e2, p2⟩ := rd_ty w spare held _ _ _ h2 wh2
  obtain ⟨n3, y3, h3, wh3⟩ := rd_field' (T := 38) (off := 6) (k := 2) Tryz.underlying55 h hw (i := 3) rfl rfl rfl (by kernel_rfl)
  obtain ⟨a3, e3, p3⟩ := rd_con w spare held _ _ _ h3 wh3
  obtain ⟨n4, y4, h4, wh4⟩ := rd_field' (T := 3) (off := 8) (k := 1) Tryz.underlying55 h hw (i := 4) rfl rfl rfl (by kernel_rfl)
  obtain ⟨a4, e4, p4⟩ := rd_int Tryz.underlying3 _ _ _ h4 wh4
  obtain ⟨n5, y5, h5, wh5⟩ := rd_field' (T := 9) (off := 9) (k := 1) Tryz.underlying55 h hw (i := 5) rfl rfl rfl (by kernel_rfl)
  obtain ⟨a5, e5, p5⟩ := rd_string Tryz.underlying9 _ _ _ h5 wh5
  obtain ⟨n6, y6, h6, wh6⟩ := rd_field' (T := 3) (off := 10) (k := 1) Tryz.underlying55 h hw (i := 6) rfl rfl rfl (by kernel_rfl)
  obtain ⟨a6, e6, p6⟩ := rd_int Tryz.underlying3 _ _ _ h6 wh6
  obtain ⟨n7, y7, h7, wh7⟩ := rd_field' (T := 3) (off := 11) (k := 1) Tryz.underlying55 h hw (i := 7) rfl rfl rfl (by kernel_rfl)
  obtain ⟨a7, e7, p7⟩ := rd_int Tryz.underlying3 _ _ _ h7 wh7
  clear h hw h0 h1 h2 h3 h4 h5 h6 h7 wh0 wh1 wh2 wh3 wh4 wh5 wh6 wh7
  match cs, hl with
  | [u0, u1, u2, u3, u4, u5, u6, u7, u8, u9, u10, u11], _ =>
    have e0' : [u0] = _ := e0
    have e1' : [u1] = _ := e1
    have e2' : [u2, u3, u4, u5] = _ := e2
    have e3' : [u6, u7] = _ := e3
    have e4' : [u8] = _ := e4
    have e5' : [u9] = _ := e5
    have e6' : [u10] = _ := e6
    have e7' : [u11] = _ := e7
    clear e0
    clear e1
    clear e2
    clear e3
    clear e4
    clear e5
    clear e6
    clear e7
    simp only [Ty.cells, List.cons.injEq, and_true] at e0' e1' e2' e3' e4' e5' e6' e7'
    obtain ⟨b0, b1, b2, b3⟩ := e2'
    obtain ⟨b4, b5⟩ := e3'
    subst e0' e1' b0 b1 b2 b3 b4 b5 e4' e5' e6' e7'
    exact ⟨⟨a0, a1, a2, a3.1, a3.2, a4, a5, a6, a7⟩, rfl, p0, p5⟩
theorem rd_rcd (w : World) (spare : Nat → Bool) (held : Bool) : Rd enc Tryz.prog w spare held 57 Rcd.cells (fun x => x.frm.size ≤ reachBytes ∧ x.to.size ≤ reachBytes ∧ x.last ≤ 9223372036854775807) := by
  intro n cs y h hw
  have hl : cs.length = 6 := (rd_len Tryz.underlying57 h).trans (by kernel_rfl)
  obtain ⟨n0, y0, h0, wh0⟩ := rd_field' (T := 9) (off := 0) (k := 1) Tryz.underlying57 h hw (i := 0) rfl rfl rfl (by kernel_rfl)
  obtain ⟨a0, e0, p0⟩ := rd_string Tryz.underlying9 _ _ _ h0 wh0
  obtain ⟨n1, y1, h1, wh1⟩ := rd_field' (T := 3) (off := 1) (k := 1) Tryz.underlying57 h hw (i := 1) rfl rfl rfl (by kernel_rfl)
  obtain ⟨a1, e1, p1⟩ := rd_int Tryz.underlying3 _ _ _ h1 wh1
  obtain ⟨n2, y2, h2, wh2⟩ := rd_field' (T := 3) (off := 2) (k := 1) Tryz.underlying57 h hw (i := 2) rfl rfl rfl (by kernel_rfl)
  obtain ⟨a2, e2, p2⟩ := rd_int Tryz.underlying3 _ _ _ h2 wh2
  obtain ⟨n3, y3, h3, wh3⟩ := rd_field' (T := 9) (off := 3) (k := 1) Tryz.underlying57 h hw (i := 3) rfl rfl rfl (by kernel_rfl)
  obtain ⟨a3, e3, p3⟩ := rd_string Tryz.underlying9 _ _ _ h3 wh3
  obtain ⟨n4, y4, h4, wh4⟩ := rd_field' (T := 3) (off := 4) (k := 1) Tryz.underlying57 h hw (i := 4) rfl rfl rfl (by kernel_rfl)
  obtain ⟨a4, e4, p4⟩ := rd_int Tryz.underlying3 _ _ _ h4 wh4
  obtain ⟨n5, y5, h5, wh5⟩ := rd_field' (T := 3) (off := 5) (k := 1) Tryz.underlying57 h hw (i := 5) rfl rfl rfl (by kernel_rfl)
  obtain ⟨a5, e5, p5⟩ := rd_int Tryz.underlying3 _ _ _ h5 wh5
  clear h hw h0 h1 h2 h3 h4 h5 wh0 wh1 wh2 wh3 wh4 wh5
  match cs, hl with
  | [u0, u1, u2, u3, u4, u5], _ =>
    have e0' : [u0] = _ := e0
    have e1' : [u1] = _ := e1
    have e2' : [u2] = _ := e2
    have e3' : [u3] = _ := e3
    have e4' : [u4] = _ := e4
    have e5' : [u5] = _ := e5
    clear e0
    clear e1
    clear e2
    clear e3
    clear e4
    clear e5
    simp only [List.cons.injEq, and_true] at e0' e1' e2' e3' e4' e5'
    subst e0' e1' e2' e3' e4' e5'
    exact ⟨⟨a0, a1, a2, a3, a4, a5⟩, rfl, p0, p3, by simp [Lit.wf] at p2; show a2 ≤ 9223372036854775807; omega⟩
/-- What the reading of a change gives. -/
def ChV.rd (w : World) (p : ChV) : Prop := p.ok w ∧ p.1.edits.length * 96 ≤ reachBytes ∧ p.1.recs.length * 64 ≤ reachBytes ∧ (∃ A c, p.2.1 = .slice A p.1.edits.length c) ∧ (∃ A c, p.2.2 = .slice A p.1.recs.length c) ∧
  (∀ x ∈ p.1.edits, x.path.size ≤ reachBytes ∧ x.frm.size ≤ reachBytes) ∧ ∀ x ∈ p.1.recs, x.frm.size ≤ reachBytes ∧ x.to.size ≤ reachBytes ∧ x.last ≤ 9223372036854775807
theorem rd_chg (w : World) (spare : Nat → Bool) (held : Bool) : Rd enc Tryz.prog w spare held 53 ChV.cells (ChV.rd w) := by
  intro n cs y h hw
  have hl : cs.length = 5 := (rd_len Tryz.underlying53 h).trans (by kernel_rfl)
  obtain ⟨n0, y0, h0, wh0⟩ := rd_field' (T := 3) (off := 0) (k := 1) Tryz.underlying53 h hw (i := 0) rfl rfl rfl (by kernel_rfl)
  obtain ⟨a0, e0, p0⟩ := rd_int Tryz.underlying3 _ _ _ h0 wh0
  obtain ⟨n1, y1, h1, wh1⟩ := rd_field' (T := 9) (off := 1) (k := 1) Tryz.underlying53 h hw (i := 1) rfl rfl rfl (by kernel_rfl)
  obtain ⟨a1, e1, p1⟩ := rd_string Tryz.underlying9 _ _ _ h1 wh1
  obtain ⟨n2, y2, h2, wh2⟩ := rd_field' (T := 9) (off := 2) (k := 1) Tryz.underlying53 h hw (i := 2) rfl rfl rfl (by kernel_rfl)
  obtain ⟨a2, e2, p2⟩ := rd_string Tryz.underlying9 _ _ _ h2 wh2
  obtain ⟨n3, y3, h3, wh3⟩ := rd_field' (T := 51) (off := 3) (k := 1) Tryz.underlying53 h hw (i := 3) rfl rfl rfl (by kernel_rfl)
  obtain ⟨v3, es, e3, b3, s3, r3, p3⟩ := rd_slice (k := 12) (fun _ => rfl) (by decide) Tryz.underlying51 (by kernel_rfl) (rd_edt w spare held) _ _ _ h3 wh3
  obtain ⟨n4, y4, h4, wh4⟩ := rd_field' (T := 29) (off := 4) (k := 1) Tryz.underlying53 h hw (i := 4) rfl rfl rfl (by kernel_rfl)
  obtain ⟨v4, rs, e4, b4, s4, r4, p4⟩ := rd_slice (k := 6) (fun _ => rfl) (by decide) Tryz.underlying29 (by kernel_rfl) (rd_rcd w spare held) _ _ _ h4 wh4
  rw [show Tryz.prog.bytesOf 55 = 96 by kernel_rfl] at b3
  rw [show Tryz.prog.bytesOf 57 = 64 by kernel_rfl] at b4
  clear h hw h0 h1 h2 h3 h4 wh0 wh1 wh2 wh3 wh4
  match cs, hl with
  | [u0, u1, u2, u3, u4], _ =>
    have e0' : [u0] = _ := e0
    have e1' : [u1] = _ := e1
    have e2' : [u2] = _ := e2
    have e3' : [u3] = _ := e3
    have e4' : [u4] = _ := e4
    clear e0 e1 e2 e3 e4
    simp only [List.cons.injEq, and_true] at e0' e1' e2' e3' e4'
    subst e0' e1' e2' e3' e4'
    exact ⟨(⟨a0, a1, a2, es, rs⟩, u3, u4), rfl, ⟨r3, r4⟩, b3, b4, s3, s4, p3, p4⟩
theorem chgs_open (w : World) (spare : Nat → Bool) (held : Bool) {n : Nat} {v : Value} {y : DataW H × List MemPlace} (h : DataW.trod enc Tryz.prog w 0 spare held n 22 [v] = some y) (hw : Wt Tryz.prog 22 y.1) :
    ∃ ps : List ChV, Chgs w v ps ∧ ps.length * 88 ≤ reachBytes ∧ ∀ p ∈ ps, p.rd w := by
  obtain ⟨v', ps, e, hb, -, hr, hp⟩ := rd_slice (k := 5) (fun _ => rfl) (by decide) Tryz.underlying22 (by kernel_rfl) (rd_chg w spare held) _ _ _ h hw
  rw [show Tryz.prog.bytesOf 53 = 88 by kernel_rfl] at hb
  simp only [List.cons.injEq, and_true] at e
  subst e
  exact ⟨ps, ⟨hr, fun p hq => (hp p hq).1⟩, hb, hp⟩
end
end Go.Proofs.YtnblfaagchflaaaGreatDoor
