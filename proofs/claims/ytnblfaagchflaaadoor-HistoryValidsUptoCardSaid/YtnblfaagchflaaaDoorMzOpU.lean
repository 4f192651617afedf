/- A depot as an argument under an Upto bound: its texts are short. -/
import Derived.Test.YtnblfaagchflaaaDoorMgw20
import Derived.Test.YtnblfaagchflaaaDoorRows
namespace Go.Proofs.YtnblfaagchflaaaDoor.upto
open Go.RowKit Go.ChangeShapes Go.WideShapes Go.Deep
set_option linter.unusedVariables false
set_option linter.unusedSimpArgs false

theorem one_le {H : Type} (d : DataW H) : 1 ≤ Rows.uptoBulk d := by
  cases d with
  | lit l => cases l <;> simp [Rows.uptoBulk]
  | nil => simp [Rows.uptoBulk]
  | ptr d => simp [Rows.uptoBulk]
  | slice elems spare => simp [Rows.uptoBulk]
  | agg parts => simp [Rows.uptoBulk]
  | iface t d => simp [Rows.uptoBulk]
  | map entries => simp [Rows.uptoBulk]
  | held h => simp [Rows.uptoBulk]
theorem part_le {H : Type} {d : DataW H} {l : List (DataW H)} (h : d ∈ l) : Rows.uptoBulk d ≤ Rows.uptoBulkAll l := by
  induction l with
  | nil => cases h
  | cons x r ih =>
    simp only [Rows.uptoBulkAll]
    rcases List.mem_cons.1 h with e | e
    · subst e; omega
    · have := ih e; omega
section
variable {H : Type} {enc : TypeId × Value → H} {P : Program} {w : World} {spare : Nat → Bool} {held : Bool}
/-- No part of d is too great for memory, and d is small. -/
def Wt (P : Program) (e : TypeId) (d : DataW H) : Prop := (∀ x ∈ d.weights P e, x ≤ reachBytes) ∧ Rows.uptoBulk d ≤ 1048576
def Rd {α : Type} (enc : TypeId × Value → H) (P : Program) (w : World) (spare : Nat → Bool) (held : Bool) (e : TypeId) (f : α → List Value) (Pr : α → Prop) : Prop :=
  ∀ n cs y, DataW.trod enc P w 0 spare held n e cs = some y → Wt P e y.1 → ∃ x, cs = f x ∧ Pr x
theorem rd_string {t : TypeId} (ht : P.underlying t = some .string) : Rd enc P w spare held t (fun s : ByteArray => [.string s]) (fun s => s.size ≤ 1048576) := fun n cs y h hw => by
  obtain ⟨s, e, hy, hs⟩ := DataW.trod_string ht h
  subst hy
  refine ⟨s, e, ?_⟩
  have := hw.2
  simp only [Rows.uptoBulk] at this
  have h2 : s.data.toList.length = s.size := rfl
  first | omega | (simp at this; omega)

theorem rd_int {t : TypeId} {k : IntKind} (ht : P.underlying t = some (.int k)) : Rd enc P w spare held t (fun n : Int => [.int k n]) (fun n => (Lit.int k n).wf = true) := fun n cs y h _ => by
  obtain ⟨s, e, _, hs⟩ := DataW.trod_int ht h
  exact ⟨s, e, hs⟩

theorem rd_bool {t : TypeId} (ht : P.underlying t = some .bool) : Rd enc P w spare held t (fun b : Bool => [.bool b]) (fun _ => True) := fun n cs y h _ => by
  obtain ⟨s, e, _⟩ := DataW.trod_bool ht h
  exact ⟨s, e, trivial⟩

/-- A field of a struct. -/
theorem rd_field {e : TypeId} {fs : Array Field} {cs : List Value} {n : Nat} {y : DataW H × List MemPlace} (he : P.underlying e = some (.struct fs)) (h : DataW.trod enc P w 0 spare held n e cs = some y) (hw : Wt P e y.1) {i : Nat} {f : Field} (hf : fs[i]? = some f) :
    ∃ n' y', DataW.trod enc P w 0 spare held n' f.type ((cs.drop f.offset).take (P.cellsOf f.type)) = some y' ∧ Wt P f.type y'.1 := by
  obtain ⟨ys, n', _, hy, _, hlen, hfld⟩ := DataW.trod_struct he h
  have := hfld i f hf
  have hi := (Array.getElem?_eq_some_iff.1 hf).1
  rw [List.getElem?_eq_getElem (by omega)] at this
  refine ⟨n', _, this, fun x hx => hw.1 x ?_, ?_⟩
  · rw [hy]
    simp only [DataW.weights, he]
    exact DataW.weights_mem_each (j := i) (t := f.type) (by simp [hf]) (by rw [List.getElem?_map, List.getElem?_eq_getElem (by omega)]; rfl) x hx
  · have h2 := hw.2
    rw [hy] at h2
    simp only [Rows.uptoBulk] at h2
    have h3 : (ys[i]'(by omega)).1 ∈ ys.map (·.1) := List.mem_map_of_mem (List.getElem_mem _)
    have := part_le h3
    omega

theorem rd_field' {e T : TypeId} {fs : Array Field} {cs : List Value} {n off k : Nat} {y : DataW H × List MemPlace} (he : P.underlying e = some (.struct fs)) (h : DataW.trod enc P w 0 spare held n e cs = some y) (hw : Wt P e y.1) {i : Nat} {f : Field} (hf : fs[i]? = some f) (hT : f.type = T) (ho : f.offset = off) (hk : P.cellsOf T = k) :
    ∃ n' y', DataW.trod enc P w 0 spare held n' T ((cs.drop off).take k) = some y' ∧ Wt P T y'.1 := by
  obtain ⟨n', y', h', hw'⟩ := rd_field he h hw hf
  rw [hT] at hw'
  rw [hT, ho, hk] at h'
  exact ⟨n', y', h', hw'⟩

/-- A slice. -/
theorem rd_slice {α : Type} {f : α → List Value} {Pr : α → Prop} {k : Nat} {t e : TypeId} (hf : ∀ x, (f x).length = k) (hk : 0 < k) (ht : P.underlying t = some (.slice e)) (hC : P.cellsOf e = k) (hR : Rd enc P w spare held e f Pr) :
    ∀ n cs y, DataW.trod enc P w 0 spare held n t cs = some y → Wt P t y.1 → ∃ (v : Value) (l : List α), cs = [v] ∧ l.length * P.bytesOf e ≤ reachBytes ∧ (∃ A c, v = .slice A l.length c) ∧ Row w k v l.length (l.flatMap f) ∧ ∀ x ∈ l, Pr x := by
  intro n cs y h hw
  rcases open_slice ht h with ⟨rfl, _⟩ | ⟨x, len, cap, m, nf, D, Pl, rfl, _, hl, hm, hmm, hy, hi⟩
  · exact ⟨_, [], rfl, by simp, ⟨none, 0, rfl⟩, Row.nil_ w k, by simp⟩
  · have hnm : len ≤ m := by rw [hmm]; split <;> omega
    obtain ⟨l, hll, hp⟩ := choose_list (α := α) (p := fun i q => (∀ j u, (f q)[j]? = some u → w.cell? (x.add (i * k + j)) = some u) ∧ Pr q) len (fun i hin => by
      obtain ⟨cs', hcc, htr⟩ := hi i (by omega)
      rw [hC] at hcc
      obtain ⟨_, hcl, hat⟩ := World.cells?_some hcc
      obtain ⟨q, rfl, hq⟩ := hR _ _ _ htr ⟨fun z hz => hw.1 z (by
        rw [hy]
        simp only [DataW.weights, ht]
        exact List.mem_cons_of_mem _ (List.mem_append_left _ (wts_all (List.mem_map.2 ⟨i, List.mem_range.2 hin, rfl⟩) hz))), by
          have h2 := hw.2
          rw [hy] at h2
          simp only [Rows.uptoBulk] at h2
          have h3 : D i ∈ (List.range len).map D := List.mem_map.2 ⟨i, List.mem_range.2 hin, rfl⟩
          have h4 := part_le h3
          show Rows.uptoBulk (D i) ≤ 1048576
          omega⟩
      refine ⟨q, fun j u hu => ?_, hq⟩
      have hj : j < k := by rw [← hf q]; exact (List.getElem?_eq_some_iff.1 hu).1
      have := hat j (by omega)
      rw [add_add'] at this
      rw [this]
      first | exact hu | (simpa using hu))
    refine ⟨_, l, rfl, ?_, ⟨some x, cap, by rw [hll]⟩, ?_, fun q hq => ?_⟩
    · have := hw.1 ((len + (m - len)) * P.bytesOf e) (by rw [hy]; simp [DataW.weights, ht])
      rw [hll]
      exact Nat.le_trans (Nat.mul_le_mul_right _ (by omega)) this
    · rw [hll]
      refine ⟨_, _, rfl, hl, hm, by rw [flat_len f k hf, hll], fun h => (by cases h), fun hn => ⟨x, rfl, ?_, fun j u hu => ?_⟩⟩
      · have h0 : 0 < (f (l[0]'(by omega))).length := by rw [hf]; exact hk
        have := (hp 0 (by omega)).1 0 _ (List.getElem?_eq_getElem h0)
        exact (add_block x _) ▸ cell_lt this
      · have hjl : j < len * k := by have := (List.getElem?_eq_some_iff.1 hu).1; rwa [flat_len f k hf, hll] at this
        have hq : j / k < l.length := by rw [hll, Nat.div_lt_iff_lt_mul hk]; exact hjl
        have hr : j % k < k := Nat.mod_lt _ hk
        have e1 : j / k * k + j % k = j := by rw [Nat.mul_comm]; exact Nat.div_add_mod j k
        have e2 := flat_get f k hf l (j / k) (j % k) hq hr
        rw [e1, hu] at e2
        have := (hp (j / k) hq).1 (j % k) u e2.symm
        rwa [e1] at this
    · obtain ⟨i, hil, rfl⟩ := List.mem_iff_getElem.1 hq
      exact (hp i hil).2

end
section
variable {H : Type} {enc : TypeId × Value → H}

theorem rd_ty (w : World) (spare : Nat → Bool) (held : Bool) : Rd enc Tryd.prog w spare held 28 Ty.cells (fun _ => True) := by
  intro n cs y h hw
  have hl : cs.length = 4 := (rd_len Tryd.underlying28 h).trans (by kernel_rfl)
  obtain ⟨n0, y0, h0, wh0⟩ := rd_field' (T := 3) (off := 0) (k := 1) Tryd.underlying28 h hw (i := 0) rfl rfl rfl (by kernel_rfl)
  obtain ⟨a0, e0, p0⟩ := rd_int Tryd.underlying3 _ _ _ h0 wh0
  obtain ⟨n1, y1, h1, wh1⟩ := rd_field' (T := 4) (off := 1) (k := 1) Tryd.underlying28 h hw (i := 1) rfl rfl rfl (by kernel_rfl)
  obtain ⟨a1, e1, p1⟩ := rd_bool Tryd.underlying4 _ _ _ h1 wh1
  obtain ⟨n2, y2, h2, wh2⟩ := rd_field' (T := 4) (off := 2) (k := 1) Tryd.underlying28 h hw (i := 2) rfl rfl rfl (by kernel_rfl)
  obtain ⟨a2, e2, p2⟩ := rd_bool Tryd.underlying4 _ _ _ h2 wh2
  obtain ⟨n3, y3, h3, wh3⟩ := rd_field' (T := 4) (off := 3) (k := 1) Tryd.underlying28 h hw (i := 3) rfl rfl rfl (by kernel_rfl)
  obtain ⟨a3, e3, p3⟩ := rd_bool Tryd.underlying4 _ _ _ h3 wh3
  clear h hw h0 h1 h2 h3 wh0 wh1 wh2 wh3
  match cs, hl with
  | [u0, u1, u2, u3], _ =>
    have e0' : [u0] = _ := e0
    have e1' : [u1] = _ := e1
    have e2' : [u2] = _ := e2
    have e3' : [u3] = _ := e3
    clear e0
    clear e1
    clear e2
    clear e3
    simp only [List.cons.injEq, and_true] at e0' e1' e2' e3'
    subst e0' e1' e2' e3'
    exact ⟨⟨a0, a1, a2, a3⟩, rfl, trivial⟩

theorem rd_con (w : World) (spare : Nat → Bool) (held : Bool) : Rd enc Tryd.prog w spare held 31 (fun p : Int × Int => [.int .u64 p.1, .int .i64 p.2]) (fun _ => True) := by
  intro n cs y h hw
  have hl : cs.length = 2 := (rd_len Tryd.underlying31 h).trans (by kernel_rfl)
  obtain ⟨n0, y0, h0, wh0⟩ := rd_field' (T := 29) (off := 0) (k := 1) Tryd.underlying31 h hw (i := 0) rfl rfl rfl (by kernel_rfl)
  obtain ⟨a0, e0, p0⟩ := rd_int Tryd.underlying29 _ _ _ h0 wh0
  obtain ⟨n1, y1, h1, wh1⟩ := rd_field' (T := 3) (off := 1) (k := 1) Tryd.underlying31 h hw (i := 1) rfl rfl rfl (by kernel_rfl)
  obtain ⟨a1, e1, p1⟩ := rd_int Tryd.underlying3 _ _ _ h1 wh1
  clear h hw h0 h1 wh0 wh1
  match cs, hl with
  | [u0, u1], _ =>
    have e0' : [u0] = _ := e0
    have e1' : [u1] = _ := e1
    clear e0
    clear e1
    simp only [List.cons.injEq, and_true] at e0' e1'
    subst e0' e1'
    exact ⟨(a0, a1), rfl, trivial⟩

theorem rd_rcd (w : World) (spare : Nat → Bool) (held : Bool) : Rd enc Tryd.prog w spare held 50 Rcd.cells (fun x => x.frm.size ≤ 1048576 ∧ x.to.size ≤ 1048576 ∧ x.last ≤ 9223372036854775807) := by
  intro n cs y h hw
  have hl : cs.length = 6 := (rd_len Tryd.underlying50 h).trans (by kernel_rfl)
  obtain ⟨n0, y0, h0, wh0⟩ := rd_field' (T := 9) (off := 0) (k := 1) Tryd.underlying50 h hw (i := 0) rfl rfl rfl (by kernel_rfl)
  obtain ⟨a0, e0, p0⟩ := rd_string Tryd.underlying9 _ _ _ h0 wh0
  obtain ⟨n1, y1, h1, wh1⟩ := rd_field' (T := 3) (off := 1) (k := 1) Tryd.underlying50 h hw (i := 1) rfl rfl rfl (by kernel_rfl)
  obtain ⟨a1, e1, p1⟩ := rd_int Tryd.underlying3 _ _ _ h1 wh1
  obtain ⟨n2, y2, h2, wh2⟩ := rd_field' (T := 3) (off := 2) (k := 1) Tryd.underlying50 h hw (i := 2) rfl rfl rfl (by kernel_rfl)
  obtain ⟨a2, e2, p2⟩ := rd_int Tryd.underlying3 _ _ _ h2 wh2
  obtain ⟨n3, y3, h3, wh3⟩ := rd_field' (T := 9) (off := 3) (k := 1) Tryd.underlying50 h hw (i := 3) rfl rfl rfl (by kernel_rfl)
  obtain ⟨a3, e3, p3⟩ := rd_string Tryd.underlying9 _ _ _ h3 wh3
  obtain ⟨n4, y4, h4, wh4⟩ := rd_field' (T := 3) (off := 4) (k := 1) Tryd.underlying50 h hw (i := 4) rfl rfl rfl (by kernel_rfl)
  obtain ⟨a4, e4, p4⟩ := rd_int Tryd.underlying3 _ _ _ h4 wh4
  obtain ⟨n5, y5, h5, wh5⟩ := rd_field' (T := 3) (off := 5) (k := 1) Tryd.underlying50 h hw (i := 5) rfl rfl rfl (by kernel_rfl)
  obtain ⟨a5, e5, p5⟩ := rd_int Tryd.underlying3 _ _ _ h5 wh5
  clear h hw h0 h1 h2 h3 h4 h5 wh0 wh1 wh2 wh3 wh4 wh5
  match cs, hl with
  | [u0, u1, u2, u3, u4, u5], _ =>
    have e0' : [u0] = _ := e0
    have e1' : [u1] = _ := e1
    have e2' : [u2] = _ := e2
    have e3' : [u3] = _ := e3
    have e4' : [u4] = _ := e4
    have e5' : [u5] = _ := e5
    clear e0
    clear e1
    clear e2
    clear e3
    clear e4
    clear e5
    simp only [List.cons.injEq, and_true] at e0' e1' e2' e3' e4' e5'
    subst e0' e1' e2' e3' e4' e5'
    exact ⟨⟨a0, a1, a2, a3, a4, a5⟩, rfl, p0, p3, by simp [Lit.wf] at p2; show a2 ≤ 9223372036854775807; omega⟩

theorem rd_rev (w : World) (spare : Nat → Bool) (held : Bool) : Rd enc Tryd.prog w spare held 33 Rev.cells (fun x => x.path.size ≤ 1048576 ∧ x.frm.size ≤ 1048576) := by
  intro n cs y h hw
  have hl : cs.length = 12 := (rd_len Tryd.underlying33 h).trans (by kernel_rfl)
  obtain ⟨n0, y0, h0, wh0⟩ := rd_field' (T := 9) (off := 0) (k := 1) Tryd.underlying33 h hw (i := 0) rfl rfl rfl (by kernel_rfl)
  obtain ⟨a0, e0, p0⟩ := rd_string Tryd.underlying9 _ _ _ h0 wh0
  obtain ⟨n1, y1, h1, wh1⟩ := rd_field' (T := 3) (off := 1) (k := 1) Tryd.underlying33 h hw (i := 1) rfl rfl rfl (by kernel_rfl)
  obtain ⟨a1, e1, p1⟩ := rd_int Tryd.underlying3 _ _ _ h1 wh1
  obtain ⟨n2, y2, h2, wh2⟩ := rd_field' (T := 3) (off := 2) (k := 1) Tryd.underlying33 h hw (i := 2) rfl rfl rfl (by kernel_rfl)
  obtain ⟨a2, e2, p2⟩ := rd_int Tryd.underlying3 _ _ _ h2 wh2
  obtain ⟨n3, y3, h3, wh3⟩ := rd_field' (T := 3) (off := 3) (k := 1) Tryd.underlying33 h hw (i := 3) rfl rfl rfl (by kernel_rfl)
  obtain ⟨a3, e3, p3⟩ := rd_int Tryd.underlying3 _ _ _ h3 wh3
  obtain ⟨n4, y4, h4, wh4⟩ := rd_field' (T := 28) (off := 4) (k := 4) Tryd.underlying33 h hw (i := 4) rfl rfl rfl (by kernel_rfl)
  obtain ⟨a4, e4, p4⟩ := rd_ty w spare held _ _ _ h4 wh4
  obtain ⟨n5, y5, h5, wh5⟩ := rd_field' (T := 31) (off := 8) (k := 2) Tryd.underlying33 h hw (i := 5) rfl rfl rfl (by kernel_rfl)
  obtain ⟨a5, e5, p5⟩ := rd_con w spare held _ _ _ h5 wh5
  obtain ⟨n6, y6, h6, wh6⟩ := rd_field' (T := 9) (off := 10) (k := 1) Tryd.underlying33 h hw (i := 6) rfl rfl rfl (by kernel_rfl)
  obtain ⟨a6, e6, p6⟩ := rd_string Tryd.underlying9 _ _ _ h6 wh6
  obtain ⟨n7, y7, h7, wh7⟩ := rd_field' (T := 3) (off := 11) (k := 1) Tryd.underlying33 h hw (i := 7) rfl rfl rfl (by kernel_rfl)
  obtain ⟨a7, e7, p7⟩ := rd_int Tryd.underlying3 _ _ _ h7 wh7
  clear h hw h0 h1 h2 h3 h4 h5 h6 h7 wh0 wh1 wh2 wh3 wh4 wh5 wh6 wh7
  match cs, hl with
  | [u0, u1, u2, u3, u4, u5, u6, u7, u8, u9, u10, u11], _ =>
    have e0' : [u0] = _ := e0
    have e1' : [u1] = _ := e1
    have e2' : [u2] = _ := e2
    have e3' : [u3] = _ := e3
    have e4' : [u4, u5, u6, u7] = _ := e4
    have e5' : [u8, u9] = _ := e5
    have e6' : [u10] = _ := e6
    have e7' : [u11] = _ := e7
    clear e0
    clear e1
    clear e2
    clear e3
    clear e4
    clear e5
    clear e6
    clear e7
    simp only [Ty.cells, List.cons.injEq, and_true] at e0' e1' e2' e3' e4' e5' e6' e7'
    obtain ⟨b0, b1, b2, b3⟩ := e4'
    obtain ⟨b4, b5⟩ := e5'
    subst e0' e1' e2' e3' b0 b1 b2 b3 b4 b5 e6' e7'
    exact ⟨⟨a0, a1, a2, a3, a4, a5.1, a5.2, a6, a7⟩, rfl, p0, p6⟩

/-- What the reading of a depot gives. -/
def DepRd (w : World) (x : Dep × Value × Value) : Prop := Revs w x.2.1 x.1.revs ∧ Rcds w x.2.2 x.1.recs ∧ (∃ A c, x.2.1 = .slice A x.1.revs.length c) ∧ (∃ A c, x.2.2 = .slice A x.1.recs.length c) ∧
  (∀ r ∈ x.1.revs, r.path.size ≤ 1048576 ∧ r.frm.size ≤ 1048576) ∧ ∀ r ∈ x.1.recs, r.frm.size ≤ 1048576 ∧ r.to.size ≤ 1048576 ∧ r.last ≤ 9223372036854775807
theorem rd_dep (w : World) (spare : Nat → Bool) (held : Bool) : Rd enc Tryd.prog w spare held 25 (fun x : Dep × Value × Value => [x.2.1, x.2.2]) (DepRd w) := by
  intro n cs y h hw
  have hl : cs.length = 2 := (rd_len Tryd.underlying25 h).trans (by kernel_rfl)
  obtain ⟨n0, y0, h0, wh0⟩ := rd_field' (T := 22) (off := 0) (k := 1) Tryd.underlying25 h hw (i := 0) rfl rfl rfl (by kernel_rfl)
  obtain ⟨v0, es, e0, -, s0, r0, p0⟩ := rd_slice (k := 12) (fun _ => rfl) (by decide) Tryd.underlying22 (by kernel_rfl) (rd_rev w spare held) _ _ _ h0 wh0
  obtain ⟨n1, y1, h1, wh1⟩ := rd_field' (T := 23) (off := 1) (k := 1) Tryd.underlying25 h hw (i := 1) rfl rfl rfl (by kernel_rfl)
  obtain ⟨v1, rs, e1, -, s1, r1, p1⟩ := rd_slice (k := 6) (fun _ => rfl) (by decide) Tryd.underlying23 (by kernel_rfl) (rd_rcd w spare held) _ _ _ h1 wh1
  clear h hw h0 h1 wh0 wh1
  match cs, hl with
  | [u0, u1], _ =>
    have e0' : [u0] = _ := e0
    have e1' : [u1] = _ := e1
    clear e0 e1
    simp only [List.cons.injEq, and_true] at e0' e1'
    subst e0' e1'
    exact ⟨(⟨es, rs⟩, u0, u1), rfl, r0, r1, s0, s1, p0, p1⟩
set_option maxRecDepth 100000 in
theorem dep_arg {w : World} {r : Reach} {b0 : Nat} {spare : Nat → Bool} {held : Bool} {v : Value} {d : DataW H} {p : List MemPlace} (hv : Value.okWide Tryd.prog w r b0 25 v) (h : DataW.Trod enc Tryd.prog w 0 spare held 25 v d p) (hw : Wt Tryd.prog 25 d) :
    ∃ (D : Dep) (Ar Aq : Option Addr) (cr cq : Nat), v = .agg #[.slice Ar D.revs.length cr, .slice Aq D.recs.length cq] ∧ DepRd w (D, .slice Ar D.revs.length cr, .slice Aq D.recs.length cq) := by
  obtain ⟨cs, rfl, -⟩ := okWide_struct Tryd.underlying25 hv
  obtain ⟨m, hm⟩ := h
  obtain ⟨⟨D, rv, qv⟩, e, hr⟩ := rd_dep w spare held _ _ _ hm hw
  obtain ⟨Ar, cr, he⟩ := hr.2.2.1
  obtain ⟨Aq, cq, hc⟩ := hr.2.2.2.1
  change rv = .slice Ar D.revs.length cr at he
  change qv = .slice Aq D.recs.length cq at hc
  subst he hc
  refine ⟨D, Ar, Aq, cr, cq, ?_, hr⟩
  have e' : cs.toList = [.slice Ar D.revs.length cr, .slice Aq D.recs.length cq] := e
  cases cs
  simp only at e'
  rw [e']
end
end Go.Proofs.YtnblfaagchflaaaDoor.upto
