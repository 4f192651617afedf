/- Revisions, edits and records in memory; the examination's struct. -/
import Derived.Test.YteolonjmgojoeaaGreatDoorMzCmpR
import Derived.Deep.MidRow
namespace Go.Proofs.YteolonjmgojoeaaGreatDoor
open Go.RowKit
set_option linter.unusedVariables false
set_option linter.unusedSimpArgs false

theorem flat_len {α : Type} (f : α → List Value) (n : Nat) (hf : ∀ x, (f x).length = n) (l : List α) : (l.flatMap f).length = l.length * n := by
  induction l with
  | nil => simp
  | cons x l ih => simp only [List.flatMap_cons, List.length_append, ih, hf, List.length_cons, Nat.succ_mul]; omega
theorem flat_get {α : Type} (f : α → List Value) (n : Nat) (hf : ∀ x, (f x).length = n) (l : List α) (k j : Nat) (hk : k < l.length) (hj : j < n) : (l.flatMap f)[k * n + j]? = (f l[k])[j]? := by
  induction l generalizing k with
  | nil => simp at hk
  | cons x l ih =>
    simp only [List.flatMap_cons]
    cases k with
    | zero => rw [List.getElem?_append_left (by rw [hf]; omega)]; simp
    | succ k =>
      rw [List.getElem?_append_right (by rw [hf, Nat.succ_mul]; omega), hf, show (k + 1) * n + j - n = k * n + j by rw [Nat.succ_mul]; omega]
      simpa using ih k (by simpa using hk)

def Revs (w : World) (v : Value) (l : List Rev) : Prop := Row w 12 v l.length (l.flatMap Rev.cells)
def Edts (w : World) (v : Value) (l : List Edt) : Prop := Row w 12 v l.length (l.flatMap Edt.cells)
def Rcds (w : World) (v : Value) (l : List Rcd) : Prop := Row w 6 v l.length (l.flatMap Rcd.cells)
section
variable {w w' : World} {v : Value}
theorem Revs.below {l : List Rev} (h : Revs w v l) (hb : Below w.heap.size w w') : Revs w' v l := Row.below h hb
theorem Edts.below {l : List Edt} (h : Edts w v l) (hb : Below w.heap.size w w') : Edts w' v l := Row.below h hb
theorem Rcds.below {l : List Rcd} (h : Rcds w v l) (hb : Below w.heap.size w w') : Rcds w' v l := Row.below h hb
theorem Revs.keep {l : List Rev} (h : Revs w v l) (hs : w.heap.size ≤ w'.heap.size) (hk : ∀ p : Addr, p.block < w.heap.size → w'.cell? p = w.cell? p) : Revs w' v l := Row.keep h hs hk
theorem Revs.nil_ (w : World) : Revs w (.slice none 0 0) [] := Row.nil_ w 12
theorem Rcds.nil_ (w : World) : Rcds w (.slice none 0 0) [] := Row.nil_ w 6
end
/-- The k-th element's cells. -/
theorem row_at {α : Type} {f : α → List Value} {n : Nat} (hf : ∀ x, (f x).length = n) {w : World} {A : Option Addr} {c : Nat} {l : List α} (h : Row w n (.slice A l.length c) l.length (l.flatMap f)) {k : Nat} (hk : k < l.length) :
    ∃ ad, A = some ad ∧ ad.block < w.heap.size ∧ ∀ j v, (f l[k])[j]? = some v → w.cell? (if j = 0 then ad.add (k * n) else ⟨(ad.add (k * n)).block, (ad.add (k * n)).off + j, none⟩) = some v := by
  obtain ⟨ad, e, hb, hc⟩ := Row.at_ h hk
  refine ⟨ad, e, hb, fun j v hv => ?_⟩
  have hj : j < n := by rw [← hf l[k]]; exact (List.getElem?_eq_some_iff.1 hv).1
  have := hc j v (by rw [flat_get f n hf l k j hk hj]; exact hv)
  cases j with
  | zero => simpa using this
  | succ j => rw [if_neg (by omega), add_lit_, add_add']; exact this
def RevAt (w : World) (a : Addr) (x : Rev) : Prop := w.cell? a = some (.string x.path) ∧ w.cell? ⟨a.block, a.off + 1, none⟩ = some (.int .i64 x.num) ∧ w.cell? ⟨a.block, a.off + 2, none⟩ = some (.int .i64 x.chg) ∧ w.cell? ⟨a.block, a.off + 3, none⟩ = some (.int .i64 x.act) ∧ w.cell? ⟨a.block, a.off + 4, none⟩ = some (.int .i64 x.ty.base) ∧ w.cell? ⟨a.block, a.off + 5, none⟩ = some (.bool x.ty.k) ∧ w.cell? ⟨a.block, a.off + 6, none⟩ = some (.bool x.ty.l) ∧ w.cell? ⟨a.block, a.off + 7, none⟩ = some (.bool x.ty.x) ∧ w.cell? ⟨a.block, a.off + 8, none⟩ = some (.int .u64 x.sum) ∧ w.cell? ⟨a.block, a.off + 9, none⟩ = some (.int .i64 x.size) ∧ w.cell? ⟨a.block, a.off + 10, none⟩ = some (.string x.frm) ∧ w.cell? ⟨a.block, a.off + 11, none⟩ = some (.int .i64 x.fnum)
theorem Revs.at_ {w : World} {A : Option Addr} {c : Nat} {l : List Rev} (h : Revs w (.slice A l.length c) l) {k : Nat} (hk : k < l.length) :
    ∃ ad, A = some ad ∧ ad.block < w.heap.size ∧ RevAt w (ad.add (k * 12)) l[k] := by
  obtain ⟨ad, e, hb, hc⟩ := row_at (f := Rev.cells) (n := 12) (fun _ => rfl) h hk
  exact ⟨ad, e, hb, hc 0 _ rfl, hc 1 _ rfl, hc 2 _ rfl, hc 3 _ rfl, hc 4 _ rfl, hc 5 _ rfl, hc 6 _ rfl, hc 7 _ rfl, hc 8 _ rfl, hc 9 _ rfl, hc 10 _ rfl, hc 11 _ rfl⟩
def EdtAt (w : World) (a : Addr) (x : Edt) : Prop := w.cell? a = some (.string x.path) ∧ w.cell? ⟨a.block, a.off + 1, none⟩ = some (.int .i64 x.act) ∧ w.cell? ⟨a.block, a.off + 2, none⟩ = some (.int .i64 x.ty.base) ∧ w.cell? ⟨a.block, a.off + 3, none⟩ = some (.bool x.ty.k) ∧ w.cell? ⟨a.block, a.off + 4, none⟩ = some (.bool x.ty.l) ∧ w.cell? ⟨a.block, a.off + 5, none⟩ = some (.bool x.ty.x) ∧ w.cell? ⟨a.block, a.off + 6, none⟩ = some (.int .u64 x.sum) ∧ w.cell? ⟨a.block, a.off + 7, none⟩ = some (.int .i64 x.size) ∧ w.cell? ⟨a.block, a.off + 8, none⟩ = some (.int .i64 x.base) ∧ w.cell? ⟨a.block, a.off + 9, none⟩ = some (.string x.frm) ∧ w.cell? ⟨a.block, a.off + 10, none⟩ = some (.int .i64 x.fnum) ∧ w.cell? ⟨a.block, a.off + 11, none⟩ = some (.int .i64 x.fence)
theorem Edts.at_ {w : World} {A : Option Addr} {c : Nat} {l : List Edt} (h : Edts w (.slice A l.length c) l) {k : Nat} (hk : k < l.length) :
    ∃ ad, A = some ad ∧ ad.block < w.heap.size ∧ EdtAt w (ad.add (k * 12)) l[k] := by
  obtain ⟨ad, e, hb, hc⟩ := row_at (f := Edt.cells) (n := 12) (fun _ => rfl) h hk
  exact ⟨ad, e, hb, hc 0 _ rfl, hc 1 _ rfl, hc 2 _ rfl, hc 3 _ rfl, hc 4 _ rfl, hc 5 _ rfl, hc 6 _ rfl, hc 7 _ rfl, hc 8 _ rfl, hc 9 _ rfl, hc 10 _ rfl, hc 11 _ rfl⟩
def RcdAt (w : World) (a : Addr) (x : Rcd) : Prop := w.cell? a = some (.string x.frm) ∧ w.cell? ⟨a.block, a.off + 1, none⟩ = some (.int .i64 x.first) ∧ w.cell? ⟨a.block, a.off + 2, none⟩ = some (.int .i64 x.last) ∧ w.cell? ⟨a.block, a.off + 3, none⟩ = some (.string x.to) ∧ w.cell? ⟨a.block, a.off + 4, none⟩ = some (.int .i64 x.num) ∧ w.cell? ⟨a.block, a.off + 5, none⟩ = some (.int .i64 x.how)
theorem Rcds.at_ {w : World} {A : Option Addr} {c : Nat} {l : List Rcd} (h : Rcds w (.slice A l.length c) l) {k : Nat} (hk : k < l.length) :
    ∃ ad, A = some ad ∧ ad.block < w.heap.size ∧ RcdAt w (ad.add (k * 6)) l[k] := by
  obtain ⟨ad, e, hb, hc⟩ := row_at (f := Rcd.cells) (n := 6) (fun _ => rfl) h hk
  exact ⟨ad, e, hb, hc 0 _ rfl, hc 1 _ rfl, hc 2 _ rfl, hc 3 _ rfl, hc 4 _ rfl, hc 5 _ rfl⟩
/-- The struct of an examination, in block g. -/
def Chk (w : World) (g : Nat) (dv dr : Value) (n : Int) (cl tx : ByteArray) (ev rv : Value) (bl be bn : Nat) : Prop :=
  Blk w g 104 [dv, dr, .int .i64 n, .string cl, .string tx, ev, rv, .map (some bl), .map (some be), .map (some bn)]
theorem box10 {w : World} {g : Nat} {dv dr ev rv : Value} {n : Int} {cl tx : ByteArray} {bl be bn : Nat} (h : Chk w g dv dr n cl tx ev rv bl be bn) :
    w.cell? ⟨g, 0, none⟩ = some dv ∧ w.cell? ⟨g, 1, none⟩ = some dr ∧ w.cell? ⟨g, 2, none⟩ = some (.int .i64 n) ∧ w.cell? ⟨g, 5, none⟩ = some ev ∧ w.cell? ⟨g, 6, none⟩ = some rv ∧
    w.cell? ⟨g, 7, none⟩ = some (.map (some bl)) ∧ w.cell? ⟨g, 8, none⟩ = some (.map (some be)) ∧ w.cell? ⟨g, 9, none⟩ = some (.map (some bn)) :=
  ⟨Blk.cell h 0, Blk.cell h 1, Blk.cell h 2, Blk.cell h 5, Blk.cell h 6, Blk.cell h 7, Blk.cell h 8, Blk.cell h 9⟩

/-! size. -/
theorem sizeE_end {revs : List Rev} {c : Chg} (h1 : ¬ (c.edits.length = 0 ∨ 64 < c.edits.length ∨ 64 < c.recs.length)) (h2 : ¬ (c.num < 1 ∨ 1073741824 < c.num)) (h3 : ∀ r ∈ revs, r.chg < c.num) : sizeE revs c = 0 := by
  unfold sizeE
  rw [if_neg h1, if_neg h2, if_neg]
  intro h
  obtain ⟨r, hr, hd⟩ := List.any_eq_true.1 h
  have := h3 r hr
  simp at hd; omega
theorem sizeE_at {revs : List Rev} {c : Chg} {r : Rev} (h1 : ¬ (c.edits.length = 0 ∨ 64 < c.edits.length ∨ 64 < c.recs.length)) (h2 : ¬ (c.num < 1 ∨ 1073741824 < c.num)) (hr : r ∈ revs) (h3 : c.num ≤ r.chg) : sizeE revs c = 112 := by
  unfold sizeE
  rw [if_neg h1, if_neg h2, if_pos]
  exact List.any_eq_true.2 ⟨r, hr, by simpa using h3⟩

set_option maxRecDepth 100000 in
set_option maxHeartbeats 4000000 in
theorem size_any (revs : List Rev) (c : Chg) (g : Nat) (dv dr ev rv : Value) (bl be bn : Nat) (w : World) (hk : Chk w g dv dr c.num c.client c.text ev rv bl be bn) (hR : Revs w dv revs) (hE : Edts w ev c.edits) (hC : Rcds w rv c.recs) :
    Calls Tryz.prog 32 #[.pointer (some ⟨g, 0, none⟩)] w fun e w' => e = .returned (.int .i64 (sizeE revs c)) ∧ Below w.heap.size w w' := by
  obtain ⟨Ar, cr, rfl, hcr, hmr, -⟩ := id hR
  obtain ⟨Ae, ce, rfl, hce, hme, -⟩ := id hE
  obtain ⟨Ac, cc, rfl, hcc, hmc, -⟩ := id hC
  obtain ⟨k0, k1, k2, k5, k6, k7, k8, k9⟩ := box10 hk
  have HR := Lib.hid hR
  have HK := Lib.hid hk
  clear hR hE hC hk
  unfold maxLen at hmr hme hmc
  by_cases h1 : c.edits.length = 0 ∨ 64 < c.edits.length ∨ 64 < c.recs.length
  · have H : Hid (sizeE revs c = 110) := Lib.hid (by unfold sizeE; rw [if_pos h1])
    by_cases a1 : c.edits.length = 0
    · have q1 : ((c.edits.length : Int) == 0) = true := by rw [a1]; rfl
      clear h1 a1
      go_enter Tryz.func32, Tryz.ntmps32
      go_wp2_with fail
      go_quiet (fail)
      go_wp2_with fail
      go_ret
      exact ⟨ret_int H.out.symm, below_drewN (Below.refl _ _) _⟩
    · have q1 : ((c.edits.length : Int) == 0) = false := by rw [beq_eq_false_iff_ne]; omega
      by_cases a2 : 64 < c.edits.length
      · clear h1 a1
        go_enter Tryz.func32, Tryz.ntmps32
        go_wp2_with fail
        go_quiet (fail)
        go_wp2_with fail
        go_ret
        exact ⟨ret_int H.out.symm, below_drewN (Below.refl _ _) _⟩
      · have a3 : 64 < c.recs.length := by omega
        clear h1 a1
        go_enter Tryz.func32, Tryz.ntmps32
        go_wp2_with fail
        go_quiet (fail)
        go_wp2_with fail
        go_ret
        exact ⟨ret_int H.out.symm, below_drewN (Below.refl _ _) _⟩
  · have q1 : ((c.edits.length : Int) == 0) = false := by rw [beq_eq_false_iff_ne]; omega
    have a2 : ¬ 64 < c.edits.length := by omega
    have a3 : ¬ 64 < c.recs.length := by omega
    have H1 := Lib.hid h1
    clear h1
    by_cases h2 : c.num < 1 ∨ 1073741824 < c.num
    · have H : Hid (sizeE revs c = 112) := Lib.hid (by unfold sizeE; rw [if_neg H1.out, if_pos h2])
      by_cases b1 : c.num < 1
      · clear h2
        go_enter Tryz.func32, Tryz.ntmps32
        go_wp2_with fail
        go_quiet (fail)
        go_wp2_with fail
        go_ret
        exact ⟨ret_int H.out.symm, below_drewN (Below.refl _ _) _⟩
      · have b2 : 1073741824 < c.num := by omega
        clear h2
        go_enter Tryz.func32, Tryz.ntmps32
        go_wp2_with fail
        go_quiet (fail)
        go_wp2_with fail
        go_ret
        exact ⟨ret_int H.out.symm, below_drewN (Below.refl _ _) _⟩
    · have b1 : ¬ c.num < 1 := by omega
      have b2 : ¬ 1073741824 < c.num := by omega
      have H2 := Lib.hid h2
      clear h2
      go_enter Tryz.func32, Tryz.ntmps32
      go_wp2_with fail
      go_quiet (fail)
      go_wp2_with fail
      have hb0 : Below w.heap.size w (w.drewN nq) := below_drewN (Below.refl _ _) _
      generalize w.drewN nq = W at hb0 ⊢
      go_loopw [47] (fun i wr => ∃ k : Nat, k ≤ revs.length ∧ i = .int .i64 k ∧ (∀ r ∈ revs.take k, r.chg < c.num) ∧ Below w.heap.size w wr) (fun i _ => revs.length - (intOf i).toNat)
      case atStart => exact ⟨0, Nat.zero_le _, rfl, by simp, hb0⟩
      case round =>
        obtain ⟨k, hk, rfl, hall, hbl⟩ := hrel
        have HA := Lib.hid hall
        clear hall
        by_cases hlt : k < revs.length
        · obtain ⟨ad, rfl, hab, hld⟩ := Revs.at_ (HR.out.below hbl) hlt
          have hmem : revs[k] ∈ revs := List.getElem_mem _
          have htk : revs.take (k + 1) = revs.take k ++ [revs[k]] := List.take_succ_eq_append_getElem hlt
          have HT := Lib.hid htk
          clear htk
          generalize revs[k] = r at hld hmem HT
          obtain ⟨x0, x1, x2, x3, x4, x5, x6, x7, x8, x9, x10, x11⟩ := hld
          have hb2 := hbl.alloc hbl.size (.cells #[.string r.path, .int .i64 r.num, .int .i64 r.chg, .int .i64 r.act, .int .i64 r.ty.base, .bool r.ty.k, .bool r.ty.l, .bool r.ty.x, .int .u64 r.sum, .int .i64 r.size, .string r.frm, .int .i64 r.fnum] 74)
          by_cases hc : c.num ≤ r.chg
          · have H : Hid (sizeE revs c = 112) := Lib.hid (sizeE_at H1.out H2.out hmem hc)
            go_wp2_with fail
            go_ret
            exact ⟨ret_int H.out.symm, hb2⟩
          · go_wp2_with fail
            go_roundw
            case rel => exact ⟨k + 1, by omega, by go_num, by rw [HT.out]; intro x hx; rcases List.mem_append.1 hx with hx | hx
                                                              · exact HA.out x hx
                                                              · rw [List.mem_singleton.1 hx]; omega, hb2⟩
            case measure => simp [intOf]; omega
        · have H : Hid (sizeE revs c = 0) := Lib.hid (sizeE_end H1.out H2.out (by have := HA.out; rwa [List.take_of_length_le (by omega)] at this))
          go_wp2_with fail
          go_ret
          exact ⟨ret_int H.out.symm, hbl⟩
end Go.Proofs.YteolonjmgojoeaaGreatDoor
