/- Fill: the bytes of the one file of a tree. -/
import Derived.Test.YteolonjmgojoeaaGreatDoorMzWsK
import Derived.Test.YteolonjmgojoeaaGreatDoorMgw4
import Derived.Test.YteolonjmgojoeaaGreatDoorMzWsQ
namespace Go.Proofs.YteolonjmgojoeaaGreatDoor
open Go.RowKit
open Go.Sort (grow)
set_option linter.unusedVariables false
set_option linter.unusedSimpArgs false

/-- The state of Fill's loop. -/
structure FiSt (w wr : World) (r bp ba g : Nat) (f : WF) (bv : Value) (s z : Int) (left : List (ByteArray × Value)) : Prop where
  rng : Ranging Value.string wr r bp left
  kept : Kept [ba, g] w wr
  file : IsFile wr g f bv
  box : Blk wr w.heap.size 42 [.int .u64 s, .int .i64 z]
  far : w.heap.size < r
theorem FiSt.under {w wr X : World} {r bp ba g : Nat} {f : WF} {bv : Value} {s z : Int} {left : List (ByteArray × Value)} (h : FiSt w wr r bp ba g f bv s z left) (hX : Below wr.heap.size wr X) : FiSt w X r bp ba g f bv s z left :=
  ⟨h.rng.below hX, h.kept.trans (Kept.below hX), h.file.under hX, h.box.below hX h.box.lt, h.far⟩
theorem FiSt.step {w wr X : World} {r bp ba g : Nat} {f : WF} {bv : Value} {s z : Int} {left left' : List (ByteArray × Value)} (h : FiSt w wr r bp ba g f bv s z left) (hr : Ranging Value.string X r bp left') (hg : wr.grownBy X (some r)) (hgl : g < w.heap.size) : FiSt w X r bp ba g f bv s z left' := by
  have hf := h.far
  exact ⟨hr, ⟨hg.os.trans h.kept.os, hg.tape.trans h.kept.tape, hg.output.trans h.kept.output, Nat.le_trans h.kept.size hg.size, fun k hk hs => (hg.block k (Nat.lt_of_lt_of_le hk h.kept.size) (by intro e; injection e with e; omega)).trans (h.kept.block k hk hs)⟩,
    Blk.grown h.file hg (by intro e; injection e with e; omega), Blk.grown h.box hg (by intro e; injection e with e; omega), hf⟩
/-- The file is full from now on. -/
theorem FiSt.put {w wr : World} {r bp ba g : Nat} {f : WF} {bv v : Value} {s z : Int} {left : List (ByteArray × Value)} {l : List UInt8} (h : FiSt w wr r bp ba g f bv s z left) (hgl : g < w.heap.size) (hgb : g ≠ bp) (hv : wr.ownsRow w.heap.size 5 1 v l.length (u8Cells l)) :
    FiSt w ((wr.setCell ⟨g, 13, none⟩ (.int .i64 2)).setCell ⟨g, 14, none⟩ v) r bp ba g { f with st := 2 } v s z left ∧ Bytes ((wr.setCell ⟨g, 13, none⟩ (.int .i64 2)).setCell ⟨g, 14, none⟩ v) v l := by
  have hf := h.far
  have s1 : IsFile (wr.setCell ⟨g, 13, none⟩ (.int .i64 2)) g { f with st := 2 } bv := Blk.set_ h.file 13 _
  have s2 : IsFile ((wr.setCell ⟨g, 13, none⟩ (.int .i64 2)).setCell ⟨g, 14, none⟩ v) g { f with st := 2 } v := Blk.set_ s1 14 _
  have g2 := (grown_set wr g 13 (.int .i64 2)).trans (grown_set (wr.setCell ⟨g, 13, none⟩ (.int .i64 2)) g 14 v)
  have ho : v.ownBlock ≠ some g := fun e => by have := (hv.lt g e).1; omega
  exact ⟨⟨h.rng.keep (g2.block bp h.rng.lt.2 (by intro e; injection e with e; omega)) (g2.block r h.rng.lt.1 (by intro e; injection e with e; omega)), h.kept.trans (Kept.grown g2 (by simp)), s2, Blk.grown h.box g2 (by intro e; injection e with e; omega), hf⟩,
    Row.of_own (own_setCell (own_setCell hv (p := ⟨g, 13, none⟩) ho _) (p := ⟨g, 14, none⟩) ho _)⟩
theorem ranging_nil {P : Program} {w : World} {r B : Nat} (h : Ranging Value.string w r B []) (ty : TypeId) : (Instr.next (.pointer (some ⟨r, 0, none⟩)) false ty).run P w = .ok (.tuple #[.bool false]) w := by
  rcases h.next (P := P) ty with ⟨-, h⟩ | ⟨a, p, b, w', h1, -⟩
  · exact h
  · exact absurd h1 (by simp)
theorem ranging_one {P : Program} {w : World} {r B : Nat} {q : ByteArray × Value} (h : Ranging Value.string w r B [q]) (ty : TypeId) :
    ∃ w', (Instr.next (.pointer (some ⟨r, 0, none⟩)) false ty).run P w = .ok (.tuple #[.bool true, .string q.1, q.2]) w' ∧ Ranging Value.string w' r B [] ∧ (Instr.entry (.pointer (some ⟨r, 0, none⟩))).run P w' = .ok (.tuple #[.string q.1, q.2]) w' ∧ w.grownBy w' (some r) := by
  rcases h.next (P := P) ty with ⟨h, -⟩ | ⟨a, p, b, w', h1, h2, h3, h4, h5, -⟩
  · cases h
  · have : a = [] ∧ p = q ∧ b = [] := by
      cases a with
      | nil => rw [List.nil_append] at h1; injection h1 with e1 e2; exact ⟨rfl, e1.symm, e2.symm⟩
      | cons x a => rw [List.cons_append] at h1; injection h1 with e1 e2; exact absurd e2 (by simp)
    obtain ⟨rfl, rfl, rfl⟩ := this
    exact ⟨w', h2, h3, h4, h5⟩
set_option maxRecDepth 100000 in
set_option maxHeartbeats 4000000 in
theorem fill_one (t bl bp bs ba g : Nat) (n s z : Int) (f : WF) (bv v : Value) (p : ByteArray) (b : List UInt8) (F4 : Cid → Option Unit) (w : World)
    (hT : IsTree w t n bl bp bs ba) (h2 : NMap Value.string ptrV w bp (upd (fun _ => none) p g)) (h4 : NMap cidV unitV w ba F4) (hF : IsFile w g f bv) (hbk : ∀ X, Kept [ba, g] w X → Bytes X v b) (hst : f.st = 1) (hsum : f.rev.sum = s) (hsz : f.rev.size = z)
    (hs : s = (fpSum b : Nat)) (hz : z = b.length) (hl : b.length ≤ 1000000) (hga : g ≠ ba) (hgt : g ≠ t) (hpa : bp ≠ ba) (hta : t ≠ ba) (hgb : g ≠ bp) :
    Calls Tryz.prog 11 #[.pointer (some ⟨t, 0, none⟩), .agg #[.int .u64 s, .int .i64 z], v] w
      fun e w' => e = .returned (.tuple #[.int .i64 1, .int .i64 0]) ∧ Kept [ba, g] w w' ∧ ∃ v', IsFile w' g { f with st := 2 } v' ∧ Bytes w' v' b := by
  have hb := hbk w (Kept.below (Below.refl _ _))
  have hA : Below w.heap.size w (w.alloc (.cells #[.int .u64 s, .int .i64 z] 42)) := (Below.refl _ _).alloc (Nat.le_refl _) _
  have hX := blk_new w [.int .u64 s, .int .i64 z] 42
  have HOF := Lib.hid (fun X (hX : Below w.heap.size w X) => fpOf_any b v X (hb.below hX) hl)
  rw [← hs, ← hz] at HOF
  have HCL := Lib.hid (fun X (hX : Kept [ba, g] w X) => sclone_own b v X (hbk X hX) hl)
  have hneq := fun W => run_neq_con s z s z W
  rw [show (!(decide (s = s) && decide (z = z))) = false by simp] at hneq
  have heql := fun W => run_eql_con s z s z W
  rw [show (decide (s = s) && decide (z = z)) = true by simp] at heql
  have HTR := Lib.hid hT
  have HFI := Lib.hid hF
  have H2 := Lib.hid h2
  have H4 := Lib.hid h4
  have HX := Lib.hid hX
  have HA := Lib.hid hA
  obtain ⟨A, c, rfl, -⟩ := id hb
  have x0 : (w.alloc (.cells #[.int .u64 s, .int .i64 z] 42)).cell? ⟨w.heap.size, 0, none⟩ = some (.int .u64 s) := hX.cell 0
  have x1 : (w.alloc (.cells #[.int .u64 s, .int .i64 z] 42)).cell? ⟨w.heap.size, 1, none⟩ = some (.int .i64 z) := hX.cell 1
  have m0 := cell_regrown x0
  have m1 := cell_regrown x1
  have cO : ∀ d os, Calls Tryz.prog 7 #[.slice A b.length c] (grow (redrawn (w.alloc (.cells #[.int .u64 s, .int .i64 z] 42)) d) os) fun e w'' => e = .returned (.agg #[.int .u64 s, .int .i64 z]) ∧ ∃ p : Regrown, w'' = grow (redrawn (w.alloc (.cells #[.int .u64 s, .int .i64 z] 42)) p.d) p.os := fun d os => Calls.regrown_of (by have hh := HOF.out (grow (redrawn (w.alloc (.cells #[.int .u64 s, .int .i64 z] 42)) d) os) (below_next HA.out (below_regrown _ d os)); exact hh)
  clear hT h2 h4 hF hb hbk hs hz hl hA hX
  go_enter Tryz.func11, Tryz.ntmps11
  go_wp2_with fail
  refine wp_region_quiet_below (by kernel_rfl) (by kernel_rfl) ?_
  repeat (first | go_big_quiet_step (exact cO _ _) | quiet_step (exact cO _ _))
  refine wpQuiet_nil ?_
  intro _ hw9
  obtain ⟨⟨dq, osq⟩, hw9⟩ := hw9
  subst hw9
  have HQ := Lib.hid (below_next HA.out (below_regrown (w.alloc (.cells #[.int .u64 s, .int .i64 z] 42)) dq osq))
  have HX5 := Lib.hid (HX.out.below (below_regrown (w.alloc (.cells #[.int .u64 s, .int .i64 z] 42)) dq osq) HX.out.lt)
  clear cO m0 m1 x0 x1 HX HA
  generalize grow (redrawn (w.alloc (.cells #[.int .u64 s, .int .i64 z] 42)) dq) osq = w5 at HQ HX5 ⊢
  obtain ⟨t0, t1, t2, t3, t4⟩ := IsTree.facts (HTR.out.under HQ.out)
  have x0 : w5.cell? ⟨w.heap.size, 0, none⟩ = some (.int .u64 s) := HX5.out.cell 0
  have x1 : w5.cell? ⟨w.heap.size, 1, none⟩ = some (.int .i64 z) := HX5.out.cell 1
  obtain ⟨w6, hdl, hM6, hg6, hs6⟩ := NMap.delete (w := w5.drew) (H4.out.below HQ.out.drew) keyOk_cid Tryz.underlying37 (s, z) 0
  have hdl' : (Builtin.delete_ #[37, 42] 0 #[.map (some ba), .agg #[.int .u64 s, .int .i64 z]]).run Tryz.prog w5.drew = .ok (.tuple #[]) w6 := hdl
  have HK6 := Lib.hid ((Kept.below (S := [ba, g]) HQ.out.drew).trans (Kept.grown hg6 (by simp)))
  have HX6 := Lib.hid (Blk.grown (w := w5.drew) HX5.out hg6 (by intro e; injection e with e; have := H4.out.lt; omega))
  have HT6 := Lib.hid (show IsTree w6 t n bl bp bs ba from Blk.grown (w := w5.drew) (HTR.out.under HQ.out.drew) hg6 (by intro e; injection e with e; exact hta e))
  have HF6 := Lib.hid (show IsFile w6 g f bv from Blk.grown (w := w5.drew) (HFI.out.under HQ.out.drew) hg6 (by intro e; injection e with e; exact hga e))
  have H26 : NMap Value.string ptrV w6 bp (upd (fun _ => none) p g) := (H2.out.below HQ.out.drew).keep (hg6.block bp (H2.out.below HQ.out.drew).lt (by intro e; injection e with e; exact hpa e))
  have HS6 := Lib.hid (show w.heap.size < w6.heap.size from Nat.lt_of_lt_of_le (show w.heap.size < w5.heap.size from HX5.out.lt) hg6.size)
  obtain ⟨w7, hrg, hR7, hb7, hs7⟩ := H26.single.range (P := Tryz.prog) Tryz.underlying35
  have HST := Lib.hid (⟨hR7, HK6.out.trans (Kept.below hb7), HF6.out.under hb7, HX6.out.below hb7 HX6.out.lt, HS6.out⟩ : FiSt w w7 w6.heap.size bp ba g f bv s z [(p, ptrV g)])
  obtain ⟨t60, t61, t62, t63, t64⟩ := IsTree.facts HT6.out
  clear hdl hg6 hM6 hs6 H26 hR7 hb7 hs7 HT6 HF6
  go_wp2_with fail
  go_still_tail 5, (by kernel_rfl)
  change wpList _ _ _ _ _ w5.drew
  go_wp2_with fail
  go_loopw [8] (fun v wr => (v = .int .i64 0 ∧ Hid (FiSt w wr w6.heap.size bp ba g f bv s z [(p, ptrV g)])) ∨ (v = .int .i64 1 ∧ ∃ v', Hid (FiSt w wr w6.heap.size bp ba g { f with st := 2 } v' s z [] ∧ Bytes wr v' b))) (fun v _ => 1 - (intOf v).toNat)
  case atStart => exact .inl ⟨rfl, HST⟩
  case round =>
    clear HST
    rcases hrel with ⟨rfl, HI⟩ | ⟨rfl, v', HI⟩
    · obtain ⟨w8, hnx, hR8, hen, hg8⟩ := ranging_one (P := Tryz.prog) HI.out.rng 0
      unfold ptrV at hnx hen
      have hnx' : (Instr.next (.pointer (some ⟨w6.heap.size, 0, none⟩)) false 0).run Tryz.prog wr = .ok (.tuple #[.bool true, .string p, .pointer (some ⟨g, 0, none⟩)]) w8 := hnx
      have hen' : (Instr.entry (.pointer (some ⟨w6.heap.size, 0, none⟩))).run Tryz.prog w8 = .ok (.tuple #[.string p, .pointer (some ⟨g, 0, none⟩)]) w8 := hen
      clear hnx hen
      have HI8 := Lib.hid (HI.out.step hR8 hg8 HFI.out.lt)
      clear hR8 hg8
      obtain ⟨c0, c1, c2, c9, c10, c13, c14⟩ := IsFile.facts HI8.out.file
      rw [hst] at c13
      rw [hsum] at c9
      rw [hsz] at c10
      have x0 : w8.cell? ⟨w.heap.size, 0, none⟩ = some (.int .u64 s) := HI8.out.box.cell 0
      have x1 : w8.cell? ⟨w.heap.size, 1, none⟩ = some (.int .i64 z) := HI8.out.box.cell 1
      have m9 := cell_regrown c9
      have m10 := cell_regrown c10
      have m13 := cell_regrown c13
      have y0 := cell_regrown x0
      have y1 := cell_regrown x1
      go_wp2_with fail
      refine wp_region_quiet_below (by kernel_rfl) (by kernel_rfl) ?_
      repeat (first | go_big_quiet_step (fail) | quiet_step (fail))
      refine wpQuiet_nil ?_
      intro _ hw9
      obtain ⟨⟨dq2, osq2⟩, hw9⟩ := hw9
      subst hw9
      have HI9 := Lib.hid (HI8.out.under (below_regrown w8 dq2 osq2))
      clear m9 m10 m13 y0 y1 x0 x1 c0 c1 c2 c9 c10 c13 c14
      generalize grow (redrawn w8 dq2) osq2 = w9 at HI9 ⊢
      have HC9 := Lib.hid (HCL.out w9 HI9.out.kept)
      go_wp2_with fail
      refine HC9.out.mono ?_
      rintro e w10 ⟨v', rfl, hv, hb10⟩
      obtain ⟨Av, cv, rfl⟩ := own_slice hv
      have HI10 := Lib.hid (HI9.out.under hb10)
      have HV10 := Lib.hid (own_mono hv HI9.out.kept.size)
      have HP10 := Lib.hid (HI10.out.put HFI.out.lt hgb HV10.out)
      have z1 := Blk.frozen HI10.out.file 13
      have z2 := Blk.frozen (Blk.set_ HI10.out.file 13 (.int .i64 2)) 14
      have e13 : w10.cell? ⟨g, 13, none⟩ = some (.int .i64 f.st) := Blk.cell HI10.out.file 13
      have e14 : (w10.setCell ⟨g, 13, none⟩ (.int .i64 2)).cell? ⟨g, 14, none⟩ = some bv := Blk.cell (Blk.set_ HI10.out.file 13 (.int .i64 2)) 14
      have e14b : w10.cell? ⟨g, 14, none⟩ = some bv := Blk.cell HI10.out.file 14
      clear hv hb10
      go_wp2_with fail
      exact ⟨.inr ⟨rfl, _, HP10⟩, by simp [intOf]⟩
    · have hnx := ranging_nil (P := Tryz.prog) HI.out.1.rng 0
      go_wp2_with fail
      go_ret2
      exact ⟨rfl, HI.out.1.kept, v', HI.out.1.file, HI.out.2⟩
end Go.Proofs.YteolonjmgojoeaaGreatDoor
