/- The contract of keyword.Find. -/
import Derived.Test.YtajlckioogalbaaOccs
namespace Go.Proofs.Ytajlckioogalbaa
open Go.RowKit
attribute [local go_sem] Oper.semAt_some

theorem rangeInfo : (Try.prog.info? 41).map (fun i => (i.zero, i.size, i.bytes)) = some (some (.agg #[.int .i64 0, .int .i64 0]), 2, 16) := by kernel_rfl
theorem rangeElem : ElemOk Try.prog 37 41 2 16 := elemOk_of Try.underlying37 rangeInfo rfl (by decide)

def rangesOf (os : List Occ) : List (Nat × Nat) := os.map fun o => (o.1, o.2.1)

def FindP (b : List UInt8) (l : List ByteArray) (w : World) (e : Ending) (w' : World) : Prop :=
  (tabB (namedL l) = true → ∃ v, e = .returned (.tuple #[v, .int .i64 0]) ∧ Ranges w' v (rangesOf (occs (namesOf (namedL l)) b 0))) ∧
  (tabB (namedL l) = false → e = .returned (.tuple #[.slice none 0 0, .int .i64 100])) ∧ Below w.heap.size w w'

set_option maxHeartbeats 1000000 in
theorem find_any (b : List UInt8) (l : List ByteArray) (v1 v2 : Value) (w : World) (hb : Bytes w v1 b) (hn : Strs w v2 l) (hl : b.length ≤ 2000000) (hl2 : l.length ≤ 1000) (hsz : ∀ s ∈ l, s.size ≤ 100000) :
    Calls Try.prog 19 #[v1, v2] w (FindP b l w) := by
  have HB := Lib.hid hb
  have HN := Lib.hid hn
  obtain ⟨A1, c1, rfl, -⟩ := hb
  obtain ⟨A2, c2, rfl, -⟩ := hn
  obtain ⟨n, -⟩ : ∃ n : Nat, n = n := ⟨5, rfl⟩
  refine callsIn_wide.1 (callsIn_of_wp_marks (n := n) Try.func19 rfl trivial ?_ rfl)
  simp only [Try.ntmps19, List.size_toArray, List.length_cons, List.length_nil, Nat.reduceAdd, Nat.reduceSub, Array.replicate_succ, Array.replicate_zero, List.push_toArray, List.append_toArray, List.nil_append, List.cons_append]
  gi_wp2_with fail
  refine ⟨trivial, fun h => (by cases h), ?_⟩
  refine (callsIn_wide.2 (named_any l _ w HN.out hl2)).mono ?_
  rintro e w1 ⟨v3, rfl, hp3, hb1⟩
  have hlen3 : (namedL l).length ≤ 1000 := by unfold namedL; rw [List.length_map]; exact hl2
  have hsz3 : ∀ s ∈ namedL l, s.1.size ≤ 100000 ∧ s.2.size ≤ 100000 := by
    intro s hs
    unfold namedL at hs
    rw [List.mem_map] at hs
    obtain ⟨x, hx, rfl⟩ := hs
    exact ⟨hsz x hx, by simp [ByteArray.size]⟩
  have HT := Lib.hid (table_any (namedL l) v3 w1 hp3 hlen3 hsz3)
  clear hsz hsz3 hlen3
  gi_wp2_with fail
  refine ⟨trivial, fun h => (by cases h), ?_⟩
  refine (callsIn_wide.2 HT.out).mono ?_
  cases htab : tabB (namedL l)
  · rintro e w2 ⟨-, h2, hb2⟩
    obtain rfl := h2 htab
    clear h2
    gi_wp2
    refine ⟨_, results_tmp2 rfl _ _ _, ?_⟩
    exact ⟨(fun h => by rw [htab] at h; cases h), fun _ => rfl, hb1.trans (hb2.mono hb1.size)⟩
  · rintro e w2 ⟨h2, -, hb2⟩
    obtain ⟨B, rfl, hmap⟩ := h2 htab
    clear h2
    gi_wp2_with fail
    refine ⟨trivial, fun h => (by cases h), ?_⟩
    refine (callsIn_wide.2 (occurrences_any _ _ _ ⟨_, _, _, rfl⟩ ⟨_, rfl⟩)).mono ?_
    rintro e w3 ⟨rfl, rfl⟩
    gi_wp2_with fail
    obtain ⟨W0, hW0⟩ : ∃ W0, (((w2.alloc (.cells #[.slice none 0 0] 37)).alloc (.cells #[.slice A1 b.length c1] 22)).alloc (.cells #[.map (some B)] 56)) = W0 := ⟨_, rfl⟩
    have hsz0 : W0.heap.size = w2.heap.size + 3 := by rw [← hW0]; simp
    have hBox : Boxed W0 w2.heap.size 37 (.slice none 0 0) := by rw [← hW0]; exact ((Boxed.new w2 _ _).alloc _).alloc _
    have hc1 : W0.cell? ⟨w2.heap.size + 1, 0, none⟩ = some (.slice A1 b.length c1) := by
      rw [← hW0]
      have := ((Boxed.new (w2.alloc (.cells #[.slice none 0 0] 37)) 22 (.slice A1 b.length c1)).alloc (.cells #[.map (some B)] 56)).cell
      rwa [World.size_alloc] at this
    have hc2 : W0.cell? ⟨w2.heap.size + 2, 0, none⟩ = some (.map (some B)) := by
      rw [← hW0]
      have := (Boxed.new ((w2.alloc (.cells #[.slice none 0 0] 37)).alloc (.cells #[.slice A1 b.length c1] 22)) 56 (.map (some B))).cell
      rwa [World.size_alloc, World.size_alloc] at this
    have hb20 : Below w2.heap.size w2 W0 := by rw [← hW0]; exact (((Below.refl _ _).alloc (Nat.le_refl _) _).alloc (by simp) _).alloc (by simp; omega) _
    have hb02 : Below w.heap.size w w2 := hb1.trans (hb2.mono hb1.size)
    rw [hW0]
    clear hW0
    have hiter : IterX Try.prog 36 #[.pointer (some ⟨w2.heap.size + 1, 0, none⟩), .pointer (some ⟨w2.heap.size + 2, 0, none⟩)] encOcc (occs (namesOf (namedL l)) b 0) W0.heap.size (fun k => k = w2.heap.size) W0 := by
      refine occurrences1_iter (namedL l) b (.slice A1 b.length c1) W0.heap.size (w2.heap.size + 1) (w2.heap.size + 2) B (fun k => k = w2.heap.size) W0 (by omega) (fun V hV => ?_)
      have hbV : Below w2.heap.size w2 V := hb20.trans (hV.below (by omega) (fun k hk => by omega))
      refine ⟨?_, ?_, (HB.out.below hb02).below hbV, hmap.below hbV⟩
      · exact (World.cell?_of_block (hV.block _ (by simp; omega) (by simp))).trans hc1
      · exact (World.cell?_of_block (hV.block _ (by simp; omega) (by simp))).trans hc2
    refine wpIn_rangeX (A := Occ) (gf := 36) (lb := #[.pointer (some ⟨w2.heap.size + 1, 0, none⟩), .pointer (some ⟨w2.heap.size + 2, 0, none⟩)]) rfl (enters_of Try.func36 (by kernel_rfl) rfl) hiter (fun _ => rfl)
      (fun pre V => (∃ v, Boxed V w2.heap.size 37 v ∧ V.ownsRow W0.heap.size 41 2 v pre.length (rangeCells (rangesOf pre))) ∧ KeepN W0.heap.size (fun k => k = w2.heap.size) W0 V)
      ?hI ⟨⟨_, hBox, World.ownsRow_nil _ _ _ _⟩, KeepN.refl _ _ _⟩
      (fun x a' V => ∃ Bx, Blk V Bx 41 [.int .i64 (x.1 : Nat), .int .i64 (x.2.1 : Nat)] ∧ a' = { tmps := #[.slice A1 b.length c1, .slice A2 l.length c2, undef, undef, .slice none 0 0, .int .i64 0, .map (some B), .int .i64 0, .pointer (some ⟨w2.heap.size, 0, none⟩), .pointer (some ⟨Bx, 0, none⟩), .tuple #[.map (some B), .int .i64 0], .slice A2 l.length c2, v3, .tuple #[.map (some B), .int .i64 0], .map (some B), .int .i64 0, .int .i64 0, .bool false, undef, .slice A1 b.length c1, .map (some B), .func (.func 36) #[] #[.pointer (some ⟨w2.heap.size + 1, 0, none⟩), .pointer (some ⟨w2.heap.size + 1 + 1, 0, none⟩)], .agg #[.int .i64 (x.1 : Nat), .int .i64 (x.2.1 : Nat)], .string ⟨x.2.2.toArray⟩, undef, undef, undef, undef, undef], defers := [] })
      ?hAx ?assign ?body ?done
    case hI =>
      rintro pre V V' ⟨⟨v, hv, hr⟩, hk⟩ hg hl'
      exact ⟨⟨v, steady_boxed hv (by omega) hg, steady_row hr hg hl'⟩, steady_keep hk hk.size hg⟩
    case hAx =>
      rintro x a' _ V V' ⟨Bx, h1, h2⟩ hg hl'
      exact ⟨Bx, steady_blk h1 hg hl', h2⟩
    case assign =>
      rintro y pre x rest V K hxs ⟨⟨v, hv, hr⟩, hk⟩ hlt hK
      unfold encOcc
      gi_wp2
      exact hK _ _ ((KeepN.refl _ _ _).grown (World.grownBy_alloc _ _ none) (by omega) (fun k e => by cases e)) (Below.heap_alloc _ _ _ (by omega)) (Below.heap_alloc _ _ _ hlt)
        ⟨⟨v, hv.alloc _, hr.alloc _⟩, hk.grown (World.grownBy_alloc _ _ none) (by omega) (fun k e => by cases e)⟩ ⟨V.heap.size, blk_new _ _ _, rfl⟩
    case body =>
      rintro y pre x rest a' V hxs ⟨⟨v, hv, hr⟩, hk⟩ ⟨Bx, hbx, rfl⟩ hD ⟨r, hL⟩
      obtain ⟨A', c', rfl⟩ : ∃ A' c', v = .slice A' pre.length c' := by
        rcases hr.2 with ⟨e1, e2⟩ | ⟨g, cap, cur, e1, _⟩
        · exact ⟨none, 0, by rw [e1, e2]⟩
        · exact ⟨_, cap, e1⟩
      have hcv := hv.cell
      have hx0 := hbx.cell 0
      have hx1 := hbx.cell 1
      have hlen : pre.length < (occs (namesOf (namedL l)) b 0).length := by rw [hxs]; simp
      have hle := occs_length (namesOf (namedL l)) b 0
      have hV := hk.size
      clear hxs
      gi_wp2_with (gi_at_builtin; refine wpListIn_app rfl rfl rangeElem (hr.alloc _) rfl (row_new _ [.int .i64 (x.1 : Nat), .int .i64 (x.2.1 : Nat)] _ 2 1 rfl (by decide) _ rfl) rfl (by simp [Value.oneCell']) (by omega) (by unfold maxLen; omega) (by simp; omega) ?_; intro A5 c5 w5 hown1 hg1 _; obtain ⟨q1, q2, q3, q4, q5, q6⟩ := collect_step (X := fun k => k = w2.heap.size) hv (by omega) rfl hr (World.grownBy_alloc V _ none) hown1 hg1 hD hL; have hq1 := q1.cell; have hq2 := q1.frozen)
      refine ⟨q4, q5, q6, ⟨_, q2, ?_⟩, hk.trans q4⟩
      have e1 : rangeCells (rangesOf (pre ++ [x])) = rangeCells (rangesOf pre) ++ [.int .i64 (x.1 : Nat), .int .i64 (x.2.1 : Nat)] := by simp [rangeCells, rangesOf, List.flatMap_append]
      rw [e1, List.length_append]
      exact q3
    case done =>
      rintro V ⟨⟨v, hv, hr⟩, hk⟩ hD
      obtain ⟨A', c', rfl⟩ : ∃ A' c', v = .slice A' (occs (namesOf (namedL l)) b 0).length c' := by
        rcases hr.2 with ⟨e1, e2⟩ | ⟨g, cap, cur, e1, _⟩
        · exact ⟨none, 0, by rw [e1, e2]⟩
        · exact ⟨_, cap, e1⟩
      have hcv := hv.cell
      gi_wp2
      refine ⟨by simp, .inl ⟨_, _, rfl, run_takeDeferred hD, ?_⟩⟩
      refine ⟨_, results_tmp2 rfl _ _ _, ?_⟩
      have hr' := ownsRow_putObj hr (.deferred none) hD rfl
      have hb' : Below w.heap.size w (V.putObj W0.heap.size (.deferred none)) := by
        have h1 : Below w2.heap.size w2 V := hb20.trans (hk.below (by omega) (fun k hk => by omega))
        exact (hb02.trans (h1.mono hb02.size)).grown (grownBy_putObj' _ _ _) (by have := hk.size; have := hb02.size; omega) (fun k e => by injection e with e; have := hb02.size; omega)
      exact ⟨fun _ => ⟨_, rfl, by unfold Ranges; rw [show (rangesOf (occs (namesOf (namedL l)) b 0)).length = (occs (namesOf (namedL l)) b 0).length by simp [rangesOf]]; exact Row.of_own hr'⟩, (fun h => by rw [htab] at h; cases h), hb'⟩

end Go.Proofs.Ytajlckioogalbaa
