/- source. -/
import Derived.Test.YteolonjmgojoeaaGreatDoorMgw3
import Derived.Deep.DeepCutAuto
namespace Go.Proofs.YteolonjmgojoeaaGreatDoor
open Go.RowKit
set_option linter.unusedVariables false
set_option linter.unusedSimpArgs false

theorem run_eql_fil (a : ByteArray) (b : Int) (c : ByteArray) (d : Int) (W : World) : (binOp .eql 106 (.agg #[.string a, .int .i64 b]) (.agg #[.string c, .int .i64 d])).run Tryz.prog W = .ok (.bool (decide ((a, b) = (c, d)))) W := by
  rw [run_eql_struct, run_equalIn_agg W 9999 106 _ _ (by kernel_rfl) (by kernel_rfl)]
  simp [go_sem, Op.eqFields, toList_inj]
  by_cases h1 : a = c <;> by_cases h2 : b = d <;> simp [h1, h2]
theorem run_neq_fil (a : ByteArray) (b : Int) (c : ByteArray) (d : Int) (W : World) : (binOp .neq 106 (.agg #[.string a, .int .i64 b]) (.agg #[.string c, .int .i64 d])).run Tryz.prog W = .ok (.bool (!decide ((a, b) = (c, d)))) W := by
  rw [run_neq_struct, run_equalIn_agg W 9999 106 _ _ (by kernel_rfl) (by kernel_rfl)]
  simp [go_sem, Op.eqFields, toList_inj]
  by_cases h1 : a = c <;> by_cases h2 : b = d <;> simp [h1, h2]

theorem source_none {revs : List Rev} {x : Rcd} {t : Fil} (h : greatest revs x.frm (fun v => decide (v.num = x.last)) = none) : sourceR revs x t = none := by unfold sourceR; rw [h]
theorem source_bad {revs : List Rev} {x : Rcd} {t : Fil} (h : x.first < 1 ∨ x.last < x.first ∨ (revs.length : Int) ≤ x.last - x.first) : sourceR revs x t = none := by
  unfold sourceR; split
  · rfl
  · rw [if_pos h]
theorem source_noline {revs : List Rev} {x : Rcd} {t : Fil} (h : linesOf revs (x.frm, x.last) = none) : sourceR revs x t = none := by
  unfold sourceR; split
  · rfl
  · split
    · rfl
    · rw [h]
theorem source_rest {revs : List Rev} {x : Rcd} {t : Fil} {v : Rev} {line : Fil} (h1 : greatest revs x.frm (fun v => decide (v.num = x.last)) = some v) (h2 : ¬ (x.first < 1 ∨ x.last < x.first ∨ (revs.length : Int) ≤ x.last - x.first)) (h3 : linesOf revs (x.frm, x.last) = some line) :
    sourceR revs x t = if line = t then none else if (List.range (x.last - x.first).toNat).all (fun i => decide (linesOf revs (x.frm, x.first + i) = some line)) then some v else none := by
  unfold sourceR; rw [h1]
  show (if _ then none else _) = _
  rw [if_neg h2, h3]
theorem all_range_bad {m k : Nat} {p : Nat → Bool} (hk : k < m) (h : p k = false) : (List.range m).all p = false := by
  rw [List.all_eq_false]; exact ⟨k, List.mem_range.2 hk, by simp [h]⟩
theorem all_range_ok {m : Nat} {p : Nat → Bool} (h : ∀ k, k < m → p k = true) : (List.range m).all p = true := by
  rw [List.all_eq_true]; intro k hk; exact h k (List.mem_range.1 hk)
theorem lineR_some {f : Fil → Option Fil} {k a : Fil} (h : f k = some a) : lineR f k = a := by unfold lineR; rw [h]; rfl

set_option maxRecDepth 100000 in
set_option maxHeartbeats 8000000 in
theorem source_any (revs : List Rev) (x : Rcd) (t : Fil) (g : Nat) (dv dr ev rv : Value) (n : Int) (cl tx : ByteArray) (bl be bn : Nat) (w : World) (hk : Chk w g dv dr n cl tx ev rv bl be bn) (hR : Revs w dv revs) (hL : LineMap w bn (linesOf revs)) (hl : revs.length ≤ 1000000) (hw1 : x.last ≤ 9223372036854775807) :
    Calls Tryz.prog 84 #[.pointer (some ⟨g, 0, none⟩), .agg #[.string x.frm, .int .i64 x.first, .int .i64 x.last, .string x.to, .int .i64 x.num, .int .i64 x.how], .agg #[.string t.1, .int .i64 t.2]] w
      fun e w' => e = .returned (.tuple #[.agg #[.string (someR (sourceR revs x t)).path, .int .i64 (someR (sourceR revs x t)).num, .int .i64 (someR (sourceR revs x t)).chg, .int .i64 (someR (sourceR revs x t)).act, .int .i64 (someR (sourceR revs x t)).ty.base, .bool (someR (sourceR revs x t)).ty.k, .bool (someR (sourceR revs x t)).ty.l, .bool (someR (sourceR revs x t)).ty.x, .int .u64 (someR (sourceR revs x t)).sum, .int .i64 (someR (sourceR revs x t)).size, .string (someR (sourceR revs x t)).frm, .int .i64 (someR (sourceR revs x t)).fnum], .bool (sourceR revs x t).isSome]) ∧ Below w.heap.size w w' := by
  obtain ⟨Ar, cr, rfl, hcr, hmr, -⟩ := id hR
  obtain ⟨W, hW⟩ : ∃ W, W = ((w.alloc (.cells #[.string x.frm, .int .i64 x.first, .int .i64 x.last, .string x.to, .int .i64 x.num, .int .i64 x.how] 77)).alloc (.cells #[.string t.1, .int .i64 t.2] 106)).alloc (.cells #[.string ⟨#[]⟩, .int .i64 0, .int .i64 0, .int .i64 0, .int .i64 0, .bool false, .bool false, .bool false, .int .u64 0, .int .i64 0, .string ⟨#[]⟩, .int .i64 0] 74) := ⟨_, rfl⟩
  have hbW : Below w.heap.size w W := by rw [hW]; exact (((Below.refl _ _).alloc (Nat.le_refl _) _).alloc (by simp) _).alloc (by simp; omega) _
  have hX : Blk W w.heap.size 77 [.string x.frm, .int .i64 x.first, .int .i64 x.last, .string x.to, .int .i64 x.num, .int .i64 x.how] := by rw [hW]; exact ((blk_new w _ _).alloc _).alloc _
  have hT : Blk W (w.heap.size + 1) 106 [.string t.1, .int .i64 t.2] := by
    rw [hW]
    have := (blk_new (w.alloc (.cells #[.string x.frm, .int .i64 x.first, .int .i64 x.last, .string x.to, .int .i64 x.num, .int .i64 x.how] 77)) [.string t.1, .int .i64 t.2] 106).alloc (.cells #[.string ⟨#[]⟩, .int .i64 0, .int .i64 0, .int .i64 0, .int .i64 0, .bool false, .bool false, .bool false, .int .u64 0, .int .i64 0, .string ⟨#[]⟩, .int .i64 0] 74)
    simp only [World.size_alloc] at this
    exact this
  have hZ : Blk W (w.heap.size + 1 + 1) 74 [.string ⟨#[]⟩, .int .i64 0, .int .i64 0, .int .i64 0, .int .i64 0, .bool false, .bool false, .bool false, .int .u64 0, .int .i64 0, .string ⟨#[]⟩, .int .i64 0] := by
    rw [hW]
    have := blk_new ((w.alloc (.cells #[.string x.frm, .int .i64 x.first, .int .i64 x.last, .string x.to, .int .i64 x.num, .int .i64 x.how] 77)).alloc (.cells #[.string t.1, .int .i64 t.2] 106)) [.string ⟨#[]⟩, .int .i64 0, .int .i64 0, .int .i64 0, .int .i64 0, .bool false, .bool false, .bool false, .int .u64 0, .int .i64 0, .string ⟨#[]⟩, .int .i64 0] 74
    simp only [World.size_alloc] at this
    exact this
  have hK := Blk.below hk hbW (Blk.lt hk)
  have HRW := Lib.hid (hR.below hbW)
  have HLW := Lib.hid (FMap.below hL hbW)
  have HW := Lib.hid hW
  clear hW
  obtain ⟨k0, k1, -, -, -, -, -, k9⟩ := box10 hK
  obtain ⟨c0, c1, c2, c3, c4, c5⟩ := box6 hX
  have HC : Hid (∀ w', Below W.heap.size W w' → w'.cell? ⟨g, 0, none⟩ = some (.slice Ar revs.length cr) ∧ w'.cell? ⟨g, 1, none⟩ = some dr ∧ w'.cell? ⟨w.heap.size, 0, none⟩ = some (.string x.frm) ∧ w'.cell? ⟨w.heap.size, 2, none⟩ = some (.int .i64 x.last)) :=
    Lib.hid fun w' hb => ⟨cell_below k0 hb (cell_lt k0), cell_below k1 hb (cell_lt k1), cell_below c0 hb (cell_lt c0), cell_below c2 hb (cell_lt c2)⟩
  have hZZ : Blk (W.alloc (.cells #[.string ⟨#[]⟩, .int .i64 0, .int .i64 0, .int .i64 0, .int .i64 0, .bool false, .bool false, .bool false, .int .u64 0, .int .i64 0, .string ⟨#[]⟩, .int .i64 0] 74)).drew W.heap.size 74 [.string ⟨#[]⟩, .int .i64 0, .int .i64 0, .int .i64 0, .int .i64 0, .bool false, .bool false, .bool false, .int .u64 0, .int .i64 0, .string ⟨#[]⟩, .int .i64 0] := blk_new W [.string ⟨#[]⟩, .int .i64 0, .int .i64 0, .int .i64 0, .int .i64 0, .bool false, .bool false, .bool false, .int .u64 0, .int .i64 0, .string ⟨#[]⟩, .int .i64 0] 74
  have HG := Lib.hid (fun W' (h : Below W.heap.size W W') => (get_any revs x.frm x.last (.slice Ar revs.length cr) dr W' (HRW.out.below h) hl).mono (fun e w' (h2 : _ ∧ _) => (⟨h2.1, h.trans (h2.2.mono h.size), h2.2⟩ : _ ∧ Below W.heap.size W w' ∧ Below W'.heap.size W' w')))
  obtain ⟨o, ho⟩ : ∃ o, greatest revs x.frm (fun v => decide (v.num = x.last)) = o := ⟨_, rfl⟩
  obtain ⟨r, hr⟩ : ∃ r, someR o = r := ⟨_, rfl⟩
  obtain ⟨bo, hbo⟩ : ∃ b, o.isSome = b := ⟨_, rfl⟩
  rw [ho, hr, hbo] at HG
  have HO := Lib.hid ho
  have HR2 := Lib.hid hr
  have HBO := Lib.hid hbo
  clear ho hr hbo
  have hbz : ∀ w, (Instr.build 74 #[]).run Tryz.prog w = .ok (.agg #[.string ⟨#[]⟩, .int .i64 0, .int .i64 0, .int .i64 0, .int .i64 0, .bool false, .bool false, .bool false, .int .u64 0, .int .i64 0, .string ⟨#[]⟩, .int .i64 0]) w := fun w => by kernel_rfl
  go_enter Tryz.func84, Tryz.ntmps84
  go_upto_region 1 with fail
  rw [← HW.out]
  go_cut [8, 9] (fun s8 s9 wx => ∃ gb : Nat, s8 = .pointer (some ⟨gb, 0, none⟩) ∧ s9 = .bool bo ∧ Below W.heap.size W wx ∧ Blk wx gb 74 [.string r.path, .int .i64 r.num, .int .i64 r.chg, .int .i64 r.act, .int .i64 r.ty.base, .bool r.ty.k, .bool r.ty.l, .bool r.ty.x, .int .u64 r.sum, .int .i64 r.size, .string r.frm, .int .i64 r.fnum])
  case first =>
    go_region_held3 (fun w' => Below W.heap.size W w' ∧ w'.cell? ⟨g, 0, none⟩ = some (.slice Ar revs.length cr) ∧ w'.cell? ⟨g, 1, none⟩ = some dr ∧ w'.cell? ⟨w.heap.size, 0, none⟩ = some (.string x.frm) ∧ w'.cell? ⟨w.heap.size, 2, none⟩ = some (.int .i64 x.last))
      ((refine and_of ?_ (HC.out _); first | with_reducible exact (Below.refl _ _).drew | with_reducible assumption | with_reducible exact ((Below.refl _ _).alloc (Nat.le_refl _) _).drew | with_reducible exact hS5.alloc hS5.size _ | with_reducible exact below12 hS5 (Nat.le_refl _) r))
      (first
        | (go_at_call 50; (with_reducible refine (HG.out _ (Below.refl _ _).drew).mono ?_); rintro e w5 ⟨rfl, hS5, hb5⟩; have ordA : True := trivial)
        | (go_at_call 50; (with_reducible refine (HG.out _ ((Below.refl _ _).alloc (Nat.le_refl _) _).drew).mono ?_); rintro e w5 ⟨rfl, hS5, hb5⟩; have ordB : True := trivial; obtain ⟨y0, y1, y2, y3, y4, y5, y6, y7, y8, y9, y10, y11⟩ := frz12 (hZZ.below hb5 hZZ.lt); obtain ⟨z0, z1, z2, z3, z4, z5, z6, z7, z8, z9, z10, z11⟩ := box12 (hZZ.below hb5 hZZ.lt)))
    all_goals
      first
        | (clear ordA
           have hRR := blk_new w5 [.string r.path, .int .i64 r.num, .int .i64 r.chg, .int .i64 r.act, .int .i64 r.ty.base, .bool r.ty.k, .bool r.ty.l, .bool r.ty.x, .int .u64 r.sum, .int .i64 r.size, .string r.frm, .int .i64 r.fnum] 74
           have hbW5 := hS5.alloc hS5.size (.cells #[.string r.path, .int .i64 r.num, .int .i64 r.chg, .int .i64 r.act, .int .i64 r.ty.base, .bool r.ty.k, .bool r.ty.l, .bool r.ty.x, .int .u64 r.sum, .int .i64 r.size, .string r.frm, .int .i64 r.fnum] 74)
           go_wp2_with fail
           go_meet
           exact ⟨_, rfl, rfl, hbW5, hRR⟩)
        | (clear ordB
           have hRR := set12 (hZZ.below hb5 hZZ.lt) r
           have hbW5 := below12 hS5 (Nat.le_refl W.heap.size) r
           go_wp2_with fail
           go_meet
           exact ⟨_, rfl, rfl, hbW5, hRR⟩)
  case rest =>
    obtain ⟨gb, rfl, rfl, hbW5, hRR⟩ := hcut
    generalize wc = W2 at hbW5 hRR ⊢
    have hX2 := hX.below hbW5 hX.lt
    have hT2 := hT.below hbW5 hT.lt
    have hZ2 := hZ.below hbW5 hZ.lt
    have hK2 := Blk.below hK hbW5 (Blk.lt hK)
    have hL2 := FMap.below HLW.out hbW5
    have hb2 := below_next hbW hbW5
    clear c0 c1 c2 c3 c4 c5 k0 k1 k9 HC HG hZZ HRW hbW5
    obtain ⟨c0, c1, c2, c3, c4, c5⟩ := box6 hX2
    obtain ⟨k0, -, -, -, -, -, -, -⟩ := box10 hK2
    have hov : bo = true → o = some r := by
      intro h
      have h1 := HBO.out
      rw [h] at h1
      cases o with
      | none => cases h1
      | some v => exact congrArg some HR2.out
    have hon : bo = false → o = none := by
      intro h
      have h1 := HBO.out
      rw [h] at h1
      cases o with
      | none => rfl
      | some v => cases h1
    cases bo
    · have HN : Hid (sourceR revs x t = none) := Lib.hid (source_none (HO.out.trans (hon rfl)))
      clear hov hon
      go_wp2_with fail
      go_quiet (fail)
      clear c0 c1 c2 c3 c4 c5
      have hZ3 : Blk (W2.drewN nq) (w.heap.size + 1 + 1) 74 [.string ⟨#[]⟩, .int .i64 0, .int .i64 0, .int .i64 0, .int .i64 0, .bool false, .bool false, .bool false, .int .u64 0, .int .i64 0, .string ⟨#[]⟩, .int .i64 0] := hZ2
      have hb3 := below_drewN hb2 nq
      generalize W2.drewN nq = W3 at hZ3 hb3 ⊢
      obtain ⟨z0, z1, z2, z3, z4, z5, z6, z7, z8, z9, z10, z11⟩ := box12 hZ3
      obtain ⟨y0, y1, y2, y3, y4, y5, y6, y7, y8, y9, y10, y11⟩ := frz12 hZ3
      go_wp2_with fail
      have hZ9 : Blk ((((((((((((W3.setCell ⟨w.heap.size + 1 + 1, 0, none⟩ (.string ⟨#[]⟩)).setCell ⟨w.heap.size + 1 + 1, 1, none⟩ (.int .i64 0)).setCell ⟨w.heap.size + 1 + 1, 2, none⟩ (.int .i64 0)).setCell ⟨w.heap.size + 1 + 1, 3, none⟩ (.int .i64 0)).setCell ⟨w.heap.size + 1 + 1, 4, none⟩ (.int .i64 0)).setCell ⟨w.heap.size + 1 + 1, 5, none⟩ (.bool false)).setCell ⟨w.heap.size + 1 + 1, 6, none⟩ (.bool false)).setCell ⟨w.heap.size + 1 + 1, 7, none⟩ (.bool false)).setCell ⟨w.heap.size + 1 + 1, 8, none⟩ (.int .u64 0)).setCell ⟨w.heap.size + 1 + 1, 9, none⟩ (.int .i64 0)).setCell ⟨w.heap.size + 1 + 1, 10, none⟩ (.string ⟨#[]⟩)).setCell ⟨w.heap.size + 1 + 1, 11, none⟩ (.int .i64 0)) (w.heap.size + 1 + 1) 74 [.string ⟨#[]⟩, .int .i64 0, .int .i64 0, .int .i64 0, .int .i64 0, .bool false, .bool false, .bool false, .int .u64 0, .int .i64 0, .string ⟨#[]⟩, .int .i64 0] := set12 hZ3 zeroRev
      have hB9 : Below w.heap.size w ((((((((((((W3.setCell ⟨w.heap.size + 1 + 1, 0, none⟩ (.string ⟨#[]⟩)).setCell ⟨w.heap.size + 1 + 1, 1, none⟩ (.int .i64 0)).setCell ⟨w.heap.size + 1 + 1, 2, none⟩ (.int .i64 0)).setCell ⟨w.heap.size + 1 + 1, 3, none⟩ (.int .i64 0)).setCell ⟨w.heap.size + 1 + 1, 4, none⟩ (.int .i64 0)).setCell ⟨w.heap.size + 1 + 1, 5, none⟩ (.bool false)).setCell ⟨w.heap.size + 1 + 1, 6, none⟩ (.bool false)).setCell ⟨w.heap.size + 1 + 1, 7, none⟩ (.bool false)).setCell ⟨w.heap.size + 1 + 1, 8, none⟩ (.int .u64 0)).setCell ⟨w.heap.size + 1 + 1, 9, none⟩ (.int .i64 0)).setCell ⟨w.heap.size + 1 + 1, 10, none⟩ (.string ⟨#[]⟩)).setCell ⟨w.heap.size + 1 + 1, 11, none⟩ (.int .i64 0)) := below12 hb3 (show w.heap.size ≤ w.heap.size + 1 + 1 by omega) zeroRev
      generalize ((((((((((((W3.setCell ⟨w.heap.size + 1 + 1, 0, none⟩ (.string ⟨#[]⟩)).setCell ⟨w.heap.size + 1 + 1, 1, none⟩ (.int .i64 0)).setCell ⟨w.heap.size + 1 + 1, 2, none⟩ (.int .i64 0)).setCell ⟨w.heap.size + 1 + 1, 3, none⟩ (.int .i64 0)).setCell ⟨w.heap.size + 1 + 1, 4, none⟩ (.int .i64 0)).setCell ⟨w.heap.size + 1 + 1, 5, none⟩ (.bool false)).setCell ⟨w.heap.size + 1 + 1, 6, none⟩ (.bool false)).setCell ⟨w.heap.size + 1 + 1, 7, none⟩ (.bool false)).setCell ⟨w.heap.size + 1 + 1, 8, none⟩ (.int .u64 0)).setCell ⟨w.heap.size + 1 + 1, 9, none⟩ (.int .i64 0)).setCell ⟨w.heap.size + 1 + 1, 10, none⟩ (.string ⟨#[]⟩)).setCell ⟨w.heap.size + 1 + 1, 11, none⟩ (.int .i64 0)) = W9 at hZ9 hB9 ⊢
      obtain ⟨e0, e1, e2, e3, e4, e5, e6, e7, e8, e9, e10, e11⟩ := box12 hZ9
      refine bodyPost_ret (v := .tuple #[.agg #[.string ⟨#[]⟩, .int .i64 0, .int .i64 0, .int .i64 0, .int .i64 0, .bool false, .bool false, .bool false, .int .u64 0, .int .i64 0, .string ⟨#[]⟩, .int .i64 0], .bool false]) (by simp [results, Tryz.results84, go_sem, e0, e1, e2, e3, e4, e5, e6, e7, e8, e9, e10, e11]) rfl ⟨?_, hB9⟩
      rw [HN.out]; rfl
    · have HV := Lib.hid (HO.out.trans (hov rfl))
      clear hov hon
      by_cases a1 : x.first < 1
      · have HN : Hid (sourceR revs x t = none) := Lib.hid (source_bad (.inl a1))
        go_wp2_with fail
        go_quiet (fail)
        clear c0 c1 c2 c3 c4 c5
        have hZ3 : Blk (W2.drewN nq) (w.heap.size + 1 + 1) 74 [.string ⟨#[]⟩, .int .i64 0, .int .i64 0, .int .i64 0, .int .i64 0, .bool false, .bool false, .bool false, .int .u64 0, .int .i64 0, .string ⟨#[]⟩, .int .i64 0] := hZ2
        have hb3 := below_drewN hb2 nq
        generalize W2.drewN nq = W3 at hZ3 hb3 ⊢
        obtain ⟨z0, z1, z2, z3, z4, z5, z6, z7, z8, z9, z10, z11⟩ := box12 hZ3
        obtain ⟨y0, y1, y2, y3, y4, y5, y6, y7, y8, y9, y10, y11⟩ := frz12 hZ3
        go_wp2_with fail
        have hZ9 : Blk ((((((((((((W3.setCell ⟨w.heap.size + 1 + 1, 0, none⟩ (.string ⟨#[]⟩)).setCell ⟨w.heap.size + 1 + 1, 1, none⟩ (.int .i64 0)).setCell ⟨w.heap.size + 1 + 1, 2, none⟩ (.int .i64 0)).setCell ⟨w.heap.size + 1 + 1, 3, none⟩ (.int .i64 0)).setCell ⟨w.heap.size + 1 + 1, 4, none⟩ (.int .i64 0)).setCell ⟨w.heap.size + 1 + 1, 5, none⟩ (.bool false)).setCell ⟨w.heap.size + 1 + 1, 6, none⟩ (.bool false)).setCell ⟨w.heap.size + 1 + 1, 7, none⟩ (.bool false)).setCell ⟨w.heap.size + 1 + 1, 8, none⟩ (.int .u64 0)).setCell ⟨w.heap.size + 1 + 1, 9, none⟩ (.int .i64 0)).setCell ⟨w.heap.size + 1 + 1, 10, none⟩ (.string ⟨#[]⟩)).setCell ⟨w.heap.size + 1 + 1, 11, none⟩ (.int .i64 0)) (w.heap.size + 1 + 1) 74 [.string ⟨#[]⟩, .int .i64 0, .int .i64 0, .int .i64 0, .int .i64 0, .bool false, .bool false, .bool false, .int .u64 0, .int .i64 0, .string ⟨#[]⟩, .int .i64 0] := set12 hZ3 zeroRev
        have hB9 : Below w.heap.size w ((((((((((((W3.setCell ⟨w.heap.size + 1 + 1, 0, none⟩ (.string ⟨#[]⟩)).setCell ⟨w.heap.size + 1 + 1, 1, none⟩ (.int .i64 0)).setCell ⟨w.heap.size + 1 + 1, 2, none⟩ (.int .i64 0)).setCell ⟨w.heap.size + 1 + 1, 3, none⟩ (.int .i64 0)).setCell ⟨w.heap.size + 1 + 1, 4, none⟩ (.int .i64 0)).setCell ⟨w.heap.size + 1 + 1, 5, none⟩ (.bool false)).setCell ⟨w.heap.size + 1 + 1, 6, none⟩ (.bool false)).setCell ⟨w.heap.size + 1 + 1, 7, none⟩ (.bool false)).setCell ⟨w.heap.size + 1 + 1, 8, none⟩ (.int .u64 0)).setCell ⟨w.heap.size + 1 + 1, 9, none⟩ (.int .i64 0)).setCell ⟨w.heap.size + 1 + 1, 10, none⟩ (.string ⟨#[]⟩)).setCell ⟨w.heap.size + 1 + 1, 11, none⟩ (.int .i64 0)) := below12 hb3 (show w.heap.size ≤ w.heap.size + 1 + 1 by omega) zeroRev
        generalize ((((((((((((W3.setCell ⟨w.heap.size + 1 + 1, 0, none⟩ (.string ⟨#[]⟩)).setCell ⟨w.heap.size + 1 + 1, 1, none⟩ (.int .i64 0)).setCell ⟨w.heap.size + 1 + 1, 2, none⟩ (.int .i64 0)).setCell ⟨w.heap.size + 1 + 1, 3, none⟩ (.int .i64 0)).setCell ⟨w.heap.size + 1 + 1, 4, none⟩ (.int .i64 0)).setCell ⟨w.heap.size + 1 + 1, 5, none⟩ (.bool false)).setCell ⟨w.heap.size + 1 + 1, 6, none⟩ (.bool false)).setCell ⟨w.heap.size + 1 + 1, 7, none⟩ (.bool false)).setCell ⟨w.heap.size + 1 + 1, 8, none⟩ (.int .u64 0)).setCell ⟨w.heap.size + 1 + 1, 9, none⟩ (.int .i64 0)).setCell ⟨w.heap.size + 1 + 1, 10, none⟩ (.string ⟨#[]⟩)).setCell ⟨w.heap.size + 1 + 1, 11, none⟩ (.int .i64 0)) = W9 at hZ9 hB9 ⊢
        obtain ⟨e0, e1, e2, e3, e4, e5, e6, e7, e8, e9, e10, e11⟩ := box12 hZ9
        refine bodyPost_ret (v := .tuple #[.agg #[.string ⟨#[]⟩, .int .i64 0, .int .i64 0, .int .i64 0, .int .i64 0, .bool false, .bool false, .bool false, .int .u64 0, .int .i64 0, .string ⟨#[]⟩, .int .i64 0], .bool false]) (by simp [results, Tryz.results84, go_sem, e0, e1, e2, e3, e4, e5, e6, e7, e8, e9, e10, e11]) rfl ⟨?_, hB9⟩
        rw [HN.out]; rfl
      · by_cases a2 : x.last < x.first
        · have HN : Hid (sourceR revs x t = none) := Lib.hid (source_bad (.inr (.inl a2)))
          have qa : decide (x.last < x.first) = true := by simpa using a2
          have qa1 : decide (x.first < 1) = false := by simpa using a1
          clear a1 a2
          go_wp2_with fail
          go_quiet (fail)
          clear c0 c1 c2 c3 c4 c5
          have hZ3 : Blk (W2.drewN nq) (w.heap.size + 1 + 1) 74 [.string ⟨#[]⟩, .int .i64 0, .int .i64 0, .int .i64 0, .int .i64 0, .bool false, .bool false, .bool false, .int .u64 0, .int .i64 0, .string ⟨#[]⟩, .int .i64 0] := hZ2
          have hb3 := below_drewN hb2 nq
          generalize W2.drewN nq = W3 at hZ3 hb3 ⊢
          obtain ⟨z0, z1, z2, z3, z4, z5, z6, z7, z8, z9, z10, z11⟩ := box12 hZ3
          obtain ⟨y0, y1, y2, y3, y4, y5, y6, y7, y8, y9, y10, y11⟩ := frz12 hZ3
          go_wp2_with fail
          have hZ9 : Blk ((((((((((((W3.setCell ⟨w.heap.size + 1 + 1, 0, none⟩ (.string ⟨#[]⟩)).setCell ⟨w.heap.size + 1 + 1, 1, none⟩ (.int .i64 0)).setCell ⟨w.heap.size + 1 + 1, 2, none⟩ (.int .i64 0)).setCell ⟨w.heap.size + 1 + 1, 3, none⟩ (.int .i64 0)).setCell ⟨w.heap.size + 1 + 1, 4, none⟩ (.int .i64 0)).setCell ⟨w.heap.size + 1 + 1, 5, none⟩ (.bool false)).setCell ⟨w.heap.size + 1 + 1, 6, none⟩ (.bool false)).setCell ⟨w.heap.size + 1 + 1, 7, none⟩ (.bool false)).setCell ⟨w.heap.size + 1 + 1, 8, none⟩ (.int .u64 0)).setCell ⟨w.heap.size + 1 + 1, 9, none⟩ (.int .i64 0)).setCell ⟨w.heap.size + 1 + 1, 10, none⟩ (.string ⟨#[]⟩)).setCell ⟨w.heap.size + 1 + 1, 11, none⟩ (.int .i64 0)) (w.heap.size + 1 + 1) 74 [.string ⟨#[]⟩, .int .i64 0, .int .i64 0, .int .i64 0, .int .i64 0, .bool false, .bool false, .bool false, .int .u64 0, .int .i64 0, .string ⟨#[]⟩, .int .i64 0] := set12 hZ3 zeroRev
          have hB9 : Below w.heap.size w ((((((((((((W3.setCell ⟨w.heap.size + 1 + 1, 0, none⟩ (.string ⟨#[]⟩)).setCell ⟨w.heap.size + 1 + 1, 1, none⟩ (.int .i64 0)).setCell ⟨w.heap.size + 1 + 1, 2, none⟩ (.int .i64 0)).setCell ⟨w.heap.size + 1 + 1, 3, none⟩ (.int .i64 0)).setCell ⟨w.heap.size + 1 + 1, 4, none⟩ (.int .i64 0)).setCell ⟨w.heap.size + 1 + 1, 5, none⟩ (.bool false)).setCell ⟨w.heap.size + 1 + 1, 6, none⟩ (.bool false)).setCell ⟨w.heap.size + 1 + 1, 7, none⟩ (.bool false)).setCell ⟨w.heap.size + 1 + 1, 8, none⟩ (.int .u64 0)).setCell ⟨w.heap.size + 1 + 1, 9, none⟩ (.int .i64 0)).setCell ⟨w.heap.size + 1 + 1, 10, none⟩ (.string ⟨#[]⟩)).setCell ⟨w.heap.size + 1 + 1, 11, none⟩ (.int .i64 0)) := below12 hb3 (show w.heap.size ≤ w.heap.size + 1 + 1 by omega) zeroRev
          generalize ((((((((((((W3.setCell ⟨w.heap.size + 1 + 1, 0, none⟩ (.string ⟨#[]⟩)).setCell ⟨w.heap.size + 1 + 1, 1, none⟩ (.int .i64 0)).setCell ⟨w.heap.size + 1 + 1, 2, none⟩ (.int .i64 0)).setCell ⟨w.heap.size + 1 + 1, 3, none⟩ (.int .i64 0)).setCell ⟨w.heap.size + 1 + 1, 4, none⟩ (.int .i64 0)).setCell ⟨w.heap.size + 1 + 1, 5, none⟩ (.bool false)).setCell ⟨w.heap.size + 1 + 1, 6, none⟩ (.bool false)).setCell ⟨w.heap.size + 1 + 1, 7, none⟩ (.bool false)).setCell ⟨w.heap.size + 1 + 1, 8, none⟩ (.int .u64 0)).setCell ⟨w.heap.size + 1 + 1, 9, none⟩ (.int .i64 0)).setCell ⟨w.heap.size + 1 + 1, 10, none⟩ (.string ⟨#[]⟩)).setCell ⟨w.heap.size + 1 + 1, 11, none⟩ (.int .i64 0)) = W9 at hZ9 hB9 ⊢
          obtain ⟨e0, e1, e2, e3, e4, e5, e6, e7, e8, e9, e10, e11⟩ := box12 hZ9
          refine bodyPost_ret (v := .tuple #[.agg #[.string ⟨#[]⟩, .int .i64 0, .int .i64 0, .int .i64 0, .int .i64 0, .bool false, .bool false, .bool false, .int .u64 0, .int .i64 0, .string ⟨#[]⟩, .int .i64 0], .bool false]) (by simp [results, Tryz.results84, go_sem, e0, e1, e2, e3, e4, e5, e6, e7, e8, e9, e10, e11]) rfl ⟨?_, hB9⟩
          rw [HN.out]; rfl
        · by_cases a3 : (revs.length : Int) ≤ x.last - x.first
          · have HN : Hid (sourceR revs x t = none) := Lib.hid (source_bad (.inr (.inr a3)))
            have hwr : IntKind.i64.wrap (x.last - x.first) = x.last - x.first := IntWalk.i64_in _ (by omega)
            go_wp2_with fail
            go_quiet (fail)
            clear hwr c0 c1 c2 c3 c4 c5
            have hZ3 : Blk (W2.drewN nq) (w.heap.size + 1 + 1) 74 [.string ⟨#[]⟩, .int .i64 0, .int .i64 0, .int .i64 0, .int .i64 0, .bool false, .bool false, .bool false, .int .u64 0, .int .i64 0, .string ⟨#[]⟩, .int .i64 0] := hZ2
            have hb3 := below_drewN hb2 nq
            generalize W2.drewN nq = W3 at hZ3 hb3 ⊢
            obtain ⟨z0, z1, z2, z3, z4, z5, z6, z7, z8, z9, z10, z11⟩ := box12 hZ3
            obtain ⟨y0, y1, y2, y3, y4, y5, y6, y7, y8, y9, y10, y11⟩ := frz12 hZ3
            go_wp2_with fail
            have hZ9 : Blk ((((((((((((W3.setCell ⟨w.heap.size + 1 + 1, 0, none⟩ (.string ⟨#[]⟩)).setCell ⟨w.heap.size + 1 + 1, 1, none⟩ (.int .i64 0)).setCell ⟨w.heap.size + 1 + 1, 2, none⟩ (.int .i64 0)).setCell ⟨w.heap.size + 1 + 1, 3, none⟩ (.int .i64 0)).setCell ⟨w.heap.size + 1 + 1, 4, none⟩ (.int .i64 0)).setCell ⟨w.heap.size + 1 + 1, 5, none⟩ (.bool false)).setCell ⟨w.heap.size + 1 + 1, 6, none⟩ (.bool false)).setCell ⟨w.heap.size + 1 + 1, 7, none⟩ (.bool false)).setCell ⟨w.heap.size + 1 + 1, 8, none⟩ (.int .u64 0)).setCell ⟨w.heap.size + 1 + 1, 9, none⟩ (.int .i64 0)).setCell ⟨w.heap.size + 1 + 1, 10, none⟩ (.string ⟨#[]⟩)).setCell ⟨w.heap.size + 1 + 1, 11, none⟩ (.int .i64 0)) (w.heap.size + 1 + 1) 74 [.string ⟨#[]⟩, .int .i64 0, .int .i64 0, .int .i64 0, .int .i64 0, .bool false, .bool false, .bool false, .int .u64 0, .int .i64 0, .string ⟨#[]⟩, .int .i64 0] := set12 hZ3 zeroRev
            have hB9 : Below w.heap.size w ((((((((((((W3.setCell ⟨w.heap.size + 1 + 1, 0, none⟩ (.string ⟨#[]⟩)).setCell ⟨w.heap.size + 1 + 1, 1, none⟩ (.int .i64 0)).setCell ⟨w.heap.size + 1 + 1, 2, none⟩ (.int .i64 0)).setCell ⟨w.heap.size + 1 + 1, 3, none⟩ (.int .i64 0)).setCell ⟨w.heap.size + 1 + 1, 4, none⟩ (.int .i64 0)).setCell ⟨w.heap.size + 1 + 1, 5, none⟩ (.bool false)).setCell ⟨w.heap.size + 1 + 1, 6, none⟩ (.bool false)).setCell ⟨w.heap.size + 1 + 1, 7, none⟩ (.bool false)).setCell ⟨w.heap.size + 1 + 1, 8, none⟩ (.int .u64 0)).setCell ⟨w.heap.size + 1 + 1, 9, none⟩ (.int .i64 0)).setCell ⟨w.heap.size + 1 + 1, 10, none⟩ (.string ⟨#[]⟩)).setCell ⟨w.heap.size + 1 + 1, 11, none⟩ (.int .i64 0)) := below12 hb3 (show w.heap.size ≤ w.heap.size + 1 + 1 by omega) zeroRev
            generalize ((((((((((((W3.setCell ⟨w.heap.size + 1 + 1, 0, none⟩ (.string ⟨#[]⟩)).setCell ⟨w.heap.size + 1 + 1, 1, none⟩ (.int .i64 0)).setCell ⟨w.heap.size + 1 + 1, 2, none⟩ (.int .i64 0)).setCell ⟨w.heap.size + 1 + 1, 3, none⟩ (.int .i64 0)).setCell ⟨w.heap.size + 1 + 1, 4, none⟩ (.int .i64 0)).setCell ⟨w.heap.size + 1 + 1, 5, none⟩ (.bool false)).setCell ⟨w.heap.size + 1 + 1, 6, none⟩ (.bool false)).setCell ⟨w.heap.size + 1 + 1, 7, none⟩ (.bool false)).setCell ⟨w.heap.size + 1 + 1, 8, none⟩ (.int .u64 0)).setCell ⟨w.heap.size + 1 + 1, 9, none⟩ (.int .i64 0)).setCell ⟨w.heap.size + 1 + 1, 10, none⟩ (.string ⟨#[]⟩)).setCell ⟨w.heap.size + 1 + 1, 11, none⟩ (.int .i64 0)) = W9 at hZ9 hB9 ⊢
            obtain ⟨e0, e1, e2, e3, e4, e5, e6, e7, e8, e9, e10, e11⟩ := box12 hZ9
            refine bodyPost_ret (v := .tuple #[.agg #[.string ⟨#[]⟩, .int .i64 0, .int .i64 0, .int .i64 0, .int .i64 0, .bool false, .bool false, .bool false, .int .u64 0, .int .i64 0, .string ⟨#[]⟩, .int .i64 0], .bool false]) (by simp [results, Tryz.results84, go_sem, e0, e1, e2, e3, e4, e5, e6, e7, e8, e9, e10, e11]) rfl ⟨?_, hB9⟩
            rw [HN.out]; rfl
          · have HNB := Lib.hid (show ¬ (x.first < 1 ∨ x.last < x.first ∨ (revs.length : Int) ≤ x.last - x.first) by omega)
            have hwr : IntKind.i64.wrap (x.last - x.first) = x.last - x.first := IntWalk.i64_in _ (by omega)
            go_wp2_with fail
            go_quiet (fail)
            clear hwr c0 c1 c2 c3 c4 c5 k0
            have hX3 : Blk (W2.drewN nq) w.heap.size 77 [.string x.frm, .int .i64 x.first, .int .i64 x.last, .string x.to, .int .i64 x.num, .int .i64 x.how] := hX2
            have hT3 : Blk (W2.drewN nq) (w.heap.size + 1) 106 [.string t.1, .int .i64 t.2] := hT2
            have hZ3 : Blk (W2.drewN nq) (w.heap.size + 1 + 1) 74 [.string ⟨#[]⟩, .int .i64 0, .int .i64 0, .int .i64 0, .int .i64 0, .bool false, .bool false, .bool false, .int .u64 0, .int .i64 0, .string ⟨#[]⟩, .int .i64 0] := hZ2
            have hR3 : Blk (W2.drewN nq) gb 74 [.string r.path, .int .i64 r.num, .int .i64 r.chg, .int .i64 r.act, .int .i64 r.ty.base, .bool r.ty.k, .bool r.ty.l, .bool r.ty.x, .int .u64 r.sum, .int .i64 r.size, .string r.frm, .int .i64 r.fnum] := hRR
            have hK3 : Chk (W2.drewN nq) g (.slice Ar revs.length cr) dr n cl tx ev rv bl be bn := hK2
            have hL3 : LineMap (W2.drewN nq) bn (linesOf revs) := hL2
            have hb3 := below_drewN hb2 nq
            clear hX2 hT2 hZ2 hRR hK2 hL2 hb2
            generalize W2.drewN nq = W3 at hX3 hT3 hZ3 hR3 hK3 hL3 hb3 ⊢
            obtain ⟨c0, c1, c2, c3, c4, c5⟩ := box6 hX3
            obtain ⟨-, -, -, -, -, -, -, k9⟩ := box10 hK3
            have hlk : ∀ w', Below W3.heap.size W3 w' → _ := fun w' hb => LineMap.look2 (w := w') (FMap.below hL3 hb) x.frm x.last
            obtain ⟨ln, hln⟩ : ∃ l, lineR (linesOf revs) (x.frm, x.last) = l := ⟨_, rfl⟩
            obtain ⟨bs, hbs⟩ : ∃ b, (linesOf revs (x.frm, x.last)).isSome = b := ⟨_, rfl⟩
            rw [hln, hbs] at hlk
            have HLN := Lib.hid hln
            have HBS := Lib.hid hbs
            clear hln hbs
            have HC : Hid (∀ w', Below W3.heap.size W3 w' → w'.cell? ⟨g, 9, none⟩ = some (.map (some bn)) ∧ w'.cell? ⟨w.heap.size, 0, none⟩ = some (.string x.frm) ∧ w'.cell? ⟨w.heap.size, 2, none⟩ = some (.int .i64 x.last)) := Lib.hid fun w' hb => ⟨cell_below k9 hb (cell_lt k9), cell_below c0 hb (cell_lt c0), cell_below c2 hb (cell_lt c2)⟩
            go_upto_region 4 with fail
            go_cut [9, 10] (fun s9 s10 wx => ∃ gl : Nat, s10 = .pointer (some ⟨gl, 0, none⟩) ∧ s9 = .bool bs ∧ Below W3.heap.size W3 wx ∧ Blk wx gl 106 [.string ln.1, .int .i64 ln.2])
            case first =>
              go_region_held3 (fun w' => Below W3.heap.size W3 w' ∧ w'.cell? ⟨g, 9, none⟩ = some (.map (some bn)) ∧ w'.cell? ⟨w.heap.size, 0, none⟩ = some (.string x.frm) ∧ w'.cell? ⟨w.heap.size, 2, none⟩ = some (.int .i64 x.last))
                ((refine and_of ?_ (HC.out _); first | with_reducible exact (Below.refl _ _).drew | with_reducible assumption | with_reducible exact ((Below.refl _ _).alloc (Nat.le_refl _) _).drew)) (fail)
              all_goals
                have hq1 : Below W3.heap.size W3 (W3.alloc (.cells #[.string ln.1, .int .i64 ln.2] 106)).drew := ((Below.refl _ _).alloc (Nat.le_refl _) _).drew
                have hq2 : Blk (W3.alloc (.cells #[.string ln.1, .int .i64 ln.2] 106)).drew W3.heap.size 106 [.string ln.1, .int .i64 ln.2] := blk_new W3 _ _
                go_wp2_with fail
                go_meet
                exact ⟨_, rfl, rfl, hq1, hq2⟩
            case rest =>
              obtain ⟨gl, rfl, rfl, hb34, hN4⟩ := hcut
              generalize wc = W4 at hb34 hN4 ⊢
              have hX4 := hX3.below hb34 hX3.lt
              have hT4 := hT3.below hb34 hT3.lt
              have hZ4 := hZ3.below hb34 hZ3.lt
              have hRR4 := hR3.below hb34 hR3.lt
              have hK4 : Chk W4 g (.slice Ar revs.length cr) dr n cl tx ev rv bl be bn := Blk.below hK3 hb34 (Blk.lt hK3)
              have hL4 : LineMap W4 bn (linesOf revs) := FMap.below hL3 hb34
              have hb4 := below_next hb3 hb34
              clear hlk c0 c1 c2 c3 c4 c5 k9 hX3 hT3 hZ3 hR3 hK3 hL3 hb3 hb34 HC
              cases bs
              · have HN : Hid (sourceR revs x t = none) := Lib.hid (source_noline (by have := HBS.out; cases hq : linesOf revs (x.frm, x.last) with
                  | none => rfl
                  | some a => rw [hq] at this; cases this))
                obtain ⟨z0, z1, z2, z3, z4, z5, z6, z7, z8, z9, z10, z11⟩ := box12 hZ4
                obtain ⟨y0, y1, y2, y3, y4, y5, y6, y7, y8, y9, y10, y11⟩ := frz12 hZ4
                go_wp2_with fail
                have hZ9 : Blk ((((((((((((W4.setCell ⟨w.heap.size + 1 + 1, 0, none⟩ (.string ⟨#[]⟩)).setCell ⟨w.heap.size + 1 + 1, 1, none⟩ (.int .i64 0)).setCell ⟨w.heap.size + 1 + 1, 2, none⟩ (.int .i64 0)).setCell ⟨w.heap.size + 1 + 1, 3, none⟩ (.int .i64 0)).setCell ⟨w.heap.size + 1 + 1, 4, none⟩ (.int .i64 0)).setCell ⟨w.heap.size + 1 + 1, 5, none⟩ (.bool false)).setCell ⟨w.heap.size + 1 + 1, 6, none⟩ (.bool false)).setCell ⟨w.heap.size + 1 + 1, 7, none⟩ (.bool false)).setCell ⟨w.heap.size + 1 + 1, 8, none⟩ (.int .u64 0)).setCell ⟨w.heap.size + 1 + 1, 9, none⟩ (.int .i64 0)).setCell ⟨w.heap.size + 1 + 1, 10, none⟩ (.string ⟨#[]⟩)).setCell ⟨w.heap.size + 1 + 1, 11, none⟩ (.int .i64 0)) (w.heap.size + 1 + 1) 74 [.string ⟨#[]⟩, .int .i64 0, .int .i64 0, .int .i64 0, .int .i64 0, .bool false, .bool false, .bool false, .int .u64 0, .int .i64 0, .string ⟨#[]⟩, .int .i64 0] := set12 hZ4 zeroRev
                have hB9 : Below w.heap.size w ((((((((((((W4.setCell ⟨w.heap.size + 1 + 1, 0, none⟩ (.string ⟨#[]⟩)).setCell ⟨w.heap.size + 1 + 1, 1, none⟩ (.int .i64 0)).setCell ⟨w.heap.size + 1 + 1, 2, none⟩ (.int .i64 0)).setCell ⟨w.heap.size + 1 + 1, 3, none⟩ (.int .i64 0)).setCell ⟨w.heap.size + 1 + 1, 4, none⟩ (.int .i64 0)).setCell ⟨w.heap.size + 1 + 1, 5, none⟩ (.bool false)).setCell ⟨w.heap.size + 1 + 1, 6, none⟩ (.bool false)).setCell ⟨w.heap.size + 1 + 1, 7, none⟩ (.bool false)).setCell ⟨w.heap.size + 1 + 1, 8, none⟩ (.int .u64 0)).setCell ⟨w.heap.size + 1 + 1, 9, none⟩ (.int .i64 0)).setCell ⟨w.heap.size + 1 + 1, 10, none⟩ (.string ⟨#[]⟩)).setCell ⟨w.heap.size + 1 + 1, 11, none⟩ (.int .i64 0)) := below12 hb4 (show w.heap.size ≤ w.heap.size + 1 + 1 by omega) zeroRev
                generalize ((((((((((((W4.setCell ⟨w.heap.size + 1 + 1, 0, none⟩ (.string ⟨#[]⟩)).setCell ⟨w.heap.size + 1 + 1, 1, none⟩ (.int .i64 0)).setCell ⟨w.heap.size + 1 + 1, 2, none⟩ (.int .i64 0)).setCell ⟨w.heap.size + 1 + 1, 3, none⟩ (.int .i64 0)).setCell ⟨w.heap.size + 1 + 1, 4, none⟩ (.int .i64 0)).setCell ⟨w.heap.size + 1 + 1, 5, none⟩ (.bool false)).setCell ⟨w.heap.size + 1 + 1, 6, none⟩ (.bool false)).setCell ⟨w.heap.size + 1 + 1, 7, none⟩ (.bool false)).setCell ⟨w.heap.size + 1 + 1, 8, none⟩ (.int .u64 0)).setCell ⟨w.heap.size + 1 + 1, 9, none⟩ (.int .i64 0)).setCell ⟨w.heap.size + 1 + 1, 10, none⟩ (.string ⟨#[]⟩)).setCell ⟨w.heap.size + 1 + 1, 11, none⟩ (.int .i64 0)) = W9 at hZ9 hB9 ⊢
                obtain ⟨e0, e1, e2, e3, e4, e5, e6, e7, e8, e9, e10, e11⟩ := box12 hZ9
                refine bodyPost_ret (v := .tuple #[.agg #[.string ⟨#[]⟩, .int .i64 0, .int .i64 0, .int .i64 0, .int .i64 0, .bool false, .bool false, .bool false, .int .u64 0, .int .i64 0, .string ⟨#[]⟩, .int .i64 0], .bool false]) (by simp [results, Tryz.results84, go_sem, e0, e1, e2, e3, e4, e5, e6, e7, e8, e9, e10, e11]) rfl ⟨?_, hB9⟩
                rw [HN.out]; rfl
              · have hsome : linesOf revs (x.frm, x.last) = some ln := by
                  have h1 := HBS.out
                  have h2 := HLN.out
                  cases hq : linesOf revs (x.frm, x.last) with
                  | none => rw [hq] at h1; cases h1
                  | some a => rw [← h2, lineR_some hq]
                have HRS0 := Lib.hid (source_rest (t := t) HV.out HNB.out hsome)
                clear hsome
                obtain ⟨n0, n1, -, -⟩ := box2 hN4
                obtain ⟨t0, t1, -, -⟩ := box2 hT4
                obtain ⟨c0, c1, c2, c3, c4, c5⟩ := box6 hX4
                have heq := run_eql_fil ln.1 ln.2 t.1 t.2
                by_cases hlt0 : ln = t
                · rw [decide_eq_true (show (ln.1, ln.2) = (t.1, t.2) from hlt0)] at heq
                  have HN : Hid (sourceR revs x t = none) := Lib.hid (by rw [HRS0.out, if_pos hlt0])
                  clear hlt0
                  obtain ⟨z0, z1, z2, z3, z4, z5, z6, z7, z8, z9, z10, z11⟩ := box12 hZ4
                  obtain ⟨y0, y1, y2, y3, y4, y5, y6, y7, y8, y9, y10, y11⟩ := frz12 hZ4
                  go_wp2_with fail
                  have hZ9 : Blk ((((((((((((W4.setCell ⟨w.heap.size + 1 + 1, 0, none⟩ (.string ⟨#[]⟩)).setCell ⟨w.heap.size + 1 + 1, 1, none⟩ (.int .i64 0)).setCell ⟨w.heap.size + 1 + 1, 2, none⟩ (.int .i64 0)).setCell ⟨w.heap.size + 1 + 1, 3, none⟩ (.int .i64 0)).setCell ⟨w.heap.size + 1 + 1, 4, none⟩ (.int .i64 0)).setCell ⟨w.heap.size + 1 + 1, 5, none⟩ (.bool false)).setCell ⟨w.heap.size + 1 + 1, 6, none⟩ (.bool false)).setCell ⟨w.heap.size + 1 + 1, 7, none⟩ (.bool false)).setCell ⟨w.heap.size + 1 + 1, 8, none⟩ (.int .u64 0)).setCell ⟨w.heap.size + 1 + 1, 9, none⟩ (.int .i64 0)).setCell ⟨w.heap.size + 1 + 1, 10, none⟩ (.string ⟨#[]⟩)).setCell ⟨w.heap.size + 1 + 1, 11, none⟩ (.int .i64 0)) (w.heap.size + 1 + 1) 74 [.string ⟨#[]⟩, .int .i64 0, .int .i64 0, .int .i64 0, .int .i64 0, .bool false, .bool false, .bool false, .int .u64 0, .int .i64 0, .string ⟨#[]⟩, .int .i64 0] := set12 hZ4 zeroRev
                  have hB9 : Below w.heap.size w ((((((((((((W4.setCell ⟨w.heap.size + 1 + 1, 0, none⟩ (.string ⟨#[]⟩)).setCell ⟨w.heap.size + 1 + 1, 1, none⟩ (.int .i64 0)).setCell ⟨w.heap.size + 1 + 1, 2, none⟩ (.int .i64 0)).setCell ⟨w.heap.size + 1 + 1, 3, none⟩ (.int .i64 0)).setCell ⟨w.heap.size + 1 + 1, 4, none⟩ (.int .i64 0)).setCell ⟨w.heap.size + 1 + 1, 5, none⟩ (.bool false)).setCell ⟨w.heap.size + 1 + 1, 6, none⟩ (.bool false)).setCell ⟨w.heap.size + 1 + 1, 7, none⟩ (.bool false)).setCell ⟨w.heap.size + 1 + 1, 8, none⟩ (.int .u64 0)).setCell ⟨w.heap.size + 1 + 1, 9, none⟩ (.int .i64 0)).setCell ⟨w.heap.size + 1 + 1, 10, none⟩ (.string ⟨#[]⟩)).setCell ⟨w.heap.size + 1 + 1, 11, none⟩ (.int .i64 0)) := below12 hb4 (show w.heap.size ≤ w.heap.size + 1 + 1 by omega) zeroRev
                  generalize ((((((((((((W4.setCell ⟨w.heap.size + 1 + 1, 0, none⟩ (.string ⟨#[]⟩)).setCell ⟨w.heap.size + 1 + 1, 1, none⟩ (.int .i64 0)).setCell ⟨w.heap.size + 1 + 1, 2, none⟩ (.int .i64 0)).setCell ⟨w.heap.size + 1 + 1, 3, none⟩ (.int .i64 0)).setCell ⟨w.heap.size + 1 + 1, 4, none⟩ (.int .i64 0)).setCell ⟨w.heap.size + 1 + 1, 5, none⟩ (.bool false)).setCell ⟨w.heap.size + 1 + 1, 6, none⟩ (.bool false)).setCell ⟨w.heap.size + 1 + 1, 7, none⟩ (.bool false)).setCell ⟨w.heap.size + 1 + 1, 8, none⟩ (.int .u64 0)).setCell ⟨w.heap.size + 1 + 1, 9, none⟩ (.int .i64 0)).setCell ⟨w.heap.size + 1 + 1, 10, none⟩ (.string ⟨#[]⟩)).setCell ⟨w.heap.size + 1 + 1, 11, none⟩ (.int .i64 0)) = W9 at hZ9 hB9 ⊢
                  obtain ⟨e0, e1, e2, e3, e4, e5, e6, e7, e8, e9, e10, e11⟩ := box12 hZ9
                  refine bodyPost_ret (v := .tuple #[.agg #[.string ⟨#[]⟩, .int .i64 0, .int .i64 0, .int .i64 0, .int .i64 0, .bool false, .bool false, .bool false, .int .u64 0, .int .i64 0, .string ⟨#[]⟩, .int .i64 0], .bool false]) (by simp [results, Tryz.results84, go_sem, e0, e1, e2, e3, e4, e5, e6, e7, e8, e9, e10, e11]) rfl ⟨?_, hB9⟩
                  rw [HN.out]; rfl
                · rw [decide_eq_false (fun e => hlt0 (Prod.ext (congrArg Prod.fst e) (congrArg Prod.snd e)))] at heq
                  have HRS : Hid (sourceR revs x t = if (List.range (x.last - x.first).toNat).all (fun i => decide (linesOf revs (x.frm, x.first + i) = some ln)) then some r else none) := Lib.hid (by rw [HRS0.out, if_neg hlt0])
                  clear hlt0 HRS0
                  go_wp2_with fail
                  clear heq n0 n1 t0 t1 c0 c1 c2 c3 c4 c5
                  go_loopw [11] (fun i wr => ∃ k : Nat, (k : Int) ≤ x.last - x.first ∧ i = .int .i64 (x.first + k) ∧ Below W4.heap.size W4 wr ∧ Hid (∀ j, j < k → linesOf revs (x.frm, x.first + (j : Int)) = some ln)) (fun i _ => (x.last - intOf i).toNat)
                  case atStart => exact ⟨0, by omega, by simp, Below.refl _ _, Lib.hid (fun j hj => absurd hj (by omega))⟩
                  case round =>
                    obtain ⟨k, hk, rfl, hbr, HA⟩ := hrel
                    have hX5 := hX4.below hbr hX4.lt
                    have hZ5 := hZ4.below hbr hZ4.lt
                    have hR5 := hRR4.below hbr hRR4.lt
                    have hN5 := hN4.below hbr hN4.lt
                    have hK5 := Blk.below hK4 hbr (Blk.lt hK4)
                    have hb5 := below_step hb4 hb4.size hbr
                    obtain ⟨c0, c1, c2, c3, c4, c5⟩ := box6 hX5
                    by_cases hlt : x.first + k < x.last
                    · obtain ⟨-, -, -, -, -, -, -, k9⟩ := box10 hK5
                      have hlk : ∀ w', Below wr.heap.size wr w' → _ := fun w' hb => LineMap.look2 (w := w') (FMap.below (FMap.below hL4 hbr) hb) x.frm (x.first + k)
                      obtain ⟨l2, hl2⟩ : ∃ l, lineR (linesOf revs) (x.frm, x.first + k) = l := ⟨_, rfl⟩
                      obtain ⟨b2, hb2'⟩ : ∃ b, (linesOf revs (x.frm, x.first + k)).isSome = b := ⟨_, rfl⟩
                      rw [hl2, hb2'] at hlk
                      have HL2 := Lib.hid hl2
                      have HB2 := Lib.hid hb2'
                      clear hl2 hb2'
                      have HC : Hid (∀ w', Below wr.heap.size wr w' → w'.cell? ⟨g, 9, none⟩ = some (.map (some bn)) ∧ w'.cell? ⟨w.heap.size, 0, none⟩ = some (.string x.frm)) := Lib.hid fun w' hb => ⟨cell_below k9 hb (cell_lt k9), cell_below c0 hb (cell_lt c0)⟩
                      go_upto_region 10 with fail
                      go_cut [12, 13] (fun s12 s13 wx => ∃ gm : Nat, s12 = .pointer (some ⟨gm, 0, none⟩) ∧ s13 = .bool b2 ∧ Below wr.heap.size wr wx ∧ Blk wx gm 106 [.string l2.1, .int .i64 l2.2])
                      case first =>
                        go_region_held3 (fun w' => Below wr.heap.size wr w' ∧ w'.cell? ⟨g, 9, none⟩ = some (.map (some bn)) ∧ w'.cell? ⟨w.heap.size, 0, none⟩ = some (.string x.frm))
                          ((refine and_of ?_ (HC.out _); first | with_reducible exact (Below.refl _ _).drew | with_reducible assumption | with_reducible exact ((Below.refl _ _).alloc (Nat.le_refl _) _).drew)) (fail)
                        all_goals
                          have hq1 : Below wr.heap.size wr (wr.alloc (.cells #[.string l2.1, .int .i64 l2.2] 106)).drew := ((Below.refl _ _).alloc (Nat.le_refl _) _).drew
                          have hq2 : Blk (wr.alloc (.cells #[.string l2.1, .int .i64 l2.2] 106)).drew wr.heap.size 106 [.string l2.1, .int .i64 l2.2] := blk_new wr _ _
                          go_wp2_with fail
                          go_meet
                          exact ⟨_, rfl, rfl, hq1, hq2⟩
                      case rest =>
                        obtain ⟨gm, rfl, rfl, hb56, hM6⟩ := hcut
                        generalize wc = W6 at hb56 hM6 ⊢
                        have hN6 := hN5.below hb56 hN5.lt
                        have hZ6 := hZ5.below hb56 hZ5.lt
                        have hb6 := below_next hb5 hb56
                        have hbr6 := below_step hbr hbr.size hb56
                        clear hlk c0 c1 c2 c3 c4 c5 k9 HC
                        obtain ⟨n0, n1, -, -⟩ := box2 hN6
                        obtain ⟨m0, m1, -, -⟩ := box2 hM6
                        cases b2
                        · have HN : Hid (sourceR revs x t = none) := Lib.hid (by
                            rw [HRS.out, all_range_bad (k := k) (by omega) (by rw [decide_eq_false_iff_not]; intro e; have := HB2.out; rw [e] at this; cases this)]
                            simp)
                          obtain ⟨z0, z1, z2, z3, z4, z5, z6, z7, z8, z9, z10, z11⟩ := box12 hZ6
                          obtain ⟨y0, y1, y2, y3, y4, y5, y6, y7, y8, y9, y10, y11⟩ := frz12 hZ6
                          go_wp2_with fail
                          have hZ9 : Blk ((((((((((((W6.setCell ⟨w.heap.size + 1 + 1, 0, none⟩ (.string ⟨#[]⟩)).setCell ⟨w.heap.size + 1 + 1, 1, none⟩ (.int .i64 0)).setCell ⟨w.heap.size + 1 + 1, 2, none⟩ (.int .i64 0)).setCell ⟨w.heap.size + 1 + 1, 3, none⟩ (.int .i64 0)).setCell ⟨w.heap.size + 1 + 1, 4, none⟩ (.int .i64 0)).setCell ⟨w.heap.size + 1 + 1, 5, none⟩ (.bool false)).setCell ⟨w.heap.size + 1 + 1, 6, none⟩ (.bool false)).setCell ⟨w.heap.size + 1 + 1, 7, none⟩ (.bool false)).setCell ⟨w.heap.size + 1 + 1, 8, none⟩ (.int .u64 0)).setCell ⟨w.heap.size + 1 + 1, 9, none⟩ (.int .i64 0)).setCell ⟨w.heap.size + 1 + 1, 10, none⟩ (.string ⟨#[]⟩)).setCell ⟨w.heap.size + 1 + 1, 11, none⟩ (.int .i64 0)) (w.heap.size + 1 + 1) 74 [.string ⟨#[]⟩, .int .i64 0, .int .i64 0, .int .i64 0, .int .i64 0, .bool false, .bool false, .bool false, .int .u64 0, .int .i64 0, .string ⟨#[]⟩, .int .i64 0] := set12 hZ6 zeroRev
                          have hB9 : Below w.heap.size w ((((((((((((W6.setCell ⟨w.heap.size + 1 + 1, 0, none⟩ (.string ⟨#[]⟩)).setCell ⟨w.heap.size + 1 + 1, 1, none⟩ (.int .i64 0)).setCell ⟨w.heap.size + 1 + 1, 2, none⟩ (.int .i64 0)).setCell ⟨w.heap.size + 1 + 1, 3, none⟩ (.int .i64 0)).setCell ⟨w.heap.size + 1 + 1, 4, none⟩ (.int .i64 0)).setCell ⟨w.heap.size + 1 + 1, 5, none⟩ (.bool false)).setCell ⟨w.heap.size + 1 + 1, 6, none⟩ (.bool false)).setCell ⟨w.heap.size + 1 + 1, 7, none⟩ (.bool false)).setCell ⟨w.heap.size + 1 + 1, 8, none⟩ (.int .u64 0)).setCell ⟨w.heap.size + 1 + 1, 9, none⟩ (.int .i64 0)).setCell ⟨w.heap.size + 1 + 1, 10, none⟩ (.string ⟨#[]⟩)).setCell ⟨w.heap.size + 1 + 1, 11, none⟩ (.int .i64 0)) := below12 hb6 (show w.heap.size ≤ w.heap.size + 1 + 1 by omega) zeroRev
                          generalize ((((((((((((W6.setCell ⟨w.heap.size + 1 + 1, 0, none⟩ (.string ⟨#[]⟩)).setCell ⟨w.heap.size + 1 + 1, 1, none⟩ (.int .i64 0)).setCell ⟨w.heap.size + 1 + 1, 2, none⟩ (.int .i64 0)).setCell ⟨w.heap.size + 1 + 1, 3, none⟩ (.int .i64 0)).setCell ⟨w.heap.size + 1 + 1, 4, none⟩ (.int .i64 0)).setCell ⟨w.heap.size + 1 + 1, 5, none⟩ (.bool false)).setCell ⟨w.heap.size + 1 + 1, 6, none⟩ (.bool false)).setCell ⟨w.heap.size + 1 + 1, 7, none⟩ (.bool false)).setCell ⟨w.heap.size + 1 + 1, 8, none⟩ (.int .u64 0)).setCell ⟨w.heap.size + 1 + 1, 9, none⟩ (.int .i64 0)).setCell ⟨w.heap.size + 1 + 1, 10, none⟩ (.string ⟨#[]⟩)).setCell ⟨w.heap.size + 1 + 1, 11, none⟩ (.int .i64 0)) = W9 at hZ9 hB9 ⊢
                          obtain ⟨e0, e1, e2, e3, e4, e5, e6, e7, e8, e9, e10, e11⟩ := box12 hZ9
                          refine bodyPost_ret (v := .tuple #[.agg #[.string ⟨#[]⟩, .int .i64 0, .int .i64 0, .int .i64 0, .int .i64 0, .bool false, .bool false, .bool false, .int .u64 0, .int .i64 0, .string ⟨#[]⟩, .int .i64 0], .bool false]) (by simp [results, Tryz.results84, go_sem, e0, e1, e2, e3, e4, e5, e6, e7, e8, e9, e10, e11]) rfl ⟨?_, hB9⟩
                          rw [HN.out]; rfl
                        · have hne := run_neq_fil l2.1 l2.2 ln.1 ln.2
                          have hsome : linesOf revs (x.frm, x.first + k) = some l2 := by
                            have h1 := HB2.out
                            have h2 := HL2.out
                            cases hq : linesOf revs (x.frm, x.first + k) with
                            | none => rw [hq] at h1; cases h1
                            | some a => rw [← h2, lineR_some hq]
                          have HSM := Lib.hid hsome
                          clear hsome
                          by_cases hq : l2 = ln
                          · subst hq
                            rw [decide_eq_true rfl] at hne
                            go_wp2_with fail
                            go_roundw
                            case rel => exact ⟨k + 1, by omega, by go_num, hbr6, Lib.hid (fun j hj => by
                                          rcases Nat.lt_or_ge j k with h | h
                                          · exact HA.out j h
                                          · obtain rfl : j = k := by omega
                                            exact HSM.out)⟩
                            case measure => simp [intOf]; omega
                          · rw [decide_eq_false (fun e => hq (Prod.ext (congrArg Prod.fst e) (congrArg Prod.snd e)))] at hne
                            have HN : Hid (sourceR revs x t = none) := Lib.hid (by
                              rw [HRS.out, all_range_bad (k := k) (by omega) (by rw [HSM.out, decide_eq_false_iff_not]; intro e; injection e with e; exact hq e)]
                              simp)
                            clear hq
                            obtain ⟨z0, z1, z2, z3, z4, z5, z6, z7, z8, z9, z10, z11⟩ := box12 hZ6
                            obtain ⟨y0, y1, y2, y3, y4, y5, y6, y7, y8, y9, y10, y11⟩ := frz12 hZ6
                            go_wp2_with fail
                            have hZ9 : Blk ((((((((((((W6.setCell ⟨w.heap.size + 1 + 1, 0, none⟩ (.string ⟨#[]⟩)).setCell ⟨w.heap.size + 1 + 1, 1, none⟩ (.int .i64 0)).setCell ⟨w.heap.size + 1 + 1, 2, none⟩ (.int .i64 0)).setCell ⟨w.heap.size + 1 + 1, 3, none⟩ (.int .i64 0)).setCell ⟨w.heap.size + 1 + 1, 4, none⟩ (.int .i64 0)).setCell ⟨w.heap.size + 1 + 1, 5, none⟩ (.bool false)).setCell ⟨w.heap.size + 1 + 1, 6, none⟩ (.bool false)).setCell ⟨w.heap.size + 1 + 1, 7, none⟩ (.bool false)).setCell ⟨w.heap.size + 1 + 1, 8, none⟩ (.int .u64 0)).setCell ⟨w.heap.size + 1 + 1, 9, none⟩ (.int .i64 0)).setCell ⟨w.heap.size + 1 + 1, 10, none⟩ (.string ⟨#[]⟩)).setCell ⟨w.heap.size + 1 + 1, 11, none⟩ (.int .i64 0)) (w.heap.size + 1 + 1) 74 [.string ⟨#[]⟩, .int .i64 0, .int .i64 0, .int .i64 0, .int .i64 0, .bool false, .bool false, .bool false, .int .u64 0, .int .i64 0, .string ⟨#[]⟩, .int .i64 0] := set12 hZ6 zeroRev
                            have hB9 : Below w.heap.size w ((((((((((((W6.setCell ⟨w.heap.size + 1 + 1, 0, none⟩ (.string ⟨#[]⟩)).setCell ⟨w.heap.size + 1 + 1, 1, none⟩ (.int .i64 0)).setCell ⟨w.heap.size + 1 + 1, 2, none⟩ (.int .i64 0)).setCell ⟨w.heap.size + 1 + 1, 3, none⟩ (.int .i64 0)).setCell ⟨w.heap.size + 1 + 1, 4, none⟩ (.int .i64 0)).setCell ⟨w.heap.size + 1 + 1, 5, none⟩ (.bool false)).setCell ⟨w.heap.size + 1 + 1, 6, none⟩ (.bool false)).setCell ⟨w.heap.size + 1 + 1, 7, none⟩ (.bool false)).setCell ⟨w.heap.size + 1 + 1, 8, none⟩ (.int .u64 0)).setCell ⟨w.heap.size + 1 + 1, 9, none⟩ (.int .i64 0)).setCell ⟨w.heap.size + 1 + 1, 10, none⟩ (.string ⟨#[]⟩)).setCell ⟨w.heap.size + 1 + 1, 11, none⟩ (.int .i64 0)) := below12 hb6 (show w.heap.size ≤ w.heap.size + 1 + 1 by omega) zeroRev
                            generalize ((((((((((((W6.setCell ⟨w.heap.size + 1 + 1, 0, none⟩ (.string ⟨#[]⟩)).setCell ⟨w.heap.size + 1 + 1, 1, none⟩ (.int .i64 0)).setCell ⟨w.heap.size + 1 + 1, 2, none⟩ (.int .i64 0)).setCell ⟨w.heap.size + 1 + 1, 3, none⟩ (.int .i64 0)).setCell ⟨w.heap.size + 1 + 1, 4, none⟩ (.int .i64 0)).setCell ⟨w.heap.size + 1 + 1, 5, none⟩ (.bool false)).setCell ⟨w.heap.size + 1 + 1, 6, none⟩ (.bool false)).setCell ⟨w.heap.size + 1 + 1, 7, none⟩ (.bool false)).setCell ⟨w.heap.size + 1 + 1, 8, none⟩ (.int .u64 0)).setCell ⟨w.heap.size + 1 + 1, 9, none⟩ (.int .i64 0)).setCell ⟨w.heap.size + 1 + 1, 10, none⟩ (.string ⟨#[]⟩)).setCell ⟨w.heap.size + 1 + 1, 11, none⟩ (.int .i64 0)) = W9 at hZ9 hB9 ⊢
                            obtain ⟨e0, e1, e2, e3, e4, e5, e6, e7, e8, e9, e10, e11⟩ := box12 hZ9
                            refine bodyPost_ret (v := .tuple #[.agg #[.string ⟨#[]⟩, .int .i64 0, .int .i64 0, .int .i64 0, .int .i64 0, .bool false, .bool false, .bool false, .int .u64 0, .int .i64 0, .string ⟨#[]⟩, .int .i64 0], .bool false]) (by simp [results, Tryz.results84, go_sem, e0, e1, e2, e3, e4, e5, e6, e7, e8, e9, e10, e11]) rfl ⟨?_, hB9⟩
                            rw [HN.out]; rfl
                    · have HS : Hid (sourceR revs x t = some r) := Lib.hid (by
                        rw [HRS.out, all_range_ok (fun j hj => by rw [HA.out j (by omega)]; simp)]
                        simp)
                      clear c0 c1 c3 c4 c5
                      obtain ⟨f0, f1, f2, f3, f4, f5, f6, f7, f8, f9, f10, f11⟩ := box12 hR5
                      obtain ⟨z0, z1, z2, z3, z4, z5, z6, z7, z8, z9, z10, z11⟩ := box12 hZ5
                      obtain ⟨y0, y1, y2, y3, y4, y5, y6, y7, y8, y9, y10, y11⟩ := frz12 hZ5
                      go_wp2_with fail
                      have hZ9 := set12 hZ5 r
                      have hB9 := below12 hb5 (show w.heap.size ≤ w.heap.size + 1 + 1 by omega) r
                      generalize ((((((((((((wr.setCell ⟨w.heap.size + 1 + 1, 0, none⟩ (.string r.path)).setCell ⟨w.heap.size + 1 + 1, 1, none⟩ (.int .i64 r.num)).setCell ⟨w.heap.size + 1 + 1, 2, none⟩ (.int .i64 r.chg)).setCell ⟨w.heap.size + 1 + 1, 3, none⟩ (.int .i64 r.act)).setCell ⟨w.heap.size + 1 + 1, 4, none⟩ (.int .i64 r.ty.base)).setCell ⟨w.heap.size + 1 + 1, 5, none⟩ (.bool r.ty.k)).setCell ⟨w.heap.size + 1 + 1, 6, none⟩ (.bool r.ty.l)).setCell ⟨w.heap.size + 1 + 1, 7, none⟩ (.bool r.ty.x)).setCell ⟨w.heap.size + 1 + 1, 8, none⟩ (.int .u64 r.sum)).setCell ⟨w.heap.size + 1 + 1, 9, none⟩ (.int .i64 r.size)).setCell ⟨w.heap.size + 1 + 1, 10, none⟩ (.string r.frm)).setCell ⟨w.heap.size + 1 + 1, 11, none⟩ (.int .i64 r.fnum)) = W9 at hZ9 hB9 ⊢
                      obtain ⟨e0, e1, e2, e3, e4, e5, e6, e7, e8, e9, e10, e11⟩ := box12 hZ9
                      refine bodyPost_ret (v := .tuple #[.agg #[.string r.path, .int .i64 r.num, .int .i64 r.chg, .int .i64 r.act, .int .i64 r.ty.base, .bool r.ty.k, .bool r.ty.l, .bool r.ty.x, .int .u64 r.sum, .int .i64 r.size, .string r.frm, .int .i64 r.fnum], .bool true]) (by simp [results, Tryz.results84, go_sem, e0, e1, e2, e3, e4, e5, e6, e7, e8, e9, e10, e11]) rfl ⟨?_, hB9⟩
                      rw [HS.out]; rfl
end Go.Proofs.YteolonjmgojoeaaGreatDoor
