/- The walks of FiletypeFormats and FiletypeAll. -/
import Derived.Test.YtfifalpacagacaaDoorAwake
import Derived.Test.YtfifalpacagacaaDoorFormat
namespace Go.Proofs.YtfifalpacagacaaDoor
open Go.RowKit
set_option linter.unusedVariables false

theorem text_base {b : Int} {k l x : Bool} (h : tyOk b k x = true) : 1 ≤ b ∧ b ≤ 3 := (ty_ok_mem b k l x h).1

set_option maxHeartbeats 2000000 in
theorem formats_main (b : Int) (k l x : Bool) (w : World) (he : Env w) :
    Calls Tryd.prog 7 #[.agg #[.int .i64 b, .bool k, .bool l, .bool x]] w fun e w' => e = .returned (.bool true) ∧ Below w.heap.size w w' := by
  have HF := Lib.hid (fun W => format_any b k l x W)
  have HC := Lib.hid (fun W => check_any b k l x W)
  have HR := Lib.hid (fun W => refCheck_any b k l x W)
  cases h : tyOk b k x
  · rw [h] at HF HC HR
    clear h
    go_enter Tryd.func7, Tryd.ntmps7
    go_wp2_with fail
    refine (HF.out _).mono ?_
    rintro e w1 ⟨rfl, hb1⟩
    have hT1 := (blk_new w [.int .i64 b, .bool k, .bool l, .bool x] 27).below hb1 (by simp)
    have hbw1 : Below w.heap.size w w1 := ((Below.refl _ _).alloc (Nat.le_refl _) _).trans (hb1.mono (by simp))
    obtain ⟨y0, y1, y2, y3, z0, z1, z2, z3⟩ := box4 hT1
    go_wp2_with fail
    refine (HR.out _).mono ?_
    rintro e w2 ⟨rfl, hb2⟩
    have hT2 := hT1.below hb2 hT1.lt
    have hbw2 := below_next hbw1 hb2
    clear y0 y1 y2 y3 z0 z1 z2 z3
    obtain ⟨y0, y1, y2, y3, z0, z1, z2, z3⟩ := box4 hT2
    go_wp2_with fail
    refine (HC.out _).mono ?_
    rintro e w3 ⟨rfl, hb3⟩
    have hbw3 := below_next hbw2 hb3
    go_wp2_with fail
    refine (awake_any _ (he.below hbw3)).mono ?_
    rintro e w4 ⟨rfl, hb4⟩
    go_wp2_with fail
    go_ret
    exact ⟨rfl, below_next hbw3 hb4⟩
  · have HX := Lib.hid (fun W => refText_any b k l x W (text_base (l := l) h).1 (text_base (l := l) h).2)
    rw [h] at HF HC HR
    clear h
    go_enter Tryd.func7, Tryd.ntmps7
    go_wp2_with fail
    refine (HF.out _).mono ?_
    rintro e w1 ⟨rfl, hb1⟩
    have hT1 := (blk_new w [.int .i64 b, .bool k, .bool l, .bool x] 27).below hb1 (by simp)
    have hbw1 : Below w.heap.size w w1 := ((Below.refl _ _).alloc (Nat.le_refl _) _).trans (hb1.mono (by simp))
    obtain ⟨y0, y1, y2, y3, z0, z1, z2, z3⟩ := box4 hT1
    go_wp2_with fail
    refine (HR.out _).mono ?_
    rintro e w2 ⟨rfl, hb2⟩
    have hT2 := hT1.below hb2 hT1.lt
    have hbw2 := below_next hbw1 hb2
    clear y0 y1 y2 y3 z0 z1 z2 z3
    obtain ⟨y0, y1, y2, y3, z0, z1, z2, z3⟩ := box4 hT2
    go_wp2_with fail
    refine (HC.out _).mono ?_
    rintro e w3 ⟨rfl, hb3⟩
    have hT3 := hT2.below hb3 hT2.lt
    have hbw3 := below_next hbw2 hb3
    clear y0 y1 y2 y3 z0 z1 z2 z3
    obtain ⟨y0, y1, y2, y3, z0, z1, z2, z3⟩ := box4 hT3
    have hq : ((baL (textT ⟨b, k, l, x⟩)).toList == textT ⟨b, k, l, x⟩) = true := by rw [baL_toList]; simp
    go_wp2_with fail
    refine (HX.out _).mono ?_
    rintro e w4 ⟨rfl, hb4⟩
    have hbw4 := below_next hbw3 hb4
    go_wp2_with fail
    refine (awake_any _ (he.below hbw4)).mono ?_
    rintro e w5 ⟨rfl, hb5⟩
    go_wp2_with fail
    go_ret
    exact ⟨rfl, below_next hbw4 hb5⟩
theorem filetypeFormats_walk (t : Ty) (w : World) (he : Env w) :
    Calls Tryd.prog 7 #[t.val] w fun e w' => e = .returned (.bool true) ∧ Below w.heap.size w w' := formats_main t.base t.k t.l t.x w he

/-! All types have texts of their own. -/
theorem texts_apart : ∀ i < 14, ∀ j < 14, i ≠ j → (allTys[i]?.map textT) ≠ (allTys[j]?.map textT) := by decide +kernel
theorem texts_parse : ∀ t ∈ allTys, parseL (textT t) = some t ∧ t.ok = true ∧ (textT t).length ≤ 20 := by decide +kernel
/-- The map of the texts that were seen. -/
def seenM (n : Nat) : List (ByteArray × Value) := (allTys.take n).map fun t => (baL (textT t), .bool true)

theorem run_neq_ty (a b : Ty) (W : World) : (binOp .neq 27 (.agg #[.int .i64 a.base, .bool a.k, .bool a.l, .bool a.x]) (.agg #[.int .i64 b.base, .bool b.k, .bool b.l, .bool b.x])).run Tryd.prog W = .ok (.bool (!decide (a = b))) W := by
  obtain ⟨a0, a1, a2, a3⟩ := a
  obtain ⟨b0, b1, b2, b3⟩ := b
  rw [run_neq_struct, run_equalIn_agg W 9999 27 _ _ (by kernel_rfl) (by kernel_rfl)]
  simp [go_sem, Op.eqFields]
  by_cases h1 : a0 = b0 <;> by_cases h2 : a1 = b1 <;> by_cases h3 : a2 = b2 <;> by_cases h4 : a3 = b3 <;> simp [h1, h2, h3, h4]
theorem IsMap.len {κ : Type} {kv : κ → Value} {P : Program} {w : World} {B : Nat} {m : List (κ × Value)} (h : IsMap kv w B m) {t k e : TypeId} (ht : P.underlying t = some (.map k e)) (ty : TypeId) :
    (Builtin.len_ #[t] ty #[.map (some B)]).run P w = .ok (.int .i64 m.length) w := by
  obtain ⟨es, clock, hB, hp, -⟩ := h
  have hl : es.size = m.length := by
    have := congrArg List.length hp
    simpa [pairsOf] using this
  have hg : (getObj B).run P w = .ok (.map es clock) w := by simp [getObj, Sem.run, hB]
  simp [Builtin.len_, run_underlying ht, hg, goInt, hl]
theorem map_not_cell {κ : Type} {kv : κ → Value} {w : World} {B : Nat} {m : List (κ × Value)} {a : Addr} {u : Value} (h : IsMap kv w B m) (hc : w.cell? a = some u) : a.block ≠ B := by
  intro e
  obtain ⟨es, clock, hB, -⟩ := h
  rw [← e] at hB
  simp [World.cell?, hB] at hc
theorem TysAt.grown {w w' : World} {g : Nat} {l : List Ty} {row : Option Nat} (h : TysAt w g l) (hg : w.grownBy w' row) (hne : some g ≠ row) (hlt : g < w.heap.size) : TysAt w' g l := fun k hk => by
  have hblk := hg.block g hlt hne
  have hc : ∀ j, w'.cell? ⟨g, j, none⟩ = w.cell? ⟨g, j, none⟩ := fun j => by simp [World.cell?, hblk]
  obtain ⟨a, b, c, d⟩ := h k hk
  exact ⟨(hc _).trans a, (hc _).trans b, (hc _).trans c, (hc _).trans d⟩
theorem seenM_fresh {k : Nat} {t : Ty} (hk : k < 14) (ht : allTys[k]? = some t) : aget (seenM k) (baL (textT t)) = none := by
  unfold aget seenM
  rw [Option.map_eq_none_iff, List.find?_eq_none]
  intro p hp
  obtain ⟨u, hu, rfl⟩ := List.mem_map.1 hp
  obtain ⟨j, hj, e⟩ := List.getElem_of_mem hu
  rw [List.length_take] at hj
  have hj14 : j < 14 := by omega
  have hju : allTys[j]? = some u := by
    rw [List.getElem_take] at e
    rw [← e]; exact List.getElem?_eq_getElem _
  have := texts_apart k hk j hj14 (by omega)
  rw [ht, hju] at this
  simp only [Option.map_some, ne_eq, Option.some.injEq] at this
  simp only [ba_beq]
  simpa using this
theorem seenM_succ {k : Nat} {t : Ty} (hk : k < 14) (ht : allTys[k]? = some t) : aset (seenM k) (baL (textT t)) (.bool true) = seenM (k + 1) := by
  have hf := seenM_fresh hk ht
  have : aset (seenM k) (baL (textT t)) (.bool true) = seenM k ++ [(baL (textT t), .bool true)] := by
    apply aset_push _ _ _ 0
    unfold aget at hf
    rw [Option.map_eq_none_iff, List.find?_eq_none] at hf
    rw [List.find?_eq_none]
    intro q hq
    have := List.of_mem_zip (l₁ := seenM k) (by rw [List.zipIdx_eq_zip_range'] at hq; exact hq)
    exact hf q.1 this.1
  rw [this]
  unfold seenM
  rw [List.take_add_one, ht]
  simp

set_option maxRecDepth 100000 in
set_option maxHeartbeats 2000000 in
theorem filetypeAll_walk (w : World) (he : Env w) :
    Calls Tryd.prog 8 #[] w fun e w' => e = .returned (.bool true) ∧ Below w.heap.size w w' := by
  have K := keyOk_string Tryd.underlying9
  have hmm := run_mkMap0 (P := Tryd.prog) 45 9 4 Tryd.underlying45
  go_enter Tryd.func8, Tryd.ntmps8
  go_wp2_with fail
  refine (all_any _).mono ?_
  rintro e w1 ⟨g, c, rfl, hg, hb1⟩
  have hm1 := (IsMap.new Value.string w).below hb1
  have hbw1 : Below w.heap.size w w1 := ((Below.refl _ _).alloc (Nat.le_refl _) _).trans (hb1.mono (by simp))
  have hne : g ≠ w.heap.size := by
    have h0 := (hg 0 (by rw [allTys_eq]; decide)).1
    exact map_not_cell hm1 h0
  clear hmm hb1
  go_wp2_with fail
  go_loopw [11] (fun i wr => ∃ k : Nat, k ≤ 14 ∧ i = .int .i64 k ∧ IsMap Value.string wr w.heap.size (seenM k) ∧ TysAt wr g allTys ∧ Below w.heap.size w wr) (fun i _ => 14 - (intOf i).toNat)
  case atStart => exact ⟨0, by omega, rfl, hm1, hg, hbw1⟩
  case round =>
    clear hm1 hg hbw1
    obtain ⟨k, hk, rfl, hm, hg, hb⟩ := hrel
    have hlm := hm.lt
    by_cases hlt : k < 14
    · have hkl : k < allTys.length := by rw [allTys_eq]; exact hlt
      obtain ⟨c0, c1, c2, c3⟩ := hg k hkl
      have hlg : g < wr.heap.size := cell_lt c0
      have hgt : allTys[k]? = some allTys[k] := List.getElem?_eq_getElem _
      obtain ⟨hp1, hp2, hp3⟩ := texts_parse allTys[k] (List.getElem_mem _)
      generalize allTys[k] = t at c0 c1 c2 c3 hgt hp1 hp2 hp3
      have hsz : (baL (textT t)).size ≤ maxLen := by rw [baL_size]; unfold maxLen; omega
      have HF := Lib.hid (fun W => format_ok t.base t.k t.l t.x W hp2)
      have HP := Lib.hid (fun W => parse_any (baL (textT t)) W hsz)
      rw [baL_data, hp1] at HP
      have HP : Hid (∀ W, Calls Tryd.prog 18 #[.string (baL (textT t))] W fun e w' => e = .returned (.tuple #[.agg #[.int .i64 t.base, .bool t.k, .bool t.l, .bool t.x], .int .i64 0]) ∧ Below W.heap.size W w') := Lib.hid HP.out
      have hneq := run_neq_ty t t
      simp only [decide_true, Bool.not_true] at hneq
      have HGT := Lib.hid hgt
      have HM := Lib.hid hm
      have HG := Lib.hid hg
      obtain ⟨tb, tk, tl, tx⟩ := t
      clear hp1 hp2 hp3 hsz hgt hm hg
      go_wp2_with fail
      refine (HF.out _).mono ?_
      rintro e w2 ⟨rfl, hb2⟩
      have hT2 := (blk_new wr [.int .i64 tb, .bool tk, .bool tl, .bool tx] 27).below hb2 (by simp)
      have hbr2 : Below wr.heap.size wr w2 := ((Below.refl _ _).alloc (Nat.le_refl _) _).trans (hb2.mono (by simp))
      clear c0 c1 c2 c3 hb2
      have hlT2 := hT2.lt
      go_wp2_with fail
      refine (HP.out _).mono ?_
      rintro e w3 ⟨rfl, hb3⟩
      have hbr3 := below_next hbr2 hb3
      have hT3 := hT2.below hb3 hlT2
      have hm3 := HM.out.below hbr3
      have hbw3 := below_next hb hbr3
      have hl3 : wr.heap.size < w3.heap.size := hT3.lt
      have hm4 := hm3.alloc (.cells #[.int .i64 tb, .bool tk, .bool tl, .bool tx] 27)
      have hlk := hm4.lookup K Tryd.underlying45 (z := .bool false) (by kernel_rfl) (baL (textT ⟨tb, tk, tl, tx⟩)) false
      rw [seenM_fresh hlt HGT.out] at hlk
      simp only [Option.getD_none, Bool.false_eq_true, if_false] at hlk
      obtain ⟨w5, hup, hm5, hg5, hs5⟩ := hm4.update K Tryd.underlying45 (baL (textT ⟨tb, tk, tl, tx⟩)) (.bool true)
      rw [seenM_succ hlt HGT.out] at hm5
      have hg3 := HG.out.below hbr3
      have hg4 : TysAt (w3.alloc (.cells #[.int .i64 tb, .bool tk, .bool tl, .bool tx] 27)) g allTys := hg3.below ((Below.refl _ _).alloc (Nat.le_refl _) _)
      have hgg := hg4.grown hg5 (by intro e; injection e with e; exact hne e) (by simp; omega)
      have hbw4 : Below w.heap.size w (w3.alloc (.cells #[.int .i64 tb, .bool tk, .bool tl, .bool tx] 27)) := hbw3.alloc hbw3.size _
      have hbw5 : Below w.heap.size w w5 := hbw4.trans (below_of_grown hg5 (Nat.le_refl _) hbw4.size)
      have HM5 := Lib.hid hm5
      have HG5 := Lib.hid hgg
      clear hm5 hgg hm3 hm4 hg3 hg4 hg5 hs5
      obtain ⟨y0, y1, y2, y3, z0, z1, z2, z3⟩ := box4 hT3
      go_wp2_with fail
      go_roundw
      case rel => exact ⟨k + 1, by omega, by go_num, HM5.out, HG5.out, hbw5⟩
      case measure => simp [intOf]; omega
    · obtain rfl : k = 14 := by omega
      have hlen := fun ty => hm.len (P := Tryd.prog) Tryd.underlying45 ty
      have h14 : (seenM 14).length = 14 := by unfold seenM; rw [List.length_map, List.length_take, allTys_eq]; rfl
      rw [h14] at hlen
      go_wp2_with fail
      refine (awake_any _ (he.below hb)).mono ?_
      rintro e w2 ⟨rfl, hb2⟩
      go_wp2_with fail
      go_ret
      exact ⟨rfl, below_next hb hb2⟩

end Go.Proofs.YtfifalpacagacaaDoor
