/- The contracts of keyword.replace, Collapse and Expand. -/
import Derived.Test.YteolonjmgojoeaaGreatDoorMgw4
import Derived.Test.YteolonjmgojoeaaGreatDoorMzKOccs
namespace Go.Proofs.YteolonjmgojoeaaGreatDoor.kw
set_option linter.unusedVariables false
set_option linter.unusedSimpArgs false
set_option maxRecDepth 100000
open Go.RowKit
attribute [local go_sem] Oper.semAt_some

theorem byteInfo : (Tryz.prog.info? 5).map (fun i => (i.zero, i.size, i.bytes)) = some (some (.int .u8 0), 1, 1) := by kernel_rfl
theorem byteElem : ElemOk Tryz.prog 44 5 1 1 := elemOk_of Tryz.underlying44 byteInfo rfl (by decide)

def valOf (words : List (ByteArray × ByteArray)) (nm : ByteArray) : ByteArray := ((words.find? (fun p => nm == p.1)).map (·.2)).getD ⟨#[]⟩
theorem aget_valOf (words : List (ByteArray × ByteArray)) (nm : ByteArray) : (aget (tabM words) nm).getD (.string ⟨#[]⟩) = .string (valOf words nm) := by
  induction words with
  | nil => rfl
  | cons p l ih =>
    simp only [aget, tabM, valOf, List.map_cons, List.find?_cons] at ih ⊢
    cases hx : (nm == p.1)
    · exact ih
    · rfl
theorem valOf_size (words : List (ByteArray × ByteArray)) (nm : ByteArray) (h : ∀ s ∈ words, s.1.size ≤ 100000 ∧ s.2.size ≤ 100000) : (valOf words nm).size ≤ 100000 := by
  unfold valOf
  cases hf : words.find? (fun p => nm == p.1) with
  | none => simp [ByteArray.size]
  | some p => exact (h p (List.mem_of_find?_eq_some hf)).2

/-- What replaces an occurrence of a name. -/
def txtL (words : List (ByteArray × ByteArray)) (txt : ByteArray → ByteArray → ByteArray) (nm : List UInt8) : List UInt8 := (txt ⟨nm.toArray⟩ (valOf words ⟨nm.toArray⟩)).data.toList

def ReplP (b : List UInt8) (words : List (ByteArray × ByteArray)) (txt : ByteArray → ByteArray → ByteArray) (w : World) (e : Ending) (w' : World) : Prop :=
  (tabB words = true → ∃ v, e = .returned (.tuple #[v, .int .i64 0]) ∧ Bytes w' v (replL b (txtL words txt) (occs (namesOf words) b 0))) ∧
  (tabB words = false → e = .returned (.tuple #[.slice none 0 0, .int .i64 100])) ∧ Below w.heap.size w w'

set_option maxHeartbeats 1000000 in
theorem replace_any (b : List UInt8) (words : List (ByteArray × ByteArray)) (txt : ByteArray → ByteArray → ByteArray) (tf : Nat) (v1 v2 : Value) (w : World) (hb : Bytes w v1 b) (hn : Pairs w v2 words) (hl : b.length ≤ 2000000) (hl2 : words.length ≤ 1000) (hsz : ∀ s ∈ words, s.1.size ≤ 100000 ∧ s.2.size ≤ 100000)
    (htf : ∀ nm val W, nm.size ≤ 2000000 → val.size ≤ 100000 → Calls Tryz.prog tf #[.string nm, .string val] W fun e w' => e = .returned (.string (txt nm val)) ∧ w' = W)
    (hen : ∀ args w, (callFunc tf args).run Tryz.prog w = .ok (.enter tf args) w) (hts : ∀ nm val, nm.size ≤ 2000000 → val.size ≤ 100000 → (txt nm val).size ≤ 2200000) :
    Calls Tryz.prog 75 #[v1, v2, .func (.func tf) #[] #[]] w (ReplP b words txt w) := by
  have HB := Lib.hid hb
  have HT := Lib.hid (fun W h => table_any words v2 W h hl2 hsz)
  have HN := Lib.hid hn
  have HS := Lib.hid hsz
  have HF := Lib.hid htf
  have HTS := Lib.hid hts
  clear hsz htf hts
  obtain ⟨A1, c1, rfl, -⟩ := hb
  obtain ⟨A2, c2, rfl, -⟩ := hn
  obtain ⟨n, -⟩ : ∃ n : Nat, n = n := ⟨5, rfl⟩
  refine callsIn_wide.1 (callsIn_of_wp_marks (n := n) Tryz.func75 rfl trivial ?_ rfl)
  simp only [Tryz.ntmps75, List.size_toArray, List.length_cons, List.length_nil, Nat.reduceAdd, Nat.reduceSub, Array.replicate_succ, Array.replicate_zero, List.push_toArray, List.append_toArray, List.nil_append, List.cons_append]
  gi_wp2_with fail
  obtain ⟨wa, hwa⟩ : ∃ wa, ((w.alloc (.cells #[.slice A1 b.length c1] 44)).alloc (.cells #[.func (.func tf) #[] #[]] 150)) = wa := ⟨_, rfl⟩
  have hba : Below w.heap.size w wa := by rw [← hwa]; exact ((Below.refl _ _).alloc (Nat.le_refl _) _).alloc (by simp) _
  have hsza : wa.heap.size = w.heap.size + 2 := by rw [← hwa]; simp
  have hBb : Boxed wa w.heap.size 44 (.slice A1 b.length c1) := by rw [← hwa]; exact (Boxed.new w _ _).alloc _
  have hBt : Boxed wa (w.heap.size + 1) 150 (.func (.func tf) #[] #[]) := by
    rw [← hwa]
    have := Boxed.new (w.alloc (.cells #[.slice A1 b.length c1] 44)) 150 (.func (.func tf) #[] #[])
    rwa [World.size_alloc] at this
  rw [hwa]
  clear hwa
  refine ⟨trivial, fun h => (by cases h), ?_⟩
  refine (callsIn_wide.2 (HT.out wa (HN.out.below hba))).mono ?_
  cases htab : tabB words
  · rintro e w2 ⟨-, h2, hb2⟩
    obtain rfl := h2 htab
    clear h2
    gi_wp2
    refine ⟨_, results_tmp2 rfl _ _ _, ?_⟩
    exact ⟨(fun h => by rw [htab] at h; cases h), fun _ => rfl, (hba.trans (hb2.mono hba.size)).alloc (by have := hba.size; have := hb2.size; omega) _⟩
  · rintro e w2 ⟨h2, -, hb2⟩
    obtain ⟨B, rfl, hmap⟩ := h2 htab
    clear h2
    have hb02 : Below w.heap.size w w2 := hba.trans (hb2.mono hba.size)
    have hsz2 := hb2.size
    have hBb2 : Boxed w2 w.heap.size 44 (.slice A1 b.length c1) := (hb2.block _ (by omega)).trans hBb
    have hBt2 : Boxed w2 (w.heap.size + 1) 150 (.func (.func tf) #[] #[]) := (hb2.block _ (by omega)).trans hBt
    have hcb2 : ∀ o1 o2 o3, (((w2.alloc o1).alloc o2).alloc o3).cell? ⟨w.heap.size, 0, none⟩ = some (.slice A1 b.length c1) := fun o1 o2 o3 => cell_alloc (cell_alloc (cell_alloc hBb2.cell o1) o2) o3
    gi_wp2_with fail
    refine ⟨trivial, fun h => (by cases h), ?_⟩
    refine (callsIn_wide.2 (occurrences_any _ _ _ ⟨_, _, _, rfl⟩ ⟨_, rfl⟩)).mono ?_
    rintro e w3 ⟨rfl, rfl⟩
    gi_wp2_with fail
    obtain ⟨W0, hW0⟩ : ∃ W0, (((((w2.alloc (.cells #[.map (some B)] 115)).alloc (.cells #[.slice none 0 0] 44)).alloc (.cells #[.int .i64 0] 3)).alloc (.cells #[.slice A1 b.length c1] 44)).alloc (.cells #[.map (some B)] 115)) = W0 := ⟨_, rfl⟩
    have hsz0 : W0.heap.size = w2.heap.size + 5 := by rw [← hW0]; simp
    have hb20 : Below w2.heap.size w2 W0 := by rw [← hW0]; exact (((((Below.refl _ _).alloc (Nat.le_refl _) _).alloc (by simp) _).alloc (by simp; omega) _).alloc (by simp; omega) _).alloc (by simp; omega) _
    have hM0 : Boxed W0 w2.heap.size 115 (.map (some B)) := by rw [← hW0]; exact ((((Boxed.new w2 _ _).alloc _).alloc _).alloc _).alloc _
    have hM1 : Boxed W0 (w2.heap.size + 1) 44 (.slice none 0 0) := by
      rw [← hW0]; have := ((((Boxed.new (w2.alloc (.cells #[.map (some B)] 115)) 44 (.slice none 0 0)).alloc (.cells #[.int .i64 0] 3)).alloc (.cells #[.slice A1 b.length c1] 44)).alloc (.cells #[.map (some B)] 115))
      rwa [World.size_alloc] at this
    have hM2 : Boxed W0 (w2.heap.size + 1 + 1) 3 (.int .i64 0) := by
      rw [← hW0]; have := (((Boxed.new ((w2.alloc (.cells #[.map (some B)] 115)).alloc (.cells #[.slice none 0 0] 44)) 3 (.int .i64 0)).alloc (.cells #[.slice A1 b.length c1] 44)).alloc (.cells #[.map (some B)] 115))
      rwa [World.size_alloc, World.size_alloc] at this
    have hM3 : Boxed W0 (w2.heap.size + 1 + 1 + 1) 44 (.slice A1 b.length c1) := by
      rw [← hW0]; have := ((Boxed.new (((w2.alloc (.cells #[.map (some B)] 115)).alloc (.cells #[.slice none 0 0] 44)).alloc (.cells #[.int .i64 0] 3)) 44 (.slice A1 b.length c1)).alloc (.cells #[.map (some B)] 115))
      rwa [World.size_alloc, World.size_alloc, World.size_alloc] at this
    have hM4 : Boxed W0 (w2.heap.size + 1 + 1 + 1 + 1) 115 (.map (some B)) := by
      rw [← hW0]; have := (Boxed.new ((((w2.alloc (.cells #[.map (some B)] 115)).alloc (.cells #[.slice none 0 0] 44)).alloc (.cells #[.int .i64 0] 3)).alloc (.cells #[.slice A1 b.length c1] 44)) 115 (.map (some B)))
      rwa [World.size_alloc, World.size_alloc, World.size_alloc, World.size_alloc] at this
    rw [hW0]
    clear hW0 hcb2
    obtain ⟨X, hX⟩ : ∃ X : Nat → Prop, X = fun k => k = w2.heap.size + 1 ∨ k = w2.heap.size + 1 + 1 := ⟨_, rfl⟩
    have hXn : ∀ k, k < w2.heap.size + 1 → ¬ X k := fun k hk => by rw [hX]; simp; omega
    have hXn' : ∀ k, w2.heap.size + 1 + 1 < k → ¬ X k := fun k hk => by rw [hX]; simp; omega
    have hX1 : X (w2.heap.size + 1) := by rw [hX]; exact .inl rfl
    have hX2 : X (w2.heap.size + 1 + 1) := by rw [hX]; exact .inr rfl
    clear hX
    -- what the loop reads is kept
    have hrd : ∀ V, KeepN W0.heap.size X W0 V → Boxed V w.heap.size 44 (.slice A1 b.length c1) ∧ Boxed V (w.heap.size + 1) 150 (.func (.func tf) #[] #[]) ∧ Boxed V w2.heap.size 115 (.map (some B)) ∧
        Boxed V (w2.heap.size + 1 + 1 + 1) 44 (.slice A1 b.length c1) ∧ Boxed V (w2.heap.size + 1 + 1 + 1 + 1) 115 (.map (some B)) ∧ Bytes V (.slice A1 b.length c1) b ∧ IsMap Value.string V B (tabM words) ∧ Below w.heap.size w V := by
      intro V hV
      have hbV : Below w2.heap.size w2 V := hb20.trans (hV.below (by omega) (fun k hk => hXn k (by omega)))
      refine ⟨(hbV.block _ (by omega)).trans hBb2, (hbV.block _ (by omega)).trans hBt2, (hV.block _ (by omega) (hXn _ (by omega))).trans hM0, (hV.block _ (by omega) (hXn' _ (by omega))).trans hM3, (hV.block _ (by omega) (hXn' _ (by omega))).trans hM4, (HB.out.below hb02).below hbV, hmap.below hbV, hb02.trans (hbV.mono hb02.size)⟩
    have HRD := Lib.hid hrd
    clear hrd
    have hiter : IterX Tryz.prog 112 #[.pointer (some ⟨w2.heap.size + 1 + 1 + 1, 0, none⟩), .pointer (some ⟨w2.heap.size + 1 + 1 + 1 + 1, 0, none⟩)] encOcc (occs (namesOf words) b 0) W0.heap.size X W0 := by
      refine occurrences1_iter words b (.slice A1 b.length c1) W0.heap.size _ _ B X W0 (by omega) (fun V hV => ?_)
      obtain ⟨-, -, -, h3, h4, h5, h6, -⟩ := HRD.out V hV
      exact ⟨h3.cell, h4.cell, h5, h6⟩
    refine wpIn_rangeX (A := Occ) (gf := 112) (lb := #[.pointer (some ⟨w2.heap.size + 1 + 1 + 1, 0, none⟩), .pointer (some ⟨w2.heap.size + 1 + 1 + 1 + 1, 0, none⟩)]) rfl (enters_of Tryz.func112 (by kernel_rfl) rfl) hiter (fun _ => rfl)
      (fun pre V => (∃ v, Boxed V (w2.heap.size + 1) 44 v ∧ V.ownsRow W0.heap.size 5 1 v (replSt b (txtL words txt) pre).1.length ((replSt b (txtL words txt) pre).1.map fun b => .int .u8 b.toNat)) ∧ Boxed V (w2.heap.size + 1 + 1) 3 (.int .i64 ((replSt b (txtL words txt) pre).2 : Nat)) ∧ KeepN W0.heap.size X W0 V)
      ?hI ⟨⟨_, hM1, World.ownsRow_nil _ _ _ _⟩, hM2, KeepN.refl _ _ _⟩
      (fun x a' V => ∃ Bx, Blk V Bx 169 [.int .i64 (x.1 : Nat), .int .i64 (x.2.1 : Nat)] ∧ W0.heap.size ≤ Bx ∧ a' = { tmps := #[.slice A1 b.length c1, .slice A2 words.length c2, .func (.func tf) #[] #[], .pointer (some ⟨w.heap.size, 0, none⟩), undef, .pointer (some ⟨w.heap.size + 1, 0, none⟩), .slice none 0 0, .int .i64 0, .pointer (some ⟨w2.heap.size, 0, none⟩), .int .i64 0, .pointer (some ⟨w2.heap.size + 1, 0, none⟩), .pointer (some ⟨w2.heap.size + 1 + 1, 0, none⟩), .pointer (some ⟨Bx, 0, none⟩), .string ⟨x.2.2.toArray⟩, .tuple #[.map (some B), .int .i64 0], .slice A2 words.length c2, .tuple #[.map (some B), .int .i64 0], .map (some B), .int .i64 0, .int .i64 0, .bool false, undef, .slice A1 b.length c1, .map (some B), .func (.func 112) #[] #[.pointer (some ⟨w2.heap.size + 1 + 1 + 1, 0, none⟩), .pointer (some ⟨w2.heap.size + 1 + 1 + 1 + 1, 0, none⟩)], .agg #[.int .i64 (x.1 : Nat), .int .i64 (x.2.1 : Nat)], .string ⟨x.2.2.toArray⟩, undef, undef, undef, undef, undef, undef, undef, undef, undef, undef, undef, undef, undef, undef, undef, undef, undef, undef, undef, undef, undef, undef, undef], defers := [] })
      ?hAx ?assign ?body ?done
    case hI =>
      rintro pre V V' ⟨⟨v, hv, hr⟩, hc, hk⟩ hg hl'
      exact ⟨⟨v, steady_boxed hv (by omega) hg, steady_row hr hg hl'⟩, steady_boxed hc (by omega) hg, steady_keep hk hk.size hg⟩
    case hAx =>
      rintro x a' _ V V' ⟨Bx, h1, h2, h3⟩ hg hl'
      exact ⟨Bx, steady_blk h1 hg hl', h2, h3⟩
    case assign =>
      rintro y pre x rest V K hxs ⟨⟨v, hv, hr⟩, hc, hk⟩ hlt hK
      unfold encOcc
      gi_wp2
      exact hK _ _ ((KeepN.refl _ _ _).grown (World.grownBy_alloc _ _ none) (by omega) (fun k e => by cases e)) (Below.heap_alloc _ _ _ (by omega)) (Below.heap_alloc _ _ _ hlt)
        ⟨⟨v, hv.alloc _, hr.alloc _⟩, hc.alloc _, hk.grown (World.grownBy_alloc _ _ none) (by omega) (fun k e => by cases e)⟩ ⟨V.heap.size, blk_new _ _ _, by omega, rfl⟩
    case body =>
      rintro y pre x rest a' V hxs ⟨⟨v, hv, hr⟩, hc, hk⟩ ⟨Bx, hbx, hBx, rfl⟩ hD ⟨r, hL⟩
      obtain ⟨o1, o2, o3, o4, o5⟩ := occs_at (namesOf words) b (txtL words txt) pre rest x hxs
      have HO5 := Lib.hid o5
      clear o5
      have hsz : ∀ o ∈ pre, (txtL words txt o.2.2).length ≤ 2200000 := by
        intro o ho
        obtain ⟨q1, q2, rfl⟩ := List.append_of_mem ho
        obtain ⟨-, -, -, h4, -⟩ := occs_at (namesOf words) b (txtL words txt) q1 (q2 ++ x :: rest) o (by rw [hxs]; simp)
        exact HTS.out ⟨o.2.2.toArray⟩ _ (by simp [ByteArray.size]; omega) (valOf_size words _ HS.out)
      obtain ⟨z1, z2⟩ := replSt_len b (txtL words txt) 2200000 (namesOf words) (x :: rest) pre hxs hsz
      clear hsz
      have z3 : pre.length ≤ b.length := by have := occs_length (namesOf words) b 0; rw [hxs] at this; simp at this; omega
      have HST := Lib.hid (replSt_snoc b (txtL words txt) pre x)
      obtain ⟨out, cp, hst⟩ : ∃ out cp, replSt b (txtL words txt) pre = (out, cp) := ⟨_, _, rfl⟩
      rw [hst] at hr hc o1 z1 z2 HST
      simp only at hr hc o1 z1 z2 HST
      clear hst hxs
      have z4 : out.length ≤ 2000000 + 2000000 * 2200000 := by have : pre.length * 2200000 ≤ 2000000 * 2200000 := Nat.mul_le_mul_right _ (by omega); omega
      obtain ⟨A', c', rfl⟩ : ∃ A' c', v = .slice A' out.length c' := by
        rcases hr.2 with ⟨e1, e2⟩ | ⟨g, cap, cur, e1, _⟩
        · exact ⟨none, 0, by rw [e1, e2]⟩
        · exact ⟨_, cap, e1⟩
      obtain ⟨k1, k2, k3, -, -, k6, k7, -⟩ := HRD.out V hk
      have hV := hk.size
      obtain ⟨As, cs, hsub, hrow⟩ := run_sub (P := Tryz.prog) (w := V.drew) (x := (cp : Int)) (y := (x.1 : Nat)) (kx := .i64) (ky := .i64) (lo := cp) (hi := x.1) Tryz.underlying44 (fun w => Tryz.sizeOf5 w) (show Row V.drew 1 _ _ _ from k6) o1 (by omega) rfl rfl
      have hone : ∀ u ∈ List.take ((x.1 - cp) * 1) (List.drop (cp * 1) (List.map (fun b : UInt8 => Value.int .u8 (b.toNat : Int)) b)), u.oneCell' = true := by
        intro u hu
        have := List.mem_of_mem_drop (List.mem_of_mem_take hu)
        rw [List.mem_map] at this
        obtain ⟨_, _, rfl⟩ := this
        rfl
      have HONE := Lib.hid hone
      clear hone
      have c1 := hv.cell
      have c2 := k1.cell
      have c3 := hc.cell
      have c4 := hbx.cell 0
      gi_wp2
      refine wpIn_round_still_tail 6 (by kernel_rfl) (by kernel_rfl) (by kernel_rfl) ?hQ ?_
      case hQ => rintro ⟨a, w, h⟩; exact h
      simp only [List.take_succ_cons, List.take_zero, List.drop_succ_cons, List.drop_zero]
      repeat still_step
      refine wpStill_nil ?_
      go_wp2_with (at_builtin; refine wpList_app rfl rfl byteElem hr.drew rfl hrow rfl HONE.out (by omega) (by unfold maxLen; omega) (by simp; omega) ?_; intro A5 c5 w5 hown1 hg1 _; obtain ⟨q1, q2, q3, q4⟩ := collect_upd hv (by omega) hr (grownBy_drewN V 1 none) hown1 hg1; have hq1 := q1.cell; have hq2 := q1.frozen)
      -- behind the first append
      have hc1 : Boxed _ (w2.heap.size + 1 + 1) 3 (.int .i64 (cp : Nat)) := q4.keep_other hr hc (by omega) (by intro _ _ h; cases h)
      have hbx1 : Blk _ Bx 169 [.int .i64 (x.1 : Nat), .int .i64 (x.2.1 : Nat)] := q4.keep_other hr hbx (by omega) (by intro _ _ h; cases h)
      have hD1 := q4.keep_other hr hD (by omega) (by intro _ _ h; cases h)
      have hL1 := q4.keep_other hr hL (by omega) (by intro _ _ h; cases h)
      have hk1 : KeepN W0.heap.size X V _ := q4.keepN hV (fun k e => (hr.lt k e).1) hX1
      have hk01 := hk.trans hk1
      clear hsub hrow HONE hown1 hg1 q1 hq1 hq2 q4 c1 c2 c3 c4 k1 k2 k3 k6 k7 hr hv hc hbx
      generalize w5.setCell ⟨w2.heap.size + 1, 0, none⟩ (.slice A5 (out.length + (x.1 - cp)) c5) = V1 at *
      obtain ⟨-, k2, k3, -, -, -, k7, -⟩ := HRD.out V1 hk01
      obtain ⟨nm, hnm⟩ : ∃ nm : ByteArray, nm = ⟨x.2.2.toArray⟩ := ⟨_, rfl⟩
      have hnms : nm.size ≤ 2000000 := by rw [hnm]; simp [ByteArray.size]; omega
      have hvs := valOf_size words nm HS.out
      have hxs := HTS.out nm (valOf words nm) hnms hvs
      have hlk := (show IsMap Value.string V1.drew B (tabM words) from k7).lookup strKey Tryz.underlying115 (zeroStr _) nm false
      simp only [aget_valOf, Bool.false_eq_true, if_false] at hlk
      have HCT := Lib.hid (HF.out nm (valOf words nm) V1.drew hnms hvs)
      rw [← hnm]
      have HNM := Lib.hid hnm
      clear hnm
      have hV1 := hk01.size
      have d1 := q2.cell
      have d2 := k2.cell
      have d3 := k3.cell
      gi_wp2
      refine wpIn_round_still_tail 7 (by kernel_rfl) (by kernel_rfl) (by kernel_rfl) ?hQ2 ?_
      case hQ2 => rintro ⟨a, w, h⟩; exact h
      simp only [List.take_succ_cons, List.take_zero, List.drop_succ_cons, List.drop_zero]
      repeat still_step
      still_call HCT.out
      refine wpStill_nil ?_
      go_wp2_with (at_builtin; refine wpList_app_str rfl rfl Tryz.underlying9 Tryz.underlying44 byteInfo q3.drew rfl (txt nm (valOf words nm)) rfl (by omega) (by simp; omega) ?_; intro A6 c6 w6 hown2 hg2; obtain ⟨p1, p2, p3, p4⟩ := collect_upd q2 (by omega) q3 (grownBy_drewN V1 1 none) hown2 hg2; have hp1 := p1.cell; have hp2 := p1.frozen)
      -- behind the second append
      have hc2 : Boxed _ (w2.heap.size + 1 + 1) 3 (.int .i64 (cp : Nat)) := p4.keep_other q3 hc1 (by omega) (by intro _ _ h; cases h)
      have hbx2 : Blk _ Bx 169 [.int .i64 (x.1 : Nat), .int .i64 (x.2.1 : Nat)] := p4.keep_other q3 hbx1 (by omega) (by intro _ _ h; cases h)
      have hD2 := p4.keep_other q3 hD1 (by omega) (by intro _ _ h; cases h)
      have hL2 := p4.keep_other q3 hL1 (by omega) (by intro _ _ h; cases h)
      have hk2 : KeepN W0.heap.size X V1 _ := p4.keepN hV1 (fun k e => (q3.lt k e).1) hX1
      have hk12 := hk1.trans hk2
      have hk02 := hk01.trans hk2
      have HXS := Lib.hid hxs
      clear hlk HCT hown2 hg2 p1 hp1 hp2 p4 d1 d2 d3 k2 k3 k7 hk1 hk2 hk01 q2 q3 hc1 hbx1 hD1 hL1 hxs
      generalize w6.setCell ⟨w2.heap.size + 1, 0, none⟩ (.slice A6 (out.length + (x.1 - cp) + (txt nm (valOf words nm)).size) c6) = V2 at *
      have e1 := hbx2.cell 1
      have e2 := hc2.cell
      have e3 := hc2.frozen
      gi_wp2
      have hV2 := hk02.size
      have hne : w2.heap.size + 1 + 1 < W0.heap.size := by omega
      have hset : KeepN W0.heap.size X V2 (V2.setCell ⟨w2.heap.size + 1 + 1, 0, none⟩ (.int .i64 ((x.2.1 : Nat) + 1 : Int))) :=
        (KeepN.refl _ _ _).grown (grownBy_setCell' V2 _ _) hV2 (fun k e _ => by injection e with e; exact e ▸ hX2)
      refine ⟨hk12.trans hset, ?_, ?_, ?_, ?_, hk02.trans hset⟩
      · rw [Below.heap_setCell _ _ _ _ (show W0.heap.size ≠ w2.heap.size + 1 + 1 by omega), hD2, hD]
      · rw [Below.heap_setCell _ _ _ _ (show W0.heap.size + 1 ≠ w2.heap.size + 1 + 1 by omega), hL2, hL]
      · refine ⟨_, p2.other (by omega) _, ?_⟩
        have hrow3 := p3.kept (grownBy_setCell' V2 (w2.heap.size + 1 + 1) (.int .i64 ((x.2.1 : Nat) + 1 : Int))) (by
          cases hv : (Value.slice A6 (out.length + (x.1 - cp) + (txt nm (valOf words nm)).size) c6).ownBlock with
          | none => exact .inl rfl
          | some g => exact .inr (fun e => by injection e with e; have := (p3.lt g hv).1; omega))
        rw [HST.out]
        have ht : txtL words txt x.2.2 = (txt nm (valOf words nm)).data.toList := by unfold txtL; rw [HNM.out]
        have hl1 : (out ++ List.take (x.1 - cp) (List.drop cp b) ++ txtL words txt x.2.2).length = out.length + (x.1 - cp) + (txt nm (valOf words nm)).size := by
          rw [ht, List.length_append, List.length_append, List.length_take, List.length_drop, Nat.min_eq_left (by omega)]; rfl
        have hl2 : List.map (fun b : UInt8 => Value.int .u8 (b.toNat : Int)) (out ++ List.take (x.1 - cp) (List.drop cp b) ++ txtL words txt x.2.2) =
            List.map (fun b : UInt8 => Value.int .u8 (b.toNat : Int)) out ++ List.take ((x.1 - cp) * 1) (List.drop (cp * 1) (List.map (fun b : UInt8 => Value.int .u8 (b.toNat : Int)) b)) ++ List.map (fun b : UInt8 => Value.int .u8 (b.toNat : Int)) (txt nm (valOf words nm)).data.toList := by
          rw [ht, List.map_append, List.map_append, List.map_take, List.map_drop, Nat.mul_one, Nat.mul_one]
        simp only [hl1, hl2]
        exact hrow3
      · rw [HST.out]
        exact hc2.set _
    case done =>
      rintro V ⟨⟨v, hv, hr⟩, hc, hk⟩ hD
      have hsz : ∀ o ∈ occs (namesOf words) b 0, (txtL words txt o.2.2).length ≤ 2200000 := by
        intro o ho
        obtain ⟨q1, q2, hq⟩ := List.append_of_mem ho
        obtain ⟨-, -, -, h4, -⟩ := occs_at (namesOf words) b (txtL words txt) q1 q2 o hq
        exact HTS.out ⟨o.2.2.toArray⟩ _ (by simp [ByteArray.size]; omega) (valOf_size words _ HS.out)
      obtain ⟨z1, z2⟩ := replSt_len b (txtL words txt) 2200000 (namesOf words) [] (occs (namesOf words) b 0) (by simp) hsz
      clear hsz
      have z3 := occs_length (namesOf words) b 0
      have HFIN : Hid (replL b (txtL words txt) (occs (namesOf words) b 0) = (replSt b (txtL words txt) (occs (namesOf words) b 0)).1 ++ b.drop (replSt b (txtL words txt) (occs (namesOf words) b 0)).2) := Lib.hid rfl
      obtain ⟨out, cp, hst⟩ : ∃ out cp, replSt b (txtL words txt) (occs (namesOf words) b 0) = (out, cp) := ⟨_, _, rfl⟩
      rw [hst] at hr hc z1 z2 HFIN
      simp only at hr hc z1 z2 HFIN
      clear hst
      have z4 : out.length ≤ 2000000 + 2000000 * 2200000 := by have : (occs (namesOf words) b 0).length * 2200000 ≤ 2000000 * 2200000 := Nat.mul_le_mul_right _ (by omega); omega
      obtain ⟨A', c', rfl⟩ : ∃ A' c', v = .slice A' out.length c' := by
        rcases hr.2 with ⟨e1, e2⟩ | ⟨g, cap, cur, e1, _⟩
        · exact ⟨none, 0, by rw [e1, e2]⟩
        · exact ⟨_, cap, e1⟩
      obtain ⟨k1, -, -, -, -, k6, -, k8⟩ := HRD.out V hk
      have hV := hk.size
      obtain ⟨As, cs, hsub, hrow⟩ := run_sub_from (P := Tryz.prog) (w := V.drew) (x := (cp : Int)) (kx := .i64) (lo := cp) Tryz.underlying44 (fun w => Tryz.sizeOf5 w) (show Row V.drew 1 _ _ _ from k6) z2 rfl
      have hone : ∀ u ∈ List.drop (cp * 1) (List.map (fun b : UInt8 => Value.int .u8 (b.toNat : Int)) b), u.oneCell' = true := by
        intro u hu
        have := List.mem_of_mem_drop hu
        rw [List.mem_map] at this
        obtain ⟨_, _, rfl⟩ := this
        rfl
      have HONE := Lib.hid hone
      clear hone
      have c1 := hv.cell
      have c2 := k1.cell
      have c3 := hc.cell
      have hw := hb02.size
      gi_wp2
      refine wpIn_wide.2 ?_
      refine wp_region_still_tail 4 (by kernel_rfl) (by kernel_rfl) ?_
      simp only [List.take_succ_cons, List.take_zero, List.drop_succ_cons, List.drop_zero]
      change wpStill _ _ V.drew (fun a' => wpList _ _ _ _ a' V.drew) _ _
      repeat still_step
      refine wpStill_nil ?_
      go_wp2_with (at_builtin; refine wpList_app rfl rfl byteElem hr.drew rfl hrow rfl HONE.out (by omega) (by unfold maxLen; omega) (by simp; omega) ?_; intro A5 c5 w5 hown1 hg1 _)
      gi_wp2
      have hD5 : w5.heap[w2.heap.size + 5]? = some (.deferred (some [])) := by
        rw [← hsz0]
        exact (hg1.block _ (Array.getElem?_eq_some_iff.1 hD).1 (fun e => own_ne hr hD (by intro _ _ _ h; cases h) e.symm)).trans hD
      refine ⟨by simp, .inl ⟨_, _, rfl, run_takeDeferred hD5, ?_⟩⟩
      refine ⟨_, results_tmp2 rfl _ _ _, ?_⟩
      have hr' := ownsRow_putObj hown1 (.deferred none) hD5 rfl
      have hbV : Below w.heap.size w (w5.putObj (w2.heap.size + 5) (.deferred none)) := by
        refine (k8.grown (w' := w5) ⟨hg1.os, hg1.tape, hg1.output, hg1.size, hg1.block⟩ (by omega) (fun k e => ?_)).grown (grownBy_putObj' _ _ _) (by have := hg1.size; simp at this; omega) (fun k e => by injection e with e; omega)
        have := (hr.lt k e).1; omega
      refine ⟨fun _ => ⟨_, rfl, ?_⟩, (fun h => by rw [htab] at h; cases h), hbV⟩
      rw [HFIN.out]
      unfold Bytes
      rw [List.length_append, List.length_drop, List.map_append, List.map_drop]
      have := Row.of_own hr'
      rwa [Nat.mul_one] at this

theorem expand1_any (nm val : ByteArray) (W : World) (h1 : nm.size ≤ 2000000) (h2 : val.size ≤ 100000) :
    Calls Tryz.prog 76 #[.string nm, .string val] W fun e w' => e = .returned (.string (expText (nm, val))) ∧ w' = W := by
  go_enter Tryz.func76, Tryz.ntmps76
  go_wp2
  go_ret
  exact ⟨rfl, rfl⟩

theorem expText_size (p : ByteArray × ByteArray) : (expText p).size = p.1.size + p.2.size + 5 := by
  unfold expText; simp only [ByteArray.size_append]; simp only [ByteArray.size, List.size_toArray, List.length_cons, List.length_nil]; omega

set_option maxHeartbeats 400000 in
theorem expand_any (b : List UInt8) (words : List (ByteArray × ByteArray)) (v1 v2 : Value) (w : World) (hb : Bytes w v1 b) (hn : Pairs w v2 words) (hl : b.length ≤ 2000000) (hl2 : words.length ≤ 1000) (hsz : ∀ s ∈ words, s.1.size ≤ 100000 ∧ s.2.size ≤ 100000) :
    Calls Tryz.prog 52 #[v1, v2] w (ReplP b words (fun nm val => expText (nm, val)) w) := by
  have HC := Lib.hid (replace_any b words (fun nm val => expText (nm, val)) 76 v1 v2 w hb hn hl hl2 hsz (fun nm val W h1 h2 => expand1_any nm val W h1 h2) (enters_of Tryz.func76 (by kernel_rfl) rfl) (fun nm val h1 h2 => by rw [expText_size]; simp only; omega))
  obtain ⟨A1, c1, rfl, -⟩ := hb
  obtain ⟨A2, c2, rfl, -⟩ := hn
  clear hsz
  go_enter Tryz.func52, Tryz.ntmps52
  go_wp2_with fail
  refine HC.out.mono ?_
  rintro e w' hq
  have HQ := Lib.hid hq
  cases htab : tabB words
  · obtain ⟨-, h2, h3⟩ := hq
    obtain rfl := h2 htab
    clear h2
    go_wp2
    go_ret2
    exact HQ.out
  · obtain ⟨h1, -, h3⟩ := hq
    obtain ⟨v, rfl, -⟩ := h1 htab
    clear h1
    go_wp2
    go_ret2
    exact HQ.out

end Go.Proofs.YteolonjmgojoeaaGreatDoor.kw
