/- The walk of FiletypeSteps. -/
import Derived.Test.YtfifalpacagacaaDoorAwake
namespace Go.Proofs.YtfifalpacagacaaDoor
open Go.RowKit
set_option linter.unusedVariables false

/-! Plain. -/
theorem byteB_47 : byteB 47 = false := by decide
theorem comp_no_slash {s : List UInt8} (h : compL s = true) : (47 : UInt8) ∉ s := by
  intro hm
  unfold compL at h
  rw [Bool.and_eq_true] at h
  have := List.all_eq_true.1 h.2 47 hm
  revert this; decide
theorem comp_ne {s : List UInt8} (h : compL s = true) : s ≠ [] ∧ s ≠ [46] ∧ s ≠ [46, 46] := by
  refine ⟨?_, ?_, ?_⟩ <;> (rintro rfl; revert h; decide)
theorem comp_head {s : List UInt8} (h : compL s = true) : s.head? ≠ some 47 := by
  intro hh
  exact comp_no_slash h (List.mem_of_mem_head? (by simpa using hh))
theorem comp_any {s : List UInt8} (h : compL s = true) : s.contains 0 = false ∧ s.contains 10 = false := by
  unfold compL at h
  rw [Bool.and_eq_true] at h
  constructor
  · cases hc : s.contains 0
    · rfl
    · have := List.all_eq_true.1 h.2 0 (by simpa using hc)
      revert this; decide
  · cases hc : s.contains 10
    · rfl
    · have := List.all_eq_true.1 h.2 10 (by simpa using hc)
      revert this; decide
theorem step1_head {a b : Comps} {s : List UInt8} (h : step1 a s = some b) (h0 : 0 < a.length) : b.head? = a.head? ∧ 0 < b.length := by
  unfold step1 at h
  split at h
  · injection h with h; subst h; exact ⟨rfl, h0⟩
  · split at h
    · split at h
      · cases h
      · injection h with h
        subst h
        rename_i h1
        refine ⟨?_, by simp; omega⟩
        cases a with
        | nil => simp at h0
        | cons x r => cases r with
          | nil => simp at h1
          | cons y r => rfl
    · split at h
      · injection h with h
        subst h
        cases a with
        | nil => simp at h0
        | cons x r => exact ⟨rfl, by simp⟩
      · cases h
theorem stepsL_head {ss : Comps} : ∀ {a b : Comps}, stepsL a ss = some b → 0 < a.length → b.head? = a.head? ∧ 0 < b.length := by
  induction ss with
  | nil => intro a b h h0; injection h with h; subst h; exact ⟨rfl, h0⟩
  | cons s r ih =>
    intro a b h h0
    unfold stepsL at h
    cases hs : step1 a s with
    | none => rw [hs] at h; cases h
    | some c =>
      rw [hs] at h
      obtain ⟨h1, h2⟩ := step1_head hs h0
      obtain ⟨h3, h4⟩ := ih (a := c) h h2
      exact ⟨h3.trans h1, h4⟩
theorem step1_comps {a b : Comps} {s : List UInt8} (h : step1 a s = some b) (hc : a.all compL = true) : b.all compL = true := by
  unfold step1 at h
  split at h
  · injection h with h; subst h; exact hc
  · split at h
    · split at h
      · cases h
      · injection h with h
        subst h
        rw [List.all_eq_true] at hc ⊢
        exact fun p hp => hc p (List.dropLast_subset a hp)
    · split at h
      · injection h with h
        subst h
        rename_i h1
        rw [List.all_append, hc]; simp [h1]
      · cases h
theorem stepsL_comps {ss : Comps} : ∀ {a b : Comps}, stepsL a ss = some b → a.all compL = true → b.all compL = true := by
  induction ss with
  | nil => intro a b h h0; injection h with h; subst h; exact h0
  | cons s r ih =>
    intro a b h h0
    unfold stepsL at h
    cases hs : step1 a s with
    | none => rw [hs] at h; cases h
    | some c =>
      rw [hs] at h
      exact ih (a := c) h (step1_comps hs h0)

/-- A target that leads somewhere. -/
structure Leads (p t : ByteArray) (ps a : Comps) : Prop where
  dir : dirL p.data.toList 2 = some ps
  target : targetB t = true
  head : t.data.toList.head? ≠ some 47
  steps : stepsL ps.dropLast (splitL t.data.toList) = some a
  two : 2 ≤ a.length
  eq : followL p t = (baL (joinP a), 0)
theorem leads_of {p t : ByteArray} (h : (followL p t).2 = 0) : ∃ ps a, Leads p t ps a := by
  unfold followL at h
  cases hd : dirL p.data.toList 2 with
  | none => rw [hd] at h; simp at h
  | some ps =>
    rw [hd] at h
    simp only at h
    by_cases hT : targetB t = false
    · rw [if_pos hT] at h; simp at h
    · rw [if_neg hT] at h
      by_cases hh : t.data.toList.head? = some 47
      · rw [if_pos hh] at h; simp at h
      · rw [if_neg hh] at h
        cases hs : stepsL ps.dropLast (splitL t.data.toList) with
        | none => rw [hs] at h; simp [followR] at h
        | some a =>
          rw [hs] at h
          unfold followR at h
          simp only at h
          by_cases h2 : a.length < 2
          · rw [if_pos h2] at h; simp at h
          · refine ⟨ps, a, hd, by simpa using hT, hh, hs, by omega, ?_⟩
            unfold followL
            rw [hd]
            simp only [if_neg hT, if_neg hh, hs, followR, if_neg h2]
theorem leads_to {p t : ByteArray} {ps a : Comps} (h1 : dirL p.data.toList 2 = some ps) (h2 : targetB t = true) (h3 : t.data.toList.head? ≠ some 47) (h4 : stepsL ps.dropLast (splitL t.data.toList) = some a) (h5 : 2 ≤ a.length) : followL p t = (baL (joinP a), 0) := by
  unfold followL
  rw [h1]
  simp only [h2, Bool.true_eq_false, if_false, if_neg h3, h4, followR, if_neg (show ¬ a.length < 2 by omega)]

theorem dir_join {a : Comps} (h : a.all compL = true) (h2 : 2 ≤ a.length) : dirL (joinP a) 2 = some a := by
  have hs : splitL ((joinP a).drop 2) = a := by
    show splitL (Lib.join a [47]) = a
    exact splitL_join (by intro e; subst e; simp at h2) (fun p hp => comp_no_slash (List.all_eq_true.1 h p hp))
  unfold dirL
  rw [hs, if_pos ⟨by simp [joinP, Lib.hasPrefix, List.isPrefixOf], h2, h⟩]
theorem Leads.comps {p t : ByteArray} {ps a : Comps} (h : Leads p t ps a) : a.all compL = true := by
  obtain ⟨h1, h2, h3, h4⟩ := dir_ok h.dir
  refine stepsL_comps h.steps ?_
  rw [List.all_eq_true] at h2 ⊢
  exact fun p hp => h2 p (List.dropLast_subset ps hp)
theorem Leads.headEq {p t : ByteArray} {ps a : Comps} (h : Leads p t ps a) : a.head? = ps.head? := by
  obtain ⟨h1, h2, h3, h4⟩ := dir_ok h.dir
  have := (stepsL_head h.steps (by simp; omega)).1
  rw [this]
  cases ps with
  | nil => simp at h1
  | cons x r => cases r with
    | nil => simp at h1
    | cons y r => rfl
theorem steps_good {ss : Comps} {m : Nat} (hs : ∀ s ∈ ss, s.length ≤ m) : ∀ {a b : Comps} {n : Nat}, stepsL a ss = some b → Good a n m → Good b (n + ss.length) m := by
  induction ss with
  | nil => intro a b n h hg; injection h with h; subst h; exact hg
  | cons s r ih =>
    intro a b n h hg
    unfold stepsL at h
    cases h1 : step1 a s with
    | none => rw [h1] at h; cases h
    | some c =>
      rw [h1] at h
      have hc : Good c (n + 1) m := by
        unfold step1 at h1
        split at h1
        · injection h1 with h1; subst h1; exact hg.keep
        · split at h1
          · split at h1
            · cases h1
            · injection h1 with h1; subst h1; rename_i hh; exact hg.drop hh
          · split at h1
            · injection h1 with h1; subst h1; rename_i hh; exact hg.push hh (hs s (by simp))
            · cases h1
      have := ih (fun s hs' => hs s (by simp [hs'])) (a := c) h hc
      rw [List.length_cons]
      rwa [show n + (r.length + 1) = n + 1 + r.length by omega]
theorem Leads.size {p t : ByteArray} {ps a : Comps} (h : Leads p t ps a) (hp : p.size ≤ 300) : (joinP a).length ≤ 300000 := by
  have ht := target_ok h.target
  have hg := Good.start (m := 300) h.dir hp
  have hl : t.data.toList.length = t.size := rfl
  have hpl : p.data.toList.length = p.size := rfl
  have h2 := steps_good (m := 300) (fun s hs => by have := (splitL_mem hs).2; omega) h.steps hg
  have h3 := h2.joinLen
  have h4 := splitL_length_le t.data.toList
  have h5 : (p.data.toList.length + 1 + (splitL t.data.toList).length) * (300 + 1) ≤ 502 * 301 := Nat.mul_le_mul (by omega) (by omega)
  unfold joinP
  simp only [List.length_append, List.length_cons, List.length_nil]
  omega

/-- The target with "./" ahead. -/
theorem leads_dot {p t t' : ByteArray} {ps a : Comps} (h : Leads p t ps a) (ht : t.size ≤ 150) (e : t'.data.toList = [46, 47] ++ t.data.toList) : followL p t' = (baL (joinP a), 0) := by
  have hs : t'.size = t.size + 2 := by
    have h1 : t'.data.toList.length = t'.size := rfl
    have h2 : t.data.toList.length = t.size := rfl
    rw [← h1, e, List.length_append, h2]; simp; omega
  refine leads_to h.dir ?_ (by rw [e]; simp) ?_ h.two
  · rw [targetB_mid (by omega) (by omega)]
    have := h.target
    rw [targetB_mid (target_ok h.target).1 (target_ok h.target).2] at this
    unfold anyB at this ⊢
    rw [anyB_or] at this ⊢
    rw [e]
    simpa using this
  · rw [e]
    have : splitL ([46, 47] ++ t.data.toList) = [46] :: splitL t.data.toList := splitL_app (a := [46]) (by decide) _
    rw [this, steps_cons (step_skip (.inr rfl))]
    exact h.steps
/-- The target with "a/../" ahead, a a component. -/
theorem leads_up {p t t' c : ByteArray} {ps a : Comps} (h : Leads p t ps a) (ht : t.size ≤ 150) (hc : c.size ≤ 20) (hcc : compS c = true) (e : t'.data.toList = c.data.toList ++ [47, 46, 46, 47] ++ t.data.toList) : followL p t' = (baL (joinP a), 0) := by
  have hcl : compL c.data.toList = true := hcc
  have h1 : t'.data.toList.length = t'.size := rfl
  have h2 : t.data.toList.length = t.size := rfl
  have h3 : c.data.toList.length = c.size := rfl
  have hs : t'.size = c.size + 4 + t.size := by
    rw [← h1, e]; simp only [List.length_append, h2, h3, List.length_cons, List.length_nil]
  obtain ⟨n1, n2, n3⟩ := comp_ne hcl
  obtain ⟨c0, c10⟩ := comp_any hcl
  obtain ⟨hd1, hd2, hd3, hd4⟩ := dir_ok h.dir
  refine leads_to h.dir ?_ ?_ ?_ h.two
  · rw [targetB_mid (by omega) (by omega)]
    have := h.target
    rw [targetB_mid (target_ok h.target).1 (target_ok h.target).2] at this
    unfold anyB at this ⊢
    rw [anyB_or] at this ⊢
    rw [e]
    simp only [Bool.not_eq_true', Bool.or_eq_false_iff] at this ⊢
    simp only [List.contains_eq_any_beq, List.any_append, List.any_cons, List.any_nil] at this c0 c10 ⊢
    simp [c0, c10, this.1, this.2]
  · rw [e]
    cases hl : c.data.toList with
    | nil => exact absurd hl n1
    | cons b r =>
      have := comp_head hcl
      rw [hl] at this
      simpa using this
  · rw [e]
    have e1 : splitL (c.data.toList ++ [47, 46, 46, 47] ++ t.data.toList) = c.data.toList :: [46, 46] :: splitL t.data.toList := by
      rw [show c.data.toList ++ [47, 46, 46, 47] ++ t.data.toList = c.data.toList ++ 47 :: ([46, 46] ++ 47 :: t.data.toList) by simp, splitL_app (comp_no_slash hcl), splitL_app (a := [46, 46]) (by decide)]
    rw [e1, steps_cons (step_in n1 n2 n3 hcl), steps_cons (step_up (by simp; omega))]
    simp only [List.dropLast_concat]
    exact h.steps

theorem app_data (a b : ByteArray) : (a ++ b).data.toList = a.data.toList ++ b.data.toList := by simp [ByteArray.data_append]
theorem app_size (a b : ByteArray) : (a ++ b).size = a.size + b.size := by
  have h1 : (a ++ b).data.toList.length = (a ++ b).size := rfl
  have h2 : a.data.toList.length = a.size := rfl
  have h3 : b.data.toList.length = b.size := rfl
  rw [← h1, app_data, List.length_append, h2, h3]

set_option maxHeartbeats 4000000 in
theorem filetypeSteps_walk (p t c : ByteArray) (w : World) (he : Env w) (hp : p.size ≤ maxLen) (ht : t.size ≤ maxLen) (hc : c.size ≤ maxLen) :
    Calls Tryd.prog 5 #[.string p, .string t, .string c] w fun e w' => e = .returned (.bool true) ∧ Below w.heap.size w w' := by
  unfold maxLen at hp ht hc
  by_cases hlong : 300 < p.size ∨ 150 < t.size ∨ 20 < c.size
  · have HA := Lib.hid (awake_any w he)
    by_cases h1 : 300 < p.size
    · have d1 : decide ((300 : Int) < (p.size : Int)) = true := by simp; omega
      clear hlong
      go_enter Tryd.func5, Tryd.ntmps5
      go_wp2_with fail
      refine HA.out.mono ?_
      rintro e w1 ⟨rfl, hb1⟩
      go_wp2_with fail
      go_ret
      exact ⟨rfl, hb1⟩
    · have d1 : decide ((300 : Int) < (p.size : Int)) = false := by simp; omega
      by_cases h2 : 150 < t.size
      · have d2 : decide ((150 : Int) < (t.size : Int)) = true := by simp; omega
        clear hlong
        go_enter Tryd.func5, Tryd.ntmps5
        go_wp2_with fail
        refine HA.out.mono ?_
        rintro e w1 ⟨rfl, hb1⟩
        go_wp2_with fail
        go_ret
        exact ⟨rfl, hb1⟩
      · have d2 : decide ((150 : Int) < (t.size : Int)) = false := by simp; omega
        have d3 : decide ((20 : Int) < (c.size : Int)) = true := by simp; omega
        clear hlong
        go_enter Tryd.func5, Tryd.ntmps5
        go_wp2_with fail
        refine HA.out.mono ?_
        rintro e w1 ⟨rfl, hb1⟩
        go_wp2_with fail
        go_ret
        exact ⟨rfl, hb1⟩
  · have d1 : decide ((300 : Int) < (p.size : Int)) = false := by simp; omega
    have d2 : decide ((150 : Int) < (t.size : Int)) = false := by simp; omega
    have d3 : decide ((20 : Int) < (c.size : Int)) = false := by simp; omega
    have b1 : p.size ≤ 300 := by omega
    have b2 : t.size ≤ 150 := by omega
    have b3 : c.size ≤ 20 := by omega
    clear hlong hp ht hc
    have HF := Lib.hid (follow_any p t w he (by omega) (by unfold maxLen; omega))
    by_cases h0 : (followL p t).2 = 0
    · obtain ⟨ps, a, hl⟩ := leads_of h0
      have HL := Lib.hid hl
      rw [hl.eq] at HF
      have hja := hl.size b1
      have hps := dir_ok hl.dir
      obtain ⟨hps1, -, hps3, -⟩ := hps
      have ha2 := hl.two
      have hcomps := hl.comps
      have hdj := dir_join hcomps ha2
      have hplen : p.data.toList.length = p.size := rfl
      have HS1 := Lib.hid (fun W (hW : Env W) => split_some p ps W hW (by omega) hl.dir)
      have HS2 := Lib.hid (fun W (hW : Env W) => split_some (baL (joinP a)) a W hW (by rw [baL_size]; omega) hdj)
      have hal : a.length ≤ 300001 := by have := (dir_ok hdj).2.2.1; omega
      obtain ⟨x0, xr, hx⟩ : ∃ x r, ps = x :: r := by cases ps with
        | nil => simp at hps1
        | cons x r => exact ⟨x, r, rfl⟩
      obtain ⟨yr, hy⟩ : ∃ r, a = x0 :: r := by
        have := hl.headEq
        rw [hx] at this
        cases a with
        | nil => simp at this
        | cons y r => simp at this; exact ⟨r, by rw [this]⟩
      have HF2 := Lib.hid (fun W (hW : Env W) => follow_any p (⟨#[46, 47]⟩ ++ t) W hW (by omega) (by rw [app_size]; unfold maxLen; have : (⟨#[46, 47]⟩ : ByteArray).size = 2 := rfl; omega))
      rw [leads_dot hl b2 (app_data _ _)] at HF2
      have hps4 : ps.length ≤ 301 := by omega
      have hapos : 0 < a.length := by omega
      have hppos : 0 < ps.length := by omega
      have q1 : ((ps.length : Int) == 0) = false := by rw [beq_eq_false_iff_ne]; omega
      have q2 : ((a.length : Int) == 0) = false := by rw [beq_eq_false_iff_ne]; omega
      have hc1 : ∀ W g, Blk W g 9 (strCells ps) → W.cell? ⟨g, 0, none⟩ = some (.string (baL x0)) := fun W g h => by rw [h.cell, hx]; rfl
      have hc2 : ∀ W g, Blk W g 9 (strCells a) → W.cell? ⟨g, 0, none⟩ = some (.string (baL x0)) := fun W g h => by rw [h.cell, hy]; rfl
      have HC1 := Lib.hid hc1
      have HC2 := Lib.hid hc2
      clear hl h0 hx hy hdj hcomps hc1 hc2 hplen
      go_enter Tryd.func5, Tryd.ntmps5
      go_wp2_with fail
      refine HF.out.mono ?_
      rintro e w1 ⟨rfl, hb1⟩
      have he1 := he.below hb1
      go_wp2_with fail
      refine (HS1.out w1 he1).mono ?_
      rintro e w2 ⟨rfl, hw2⟩
      have hB2 := blk_new w1 (strCells ps) 9
      have hb2 : Below w1.heap.size w1 w2 := by rw [← hw2]; exact (Below.refl _ _).alloc (Nat.le_refl _) _
      rw [hw2] at hB2
      clear hw2
      have he2 := he1.below hb2
      have hbw2 := below_next hb1 hb2
      go_wp2_with fail
      refine (HS2.out w2 he2).mono ?_
      rintro e w3 ⟨rfl, hw3⟩
      have hB3 := blk_new w2 (strCells a) 9
      have hb3 : Below w2.heap.size w2 w3 := by rw [← hw3]; exact (Below.refl _ _).alloc (Nat.le_refl _) _
      rw [hw3] at hB3
      clear hw3
      have he3 := he2.below hb3
      have hbw3 := below_next hbw2 hb3
      have r1 := HC1.out w3 _ (hB2.below hb3 hB2.lt)
      have r2 := HC2.out w3 _ hB3
      go_wp2_with fail
      have i1 : (0 : Int) < (ps.length : Int) := by omega
      have i2 : (0 : Int) < (a.length : Int) := by omega
      go_quiet (fail)
      have hbw4 := below_dN hbw3 nq
      have he4 : Env (w3.drewN nq) := he3
      generalize w3.drewN nq = w4 at hbw4 he4 ⊢
      go_wp2_with fail
      refine (HF2.out w4 he4).mono ?_
      rintro e w5 ⟨rfl, hb5⟩
      have he5 := he4.below hb5
      have hbw5 := below_next hbw4 hb5
      have hcl : c.size ≤ maxLen := by unfold maxLen; omega
      have HC := Lib.hid (fun W => component_any c W hcl)
      cases hcc : compS c
      · rw [hcc] at HC
        clear hcc hcl
        go_wp2_with fail
        refine (HC.out _).mono ?_
        rintro e w6 ⟨rfl, rfl⟩
        go_wp2_with fail
        refine (awake_any _ he5).mono ?_
        rintro e w6 ⟨rfl, hb6⟩
        go_wp2_with fail
        go_ret
        exact ⟨rfl, below_next hbw5 hb6⟩
      · rw [hcc] at HC
        have HF3 := Lib.hid (fun W (hW : Env W) => follow_any p (c ++ ⟨#[47, 46, 46, 47]⟩ ++ t) W hW (by omega) (by rw [app_size, app_size]; unfold maxLen; have : (⟨#[47, 46, 46, 47]⟩ : ByteArray).size = 4 := rfl; omega))
        rw [leads_up HL.out b2 b3 hcc (by rw [app_data, app_data])] at HF3
        clear hcc hcl
        go_wp2_with fail
        refine (HC.out _).mono ?_
        rintro e w6 ⟨rfl, rfl⟩
        go_wp2_with fail
        refine (HF3.out _ he5).mono ?_
        rintro e w6 ⟨rfl, hb6⟩
        have hbw6 := below_next hbw5 hb6
        go_wp2_with fail
        refine (awake_any _ (he5.below hb6)).mono ?_
        rintro e w7 ⟨rfl, hb7⟩
        go_wp2_with fail
        go_ret
        exact ⟨rfl, below_next hbw6 hb7⟩
    · have hq : ((followL p t).2 == 0) = false := by simpa using h0
      have hq2 : ((followL p t).2 != 0) = true := by simpa using h0
      clear h0
      go_enter Tryd.func5, Tryd.ntmps5
      go_wp2_with fail
      refine HF.out.mono ?_
      rintro e w1 ⟨rfl, hb1⟩
      go_wp2_with fail
      refine (awake_any _ (he.below hb1)).mono ?_
      rintro e w2 ⟨rfl, hb2⟩
      go_wp2_with fail
      go_ret
      exact ⟨rfl, below_next hb1 hb2⟩

end Go.Proofs.YtfifalpacagacaaDoor
