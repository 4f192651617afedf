/- The reference's Follow. -/
import Derived.Test.YtfifalpacagacaaDoorFollow
import Derived.ArgAppend
namespace Go.Proofs.YtfifalpacagacaaDoor
open Go.RowKit
set_option linter.unusedVariables false

theorem refFollow_e1 (p t : ByteArray) (w : World) (he : Env w) (hp : p.size ≤ 1000) (h : dirL p.data.toList 2 = none) :
    Calls Tryd.prog 24 #[.string p, .string t] w fun e w' => e = .returned (.tuple #[.string ⟨#[]⟩, .int .i64 20]) ∧ Below w.heap.size w w' := by
  have H := Lib.hid (refPath_none p w he (by omega) h)
  clear h he
  go_enter Tryd.func24, Tryd.ntmps24
  go_wp2_with fail
  refine H.out.mono ?_
  rintro e w' ⟨rfl, hb⟩
  go_wp2_with fail
  go_ret2
  exact ⟨rfl, hb⟩
theorem refFollow_e2 (p t : ByteArray) (ps : Comps) (w : World) (he : Env w) (hp : p.size ≤ 1000) (ht : t.size ≤ maxLen) (h : dirL p.data.toList 2 = some ps) (hT : targetB t = false) :
    Calls Tryd.prog 24 #[.string p, .string t] w fun e w' => e = .returned (.tuple #[.string ⟨#[]⟩, .int .i64 91]) ∧ Below w.heap.size w w' := by
  have H := Lib.hid (refPath_some p ps w he (by omega) h)
  have hb0 : Below w.heap.size w (w.alloc (.cells (strCells ps).toArray 9)) := (Below.refl _ _).alloc (Nat.le_refl _) _
  clear h he
  generalize w.alloc (.cells (strCells ps).toArray 9) = W at H hb0
  have H2 := refTarget_any t W ht
  rw [hT] at H2
  have HH2 := Lib.hid H2
  clear H2
  go_enter Tryd.func24, Tryd.ntmps24
  go_wp2_with fail
  refine H.out.mono ?_
  rintro e w' ⟨rfl, rfl⟩
  go_wp2_with fail
  refine HH2.out.mono ?_
  rintro e w' ⟨rfl, rfl⟩
  go_wp2_with fail
  go_ret2
  exact ⟨rfl, hb0⟩
set_option maxHeartbeats 1000000 in
theorem refFollow_e3 (p t : ByteArray) (ps : Comps) (w : World) (he : Env w) (hp : p.size ≤ 1000) (h : dirL p.data.toList 2 = some ps) (hT : targetB t = true) (hh : t.data.toList.head? = some 47) :
    Calls Tryd.prog 24 #[.string p, .string t] w fun e w' => e = .returned (.tuple #[.string ⟨#[]⟩, .int .i64 92]) ∧ Below w.heap.size w w' := by
  have H := Lib.hid (refPath_some p ps w he (by omega) h)
  have hb0 : Below w.heap.size w (w.alloc (.cells (strCells ps).toArray 9)) := (Below.refl _ _).alloc (Nat.le_refl _) _
  clear h he
  generalize w.alloc (.cells (strCells ps).toArray 9) = W at H hb0
  obtain ⟨ht0, ht2⟩ := target_ok hT
  have H2 := refTarget_any t W (by unfold maxLen; omega)
  rw [hT] at H2
  have HH2 := Lib.hid H2
  obtain ⟨c, tl, hd, hc⟩ := size_pos_of ht0
  rw [hd] at hh
  simp only [List.head?_cons, Option.some.injEq] at hh
  subst hh
  have h47 : ((t[0].toNat : Int) == 47) = true := by rw [hc]; rfl
  clear H2 hd hc hT
  go_enter Tryd.func24, Tryd.ntmps24
  go_wp2_with fail
  refine H.out.mono ?_
  rintro e w' ⟨rfl, rfl⟩
  go_wp2_with fail
  refine HH2.out.mono ?_
  rintro e w' ⟨rfl, rfl⟩
  go_wp2_with fail
  go_ret2
  exact ⟨rfl, hb0⟩

/-- What holds at the head of each round of the loop over the steps. -/
def RRel (w : World) (gs : Nat) (ss : Comps) (N : Nat) (want : Option Comps) (k : Nat) (v : Value) (wr : World) : Prop :=
  ∃ (a : Comps) (g c : Nat), v = .slice (some ⟨g, 0, none⟩) a.length c ∧ StrsAt wr g 0 a ∧ a.length ≤ c ∧ c ≤ 9223372036854775807 ∧ Good a (N + k) 1000 ∧ stepsL a (ss.drop k) = want ∧ Blk wr gs 9 (strCells ss) ∧ Below w.heap.size w wr

theorem StrsAt.take {w : World} {g : Nat} {a : Comps} (h : StrsAt w g 0 a) (b : Comps) (hb : ∀ k (hk : k < b.length), ∃ hk' : k < a.length, b[k] = a[k]) : StrsAt w g 0 b := fun k hk => by
  obtain ⟨hk', e⟩ := hb k hk
  rw [e]; exact h k hk'
theorem StrsAt.dropLast {w : World} {g : Nat} {a : Comps} (h : StrsAt w g 0 a) : StrsAt w g 0 a.dropLast := h.take _ fun k hk => ⟨by simp at hk; omega, by simp⟩
theorem strs_cells {w : World} {g : Nat} {a : Comps} (h : StrsAt w g 0 a) : ∀ j u, (strCells a)[j]? = some u → w.cell? ((⟨g, 0, none⟩ : Addr).add j) = some u := fun j u hu => by
  have hadd : (⟨g, 0, none⟩ : Addr).add j = ⟨g, 0 + j, none⟩ := by unfold Addr.add; split <;> simp_all
  have hj : j < a.length := by have := (List.getElem?_eq_some_iff.1 hu).1; simpa [strCells] using this
  rw [hadd, h j hj]
  simp [strCells, hj] at hu
  rw [hu]

/-- 'append(s, x)' where s is full: a new row. -/
theorem wpList_grow {P : Program} {W : World} {ops : Array Oper} {rest : List Oper} {o : Oper} {a : Act} {Q : Exit → Act → World → Prop} (hgd : o.guard = none) {s x : Operand} {t : TypeId}
    (ho : o.op = .call { callee := .builtin .append, args := #[s, x], argTypes := #[t, t] })
    {e : TypeId} {size bytes : Nat} (he : ElemOk P t e size bytes) {g n : Nat} {xs : List Value} (hs : a.eval s = .slice (some ⟨g, 0, none⟩) n n) (hl : xs.length = n * size) (hxs : ∀ j u, xs[j]? = some u → W.cell? ((⟨g, 0, none⟩ : Addr).add j) = some u)
    {ad : Addr} {m c : Nat} {news : List Value} (hx : a.eval x = .slice (some ad) m c) (hn : news.length = m * size) (hm : 0 < m) (hc : ∀ j u, news[j]? = some u → W.cell? (ad.add j) = some u) (h1 : ∀ u ∈ news, u.oneCell' = true)
    (h63 : n + m ≤ maxLen) (hbytes : (n + m) * bytes ≤ 140737488355328)
    (h : ∀ g' c' w', w'.ownsRow W.heap.size e size (.slice (some ⟨g', 0, none⟩) (n + m) c') (n + m) (xs ++ news) → Below W.heap.size W w' → wpList P ops Q rest (a.put o.dst (.slice (some ⟨g', 0, none⟩) (n + m) c')) w') : wpList P ops Q (o :: rest) a W := by
  obtain ⟨i, z, ht, hi, hz, hsize, hby, hzs, hsz⟩ := he
  refine wpList_append_grows W hgd s x t ho e i z size bytes ht hi hz hsize hby hzs hsz (some ⟨g, 0, none⟩) n n xs hs (fun h => by cases h) hl (fun b hb => by injection hb with hb; subst hb; exact hxs) ad m c news hx hn hc h1 (by omega) h63 hbytes ?_
  intro v' w' h2 h3
  obtain ⟨g', c', rfl⟩ := own_some h2 (by omega)
  exact h g' c' w' h2 ⟨h3.os, h3.tape, h3.output, h3.size, fun k hk => h3.block k hk (by simp)⟩
theorem new_cell (W : World) (u : Value) (t : TypeId) : ∀ j v, [u][j]? = some v → (W.alloc (.cells #[u] t)).cell? ((⟨W.heap.size, 0, none⟩ : Addr).add j) = some v := by
  intro j v h
  cases j with
  | zero => simp at h; subst h; simp [Addr.add]
  | succ j => simp at h

set_option maxHeartbeats 2000000 in
theorem refFollow_main (p t : ByteArray) (ps : Comps) (w : World) (he : Env w) (hp : p.size ≤ 1000) (h : dirL p.data.toList 2 = some ps) (hT : targetB t = true) (hh : t.data.toList.head? ≠ some 47) :
    Calls Tryd.prog 24 #[.string p, .string t] w fun e w' => e = .returned (.tuple #[.string (followL p t).1, .int .i64 (followL p t).2]) ∧ Below w.heap.size w w' := by
  have H := Lib.hid (refPath_some p ps w he (by omega) h)
  have hb0 : Below w.heap.size w (w.alloc (.cells (strCells ps).toArray 9)) := (Below.refl _ _).alloc (Nat.le_refl _) _
  have hdir := dir_ok h
  have HG := Lib.hid (Good.start (m := 1000) h hp)
  obtain ⟨hd1, hd2, hd3, hd4⟩ := hdir
  have hpl : p.data.toList.length = p.size := rfl
  have HO := Lib.hid (StrsAt.of_blk (blk_new w (strCells ps) 9))
  have he1 := he.alloc (.cells (strCells ps).toArray 9)
  generalize w.alloc (.cells (strCells ps).toArray 9) = W at H hb0 HO he1
  obtain ⟨ht0, ht2⟩ := target_ok hT
  have H2 := refTarget_any t W (by unfold maxLen; omega)
  have HF := Lib.hid (show followL p t = followR (stepsL ps.dropLast (splitL t.data.toList)) by unfold followL; rw [h]; simp only [hT, Bool.true_eq_false, if_false, if_neg hh])
  have hps : ps.length ≤ 1001 := by omega
  rw [hT] at H2
  have HH2 := Lib.hid H2
  obtain ⟨c, tl, hd, hc⟩ := size_pos_of ht0
  rw [hd] at hh
  simp only [List.head?_cons, ne_eq, Option.some.injEq] at hh
  have h47 : ((t[0].toNat : Int) == 47) = false := by
    rw [hc, beq_eq_false_iff_ne]; intro h; exact hh (UInt8.toNat.inj (show c.toNat = 47 by omega))
  have HS := Lib.hid (split_any t W he1 (by omega))
  have htl : t.data.toList.length = t.size := rfl
  have hs1 : (splitL t.data.toList).length ≤ 201 := by have := splitL_length_le t.data.toList; omega
  have hs2 : ∀ p ∈ splitL t.data.toList, p.length ≤ 200 := fun p hp => by have := (splitL_mem hp).2; omega
  clear H2 hd hc hT hh h he hd2 hd4 hpl hd3 htl
  generalize splitL t.data.toList = ss at *
  have HB := Lib.hid (blk_new W (strCells ss) 9)
  have hb3 : Below W.heap.size W (W.alloc (.cells (strCells ss).toArray 9)) := (Below.refl _ _).alloc (Nat.le_refl _) _
  have HO3 := Lib.hid (HO.out.below hb3)
  have hbw2 : Below w.heap.size w (W.alloc (.cells (strCells ss).toArray 9)) := hb0.alloc hb0.size _
  generalize hW2 : W.alloc (.cells (strCells ss).toArray 9) = W2 at HS HB HO3 hbw2 hb3
  clear hW2 HO he1
  go_enter Tryd.func24, Tryd.ntmps24
  go_wp2_with fail
  refine H.out.mono ?_
  rintro e w' ⟨rfl, rfl⟩
  go_wp2_with fail
  refine HH2.out.mono ?_
  rintro e w' ⟨rfl, rfl⟩
  go_wp2_with fail
  refine HS.out.mono ?_
  rintro e w3 ⟨rfl, rfl⟩
  go_wp2_with fail
  go_loopw [6, 31] (fun v i wr => ∃ k : Nat, k ≤ ss.length ∧ i = .int .i64 k ∧ RRel w W.heap.size ss 1001 (stepsL ps.dropLast ss) k v wr) (fun _ i _ => ss.length - (intOf i).toNat)
  case atStart => exact ⟨0, Nat.zero_le _, rfl, ps.dropLast, w.heap.size, ps.length, by rw [List.length_dropLast], HO3.out.dropLast, by simp, by omega, ⟨HG.out.comps, by simp; omega, HG.out.pos⟩, rfl, HB.out, hbw2⟩
  case round =>
    obtain ⟨k, hk, rfl, a, g, c, rfl, hown, hcap, hcm, hgood, hst, hblk, hbl⟩ := hrel
    have hlen := hgood.len
    have hpos := hgood.pos
    have HOW := Lib.hid hown
    have HGD := Lib.hid hgood
    have HST := Lib.hid hst
    have HBK := Lib.hid hblk
    clear hown hgood hst hblk
    by_cases hlt : k < ss.length
    · have hcell := HBK.out.strs k hlt
      have hsl := hs2 ss[k] (List.getElem_mem hlt)
      have HDR := Lib.hid (List.drop_eq_getElem_cons hlt)
      generalize ss[k] = s at hcell hsl HDR
      by_cases hs0 : s = [] ∨ s = [46]
      · have q3 : ((baL s).toList == [46] || (baL s).toList.isEmpty) = true := by rw [baL_toList]; rcases hs0 with rfl | rfl <;> rfl
        have HS0 := Lib.hid hs0
        clear hs0
        have hfin : RRel w W.heap.size ss 1001 (stepsL ps.dropLast ss) (k + 1) (.slice (some ⟨g, 0, none⟩) a.length c) wr :=
          ⟨a, g, c, rfl, HOW.out, hcap, hcm, HGD.out.keep, by rw [← HST.out, HDR.out, steps_cons (step_skip HS0.out)], HBK.out, hbl⟩
        have HFI := Lib.hid hfin
        clear hfin
        cases q1 : ((baL s).toList.isEmpty)
        · have q2 : ((baL s).toList == [46]) = true := by rw [q1] at q3; simpa using q3
          have q5 : ¬ (baL s).toList = [] := by intro e; rw [e] at q1; cases q1
          clear q3
          go_wp2_with fail
          go_roundw
          case rel => exact ⟨k + 1, by omega, by go_num, HFI.out⟩
          case measure => simp [intOf]; omega
        · have q5 : (baL s).toList = [] := by simpa using q1
          clear q3
          go_wp2_with fail
          go_roundw
          case rel => exact ⟨k + 1, by omega, by go_num, HFI.out⟩
          case measure => simp [intOf]; omega
      · have hs0' : s ≠ [] ∧ s ≠ [46] := ⟨fun e => hs0 (.inl e), fun e => hs0 (.inr e)⟩
        obtain ⟨n1, n2⟩ := hs0'
        clear hs0
        have q1 : ((baL s).toList == [46]) = false := by rw [baL_toList]; simpa using n2
        have q2 : (baL s).toList.isEmpty = false := by rw [baL_toList]; simpa using n1
        have q5 : ¬ (baL s).toList = [] := by rw [baL_toList]; exact n1
        by_cases hs3 : s = [46, 46]
        · have q3 : ((baL s).toList == [46, 46]) = true := by rw [baL_toList, hs3]; rfl
          have HS3 := Lib.hid hs3
          clear hs3
          by_cases h1 : a.length = 1
          · have q4 : ((a.length : Int) == 1) = true := by rw [beq_iff_eq]; omega
            have hfin : followL p t = (⟨#[]⟩, 92) := by
              rw [HF.out, ← HST.out, HDR.out, HS3.out, steps_stop (step_top h1)]; rfl
            have HFI := Lib.hid hfin
            clear hfin h1
            go_wp2_with fail
            go_ret2
            exact ⟨by rw [HFI.out]; rfl, hbl⟩
          · have q4 : ((a.length : Int) == 1) = false := by rw [beq_eq_false_iff_ne]; omega
            have hfin : RRel w W.heap.size ss 1001 (stepsL ps.dropLast ss) (k + 1) (.slice (some ⟨g, 0, none⟩) (a.length - 1) c) wr :=
              ⟨a.dropLast, g, c, by rw [List.length_dropLast], HOW.out.dropLast, by simp; omega, hcm, HGD.out.drop h1, by rw [← HST.out, HDR.out, HS3.out, steps_cons (step_up h1)], HBK.out, hbl⟩
            have HFI := Lib.hid hfin
            clear hfin h1
            go_wp2_with fail
            go_roundw
            case rel => exact ⟨k + 1, by omega, by go_num, HFI.out⟩
            case measure => simp [intOf]; omega
        · have q3 : ((baL s).toList == [46, 46]) = false := by rw [baL_toList]; simpa using hs3
          have hB2 := hbl.alloc hbl.size (.cells #[.string (baL s)] 9)
          have hsz : W.heap.size < wr.heap.size := HBK.out.lt
          have hcl : (baL s).size ≤ maxLen := by rw [baL_size]; unfold maxLen; omega
          have H0 := Lib.hid (fun W => refComponent_any (baL s) W hcl)
          clear hcl
          cases hcomp : compL s
          · have H1 : Hid (∀ W, Calls Tryd.prog 53 #[.string (baL s)] W fun e w' => e = .returned (.bool false) ∧ W = w') := by
              have := H0.out; have hc' : compS (baL s) = false := hcomp; rw [hc'] at this; exact this
            have hfin : followL p t = (⟨#[]⟩, 92) := by
              rw [HF.out, ← HST.out, HDR.out, steps_stop (step_no n1 n2 hs3 hcomp)]; rfl
            have HFI := Lib.hid hfin
            clear hfin hcomp H0
            go_wp2_with fail
            refine (H1.out _).mono ?_
            rintro e w5 ⟨rfl, rfl⟩
            go_wp2_with fail
            go_ret2
            exact ⟨by rw [HFI.out]; rfl, hbl⟩
          · have H1 : Hid (∀ W, Calls Tryd.prog 53 #[.string (baL s)] W fun e w' => e = .returned (.bool true) ∧ W = w') := by
              have := H0.out; have hc' : compS (baL s) = true := hcomp; rw [hc'] at this; exact this
            have HCO := Lib.hid hcomp
            clear hcomp H0
            go_wp2_with fail
            refine (H1.out _).mono ?_
            rintro e w5 ⟨rfl, rfl⟩
            have HO4 := Lib.hid (HOW.out.below ((Below.refl _ _).alloc (Nat.le_refl _) (.cells #[.string (baL s)] 9)))
            go_wp2_with (at_builtin; refine wpList_grow rfl rfl strElem9 rfl (by simp [strCells]) (strs_cells HO4.out) rfl rfl (by decide) (new_cell _ _ _) (by simp [Value.oneCell']) (by unfold maxLen; omega) (by omega) ?_; intro g' c' w4 hown1 hb4)
            have hbl4 : Below w.heap.size w w4 := hB2.trans (hb4.mono hB2.size)
            have hbk4 := (HBK.out.alloc (.cells #[.string (baL s)] 9)).below hb4 (by simp; omega)
            obtain ⟨hc1, hc2⟩ := own_cap hown1
            unfold maxLen at hc2
            have hfin : RRel w W.heap.size ss 1001 (stepsL ps.dropLast ss) (k + 1) (.slice (some ⟨g', 0, none⟩) (a.length + 1) c') w4 :=
              ⟨a ++ [s], g', c', by simp, strsAt_of_own (B := (wr.alloc (.cells #[.string (baL s)] 9)).heap.size) (c := c') (by rw [strCells_app, List.length_append]; exact hown1), by simp; omega, by omega, HGD.out.push HCO.out (by omega), by rw [← HST.out, HDR.out, steps_cons (step_in n1 n2 hs3 HCO.out)], hbk4, hbl4⟩
            have HFI := Lib.hid hfin
            clear hfin hbk4 hown1 hb4
            go_wp2_with fail
            go_roundw
            case rel => exact ⟨k + 1, by omega, by go_num, HFI.out⟩
            case measure => simp [intOf]; omega
    · obtain rfl : k = ss.length := by omega
      have hdrop : stepsL ps.dropLast ss = some a := by rw [← HST.out, List.drop_length]; rfl
      have HRES := Lib.hid (show followL p t = followR (some a) by rw [HF.out, hdrop])
      clear hdrop
      by_cases h2 : a.length < 2
      · have q : decide ((a.length : Int) < 2) = true := by simp; omega
        have HFI := Lib.hid (show followL p t = (⟨#[]⟩, 92) by rw [HRES.out]; exact if_pos h2)
        go_wp2_with fail
        go_ret2
        exact ⟨by rw [HFI.out]; rfl, hbl⟩
      · have q : decide ((a.length : Int) < 2) = false := by simp; omega
        have hjl := HGD.out.joinLen
        have HJ := Lib.hid (refJoin_any a g 0 c wr HOW.out (by omega) hcap (by omega) (Nat.le_trans hjl (by have : (1001 + ss.length) * (1000 + 1) ≤ 1202 * 1001 := Nat.mul_le_mul (by omega) (by omega); omega)))
        have HFI := Lib.hid (show followL p t = (baL (joinP a), 0) by rw [HRES.out]; exact if_neg h2)
        clear hjl
        go_wp2_with fail
        refine HJ.out.mono ?_
        rintro e w5 ⟨rfl, hb5⟩
        go_wp2_with fail
        go_ret2
        exact ⟨by rw [HFI.out]; rfl, below_next hbl hb5⟩

theorem refFollow_any (p t : ByteArray) (w : World) (he : Env w) (hp : p.size ≤ 1000) (ht : t.size ≤ maxLen) :
    Calls Tryd.prog 24 #[.string p, .string t] w fun e w' => e = .returned (.tuple #[.string (followL p t).1, .int .i64 (followL p t).2]) ∧ Below w.heap.size w w' := by
  cases h : dirL p.data.toList 2 with
  | none =>
    have e : followL p t = (⟨#[]⟩, 20) := by unfold followL; rw [h]
    rw [e]; exact refFollow_e1 p t w he hp h
  | some ps =>
    cases hT : targetB t
    · have e : followL p t = (⟨#[]⟩, 91) := by unfold followL; rw [h]; simp only [hT, if_true]
      rw [e]; exact refFollow_e2 p t ps w he hp ht h hT
    · by_cases hh : t.data.toList.head? = some 47
      · have e : followL p t = (⟨#[]⟩, 92) := by unfold followL; rw [h]; simp only [hT, Bool.true_eq_false, if_false, hh, if_true]
        rw [e]; exact refFollow_e3 p t ps w he hp h hT hh
      · exact refFollow_main p t ps w he hp h hT hh

end Go.Proofs.YtfifalpacagacaaDoor
