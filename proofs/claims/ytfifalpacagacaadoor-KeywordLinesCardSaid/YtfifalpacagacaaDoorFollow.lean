/- filetype.Follow. -/
import Derived.Test.YtfifalpacagacaaDoorStep
namespace Go.Proofs.YtfifalpacagacaaDoor
open Go.RowKit
set_option linter.unusedVariables false

theorem strInfo9 : (Tryd.prog.info? 9).map (fun i => (i.zero, i.size, i.bytes)) = some (some (.string ⟨#[]⟩), 1, 16) := by kernel_rfl
theorem strElem9 : ElemOk Tryd.prog 23 9 1 16 := elemOk_of Tryd.underlying23 strInfo9 rfl (by decide)

theorem own_new (w : World) (ps : Comps) (hn : ps.length ≤ maxLen) : (w.alloc (.cells (strCells ps).toArray 9)).ownsRow w.heap.size 9 1 (.slice (some ⟨w.heap.size, 0, none⟩) ps.length ps.length) ps.length (strCells ps) :=
  ⟨by simp [strCells], .inr ⟨w.heap.size, ps.length, _, rfl, Nat.le_refl _, heap_alloc_new w _, Nat.le_refl _, hn, by simp [strCells], by rw [List.take_of_length_le (by simp [strCells])]⟩⟩
theorem own_take {w : World} {B g c : Nat} {ps : Comps} {k : Nat} (h : w.ownsRow B 9 1 (.slice (some ⟨g, 0, none⟩) ps.length c) ps.length (strCells ps)) (hk : k ≤ ps.length) :
    w.ownsRow B 9 1 (.slice (some ⟨g, 0, none⟩) k c) k (strCells (ps.take k)) := by
  refine ⟨by simp [strCells]; omega, ?_⟩
  rcases h.2 with ⟨e, _⟩ | ⟨g', cap, cur, e, h1, h2, h3, h4, h5, h6⟩
  · cases e
  · injection e with e1 e2 e3
    injection e1 with e1
    injection e1 with e1 _ _
    subst e1 e3
    refine .inr ⟨g, c, cur, rfl, h1, h2, by omega, h4, h5, ?_⟩
    simp only [Nat.mul_one] at h6 ⊢
    have : cur.toList.take k = (cur.toList.take ps.length).take k := by rw [List.take_take, Nat.min_eq_left hk]
    rw [this, h6]
    simp [strCells]
theorem strsAt_of_own {w : World} {B g c : Nat} {ps : Comps} (h : w.ownsRow B 9 1 (.slice (some ⟨g, 0, none⟩) ps.length c) ps.length (strCells ps)) : StrsAt w g 0 ps := fun k hk => by
  rw [Nat.zero_add, h.cellAt _ (by omega)]; simp [strCells, hk]
theorem own_cap {w : World} {B g c n : Nat} {e : TypeId} {xs : List Value} {k : Nat} (h : w.ownsRow B e k (.slice (some ⟨g, 0, none⟩) n c) n xs) : n ≤ c ∧ c ≤ maxLen := by
  rcases h.2 with ⟨e, _⟩ | ⟨g', cap, cur, e, h1, h2, h3, h4, h5, h6⟩
  · cases e
  · injection e with e1 e2 e3
    subst e3
    exact ⟨h3, h4⟩

theorem follow_e1 (p t : ByteArray) (w : World) (he : Env w) (hp : p.size ≤ 1000) (h : dirL p.data.toList 2 = none) :
    Calls Tryd.prog 21 #[.string p, .string t] w fun e w' => e = .returned (.tuple #[.string ⟨#[]⟩, .int .i64 20]) ∧ Below w.heap.size w w' := by
  have H := Lib.hid (split_none p w he (by omega) h)
  clear h he
  go_enter Tryd.func21, Tryd.ntmps21
  go_wp2_with fail
  refine H.out.mono ?_
  rintro e w' ⟨rfl, hb⟩
  go_wp2_with fail
  go_ret2
  exact ⟨rfl, hb⟩
theorem follow_e2 (p t : ByteArray) (ps : Comps) (w : World) (he : Env w) (hp : p.size ≤ 1000) (ht : t.size ≤ maxLen) (h : dirL p.data.toList 2 = some ps) (hT : targetB t = false) :
    Calls Tryd.prog 21 #[.string p, .string t] w fun e w' => e = .returned (.tuple #[.string ⟨#[]⟩, .int .i64 91]) ∧ Below w.heap.size w w' := by
  have H := Lib.hid (split_some p ps w he (by omega) h)
  have hb0 : Below w.heap.size w (w.alloc (.cells (strCells ps).toArray 9)) := (Below.refl _ _).alloc (Nat.le_refl _) _
  clear h he
  generalize w.alloc (.cells (strCells ps).toArray 9) = W at H hb0
  have H2 := isTarget_any t W ht
  rw [hT] at H2
  have HH2 := Lib.hid H2
  clear H2
  go_enter Tryd.func21, Tryd.ntmps21
  go_wp2_with fail
  refine H.out.mono ?_
  rintro e w' ⟨rfl, rfl⟩
  go_wp2_with fail
  refine HH2.out.mono ?_
  rintro e w' ⟨rfl, hb⟩
  go_wp2_with fail
  go_ret2
  exact ⟨rfl, below_next hb0 hb⟩

theorem target_ok {t : ByteArray} (h : targetB t = true) : 0 < t.size ∧ t.size ≤ 200 := by
  constructor
  · rcases Nat.eq_zero_or_pos t.size with h0 | h0
    · rw [targetB_nil h0] at h; cases h
    · exact h0
  · by_cases h2 : t.size ≤ 200
    · exact h2
    · rw [targetB_long (by omega)] at h; cases h

set_option maxHeartbeats 1000000 in
theorem follow_e3 (p t : ByteArray) (ps : Comps) (w : World) (he : Env w) (hp : p.size ≤ 1000) (h : dirL p.data.toList 2 = some ps) (hT : targetB t = true) (hh : t.data.toList.head? = some 47) :
    Calls Tryd.prog 21 #[.string p, .string t] w fun e w' => e = .returned (.tuple #[.string ⟨#[]⟩, .int .i64 92]) ∧ Below w.heap.size w w' := by
  have H := Lib.hid (split_some p ps w he (by omega) h)
  have hb0 : Below w.heap.size w (w.alloc (.cells (strCells ps).toArray 9)) := (Below.refl _ _).alloc (Nat.le_refl _) _
  clear h he
  generalize w.alloc (.cells (strCells ps).toArray 9) = W at H hb0
  obtain ⟨ht0, ht2⟩ := target_ok hT
  have H2 := isTarget_any t W (by unfold maxLen; omega)
  rw [hT] at H2
  have HH2 := Lib.hid H2
  obtain ⟨c, tl, hd, hc⟩ := size_pos_of ht0
  rw [hd] at hh
  simp only [List.head?_cons, Option.some.injEq] at hh
  subst hh
  have h47 : ((t[0].toNat : Int) == 47) = true := by rw [hc]; rfl
  clear H2 hd hc hT
  go_enter Tryd.func21, Tryd.ntmps21
  go_wp2_with fail
  refine H.out.mono ?_
  rintro e w' ⟨rfl, rfl⟩
  go_wp2_with fail
  refine HH2.out.mono ?_
  rintro e w' ⟨rfl, hb⟩
  go_wp2_with fail
  go_ret2
  exact ⟨rfl, below_next hb0 hb⟩

theorem baL_toList (s : List UInt8) : (baL s).toList = s := by rw [ByteArray.toList_eq]; rfl
theorem step_skip {a : Comps} {s : List UInt8} (h : s = [] ∨ s = [46]) : step1 a s = some a := if_pos h
theorem step_up {a : Comps} (h : a.length ≠ 1) : step1 a [46, 46] = some a.dropLast := by unfold step1; rw [if_neg (by decide), if_pos rfl, if_neg h]
theorem step_top {a : Comps} (h : a.length = 1) : step1 a [46, 46] = none := by unfold step1; rw [if_neg (by decide), if_pos rfl, if_pos h]
theorem step_in {a : Comps} {s : List UInt8} (h1 : s ≠ []) (h2 : s ≠ [46]) (h3 : s ≠ [46, 46]) (hc : compL s = true) : step1 a s = some (a ++ [s]) := by
  unfold step1; rw [if_neg (by simp [h1, h2]), if_neg h3, if_pos hc]
theorem step_no {a : Comps} {s : List UInt8} (h1 : s ≠ []) (h2 : s ≠ [46]) (h3 : s ≠ [46, 46]) (hc : compL s = false) : step1 a s = none := by
  unfold step1; rw [if_neg (by simp [h1, h2]), if_neg h3, if_neg (by rw [hc]; decide)]
theorem steps_cons {a b : Comps} {s : List UInt8} {r : Comps} (h : step1 a s = some b) : stepsL a (s :: r) = stepsL b r := by rw [stepsL, h]; rfl
theorem steps_stop {a : Comps} {s : List UInt8} {r : Comps} (h : step1 a s = none) : stepsL a (s :: r) = none := by rw [stepsL, h]; rfl
theorem strCells_app (a b : Comps) : strCells (a ++ b) = strCells a ++ strCells b := by simp [strCells]

/-- What holds at the head of each round of the loop over the steps. -/
def FRel (w : World) (gs : Nat) (ss : Comps) (N : Nat) (want : Option Comps) (k : Nat) (v : Value) (wr : World) : Prop :=
  ∃ (a : Comps) (g c : Nat), v = .slice (some ⟨g, 0, none⟩) a.length c ∧ wr.ownsRow w.heap.size 9 1 (.slice (some ⟨g, 0, none⟩) a.length c) a.length (strCells a) ∧ g ≠ gs ∧ Good a (N + k) 1000 ∧ stepsL a (ss.drop k) = want ∧ Blk wr gs 9 (strCells ss) ∧ Below w.heap.size w wr

set_option maxHeartbeats 2000000 in
theorem follow_main (p t : ByteArray) (ps : Comps) (w : World) (he : Env w) (hp : p.size ≤ 1000) (h : dirL p.data.toList 2 = some ps) (hT : targetB t = true) (hh : t.data.toList.head? ≠ some 47) :
    Calls Tryd.prog 21 #[.string p, .string t] w fun e w' => e = .returned (.tuple #[.string (followL p t).1, .int .i64 (followL p t).2]) ∧ Below w.heap.size w w' := by
  have H := Lib.hid (split_some p ps w he (by omega) h)
  have hb0 : Below w.heap.size w (w.alloc (.cells (strCells ps).toArray 9)) := (Below.refl _ _).alloc (Nat.le_refl _) _
  have hdir := dir_ok h
  have HG := Lib.hid (Good.start (m := 1000) h hp)
  obtain ⟨hd1, hd2, hd3, hd4⟩ := hdir
  have hpl : p.data.toList.length = p.size := rfl
  have HO := Lib.hid (own_new w ps (by unfold maxLen; omega))
  have he1 := he.alloc (.cells (strCells ps).toArray 9)
  generalize w.alloc (.cells (strCells ps).toArray 9) = W at H hb0 HO he1
  obtain ⟨ht0, ht2⟩ := target_ok hT
  have H2 := isTarget_any t W (by unfold maxLen; omega)
  have HF := Lib.hid (show followL p t = followR (stepsL ps.dropLast (splitL t.data.toList)) by unfold followL; rw [h]; simp only [hT, Bool.true_eq_false, if_false, if_neg hh])
  have hps : ps.length ≤ 1001 := by omega
  rw [hT] at H2
  have HH2 := Lib.hid H2
  obtain ⟨c, tl, hd, hc⟩ := size_pos_of ht0
  rw [hd] at hh
  simp only [List.head?_cons, ne_eq, Option.some.injEq] at hh
  have h47 : ((t[0].toNat : Int) == 47) = false := by
    rw [hc, beq_eq_false_iff_ne]; intro h; exact hh (UInt8.toNat.inj (show c.toNat = 47 by omega))
  clear H2 hd hc hT hh h he hd2 hd4 hpl hd3
  go_enter Tryd.func21, Tryd.ntmps21
  go_wp2_with fail
  refine H.out.mono ?_
  rintro e w' ⟨rfl, rfl⟩
  go_wp2_with fail
  refine HH2.out.mono ?_
  rintro e w' ⟨rfl, hb⟩
  have he2 := he1.below hb
  have HS := Lib.hid (split_any t w' he2 (by omega))
  have htl : t.data.toList.length = t.size := rfl
  have hs1 : (splitL t.data.toList).length ≤ 201 := by have := splitL_length_le t.data.toList; omega
  have hs2 : ∀ p ∈ splitL t.data.toList, p.length ≤ 200 := fun p hp => by have := (splitL_mem hp).2; omega
  clear htl
  have HO2 := Lib.hid (own_below HO.out hb)
  have hbw : Below w.heap.size w w' := below_next hb0 hb
  generalize splitL t.data.toList = ss at *
  have HB := Lib.hid (blk_new w' (strCells ss) 9)
  have HO3 := Lib.hid (HO2.out.alloc (.cells (strCells ss).toArray 9))
  have hbw2 : Below w.heap.size w (w'.alloc (.cells (strCells ss).toArray 9)) := hbw.alloc hbw.size _
  have hlt0 : w.heap.size < w'.heap.size := by have := HO2.out.lt w.heap.size rfl; omega
  generalize hW2 : w'.alloc (.cells (strCells ss).toArray 9) = W2 at HS HB HO3 hbw2
  clear hW2 HO2 HO he1 he2
  go_wp2_with fail
  refine HS.out.mono ?_
  rintro e w3 ⟨rfl, rfl⟩
  go_wp2_with fail
  go_loopw [8, 34] (fun v i wr => ∃ k : Nat, k ≤ ss.length ∧ i = .int .i64 k ∧ FRel w w'.heap.size ss 1001 (stepsL ps.dropLast ss) k v wr) (fun _ i _ => ss.length - (intOf i).toNat)
  case atStart =>
    refine ⟨0, Nat.zero_le _, rfl, ps.dropLast, w.heap.size, ps.length, by rw [List.length_dropLast], ?_, by omega, ⟨HG.out.comps, by simp; omega, HG.out.pos⟩, rfl, HB.out, hbw2⟩
    have := own_take (k := ps.length - 1) HO3.out (by omega)
    rw [← List.dropLast_eq_take] at this
    rwa [List.length_dropLast]
  case round =>
    obtain ⟨k, hk, rfl, a, g, c, rfl, hown, hne, hgood, hst, hblk, hbl⟩ := hrel
    obtain ⟨hcap, hcm⟩ := own_cap hown
    have hlen := hgood.len
    have hpos := hgood.pos
    have HOW := Lib.hid hown
    have HGD := Lib.hid hgood
    have HST := Lib.hid hst
    have HBK := Lib.hid hblk
    clear hown hgood hst hblk
    unfold maxLen at hcm
    by_cases hlt : k < ss.length
    · have hcell := HBK.out.strs k hlt
      have hsl := hs2 ss[k] (List.getElem_mem hlt)
      have HDR := Lib.hid (List.drop_eq_getElem_cons hlt)
      generalize ss[k] = s at hcell hsl HDR
      by_cases hs0 : s = [] ∨ s = [46]
      · have q3 : ((baL s).toList == [46] || (baL s).toList.isEmpty) = true := by rw [baL_toList]; rcases hs0 with rfl | rfl <;> rfl
        have q4 : ((baL s).toList == []) = (baL s).toList.isEmpty := by cases (baL s).toList <;> rfl
        have HS0 := Lib.hid hs0
        clear hs0
        have hfin : FRel w w'.heap.size ss 1001 (stepsL ps.dropLast ss) (k + 1) (.slice (some ⟨g, 0, none⟩) a.length c) wr :=
          ⟨a, g, c, rfl, HOW.out, hne, HGD.out.keep, by rw [← HST.out, HDR.out, steps_cons (step_skip HS0.out)], HBK.out, hbl⟩
        have HFI := Lib.hid hfin
        clear hfin
        cases q1 : ((baL s).toList == [46])
        · have q2 : (baL s).toList.isEmpty = true := by rw [q1] at q3; simpa using q3
          have q5 : (baL s).toList = [] := by simpa using q2
          clear q3 q4
          go_wp2_with fail
          go_roundw
          case rel => exact ⟨k + 1, by omega, by go_num, HFI.out⟩
          case measure => simp [intOf]; omega
        · clear q3 q4
          go_wp2_with fail
          go_roundw
          case rel => exact ⟨k + 1, by omega, by go_num, HFI.out⟩
          case measure => simp [intOf]; omega
      · have hs0' : s ≠ [] ∧ s ≠ [46] := ⟨fun e => hs0 (.inl e), fun e => hs0 (.inr e)⟩
        obtain ⟨n1, n2⟩ := hs0'
        clear hs0
        have q1 : ((baL s).toList == [46]) = false := by rw [baL_toList]; simpa using n2
        have q2 : (baL s).toList.isEmpty = false := by rw [baL_toList]; simpa using n1
        have q5 : ¬ (baL s).toList = [] := by rw [baL_toList]; exact n1
        by_cases hs3 : s = [46, 46]
        · have q3 : ((baL s).toList == [46, 46]) = true := by rw [baL_toList, hs3]; rfl
          have HS3 := Lib.hid hs3
          clear hs3
          by_cases h1 : a.length = 1
          · have q4 : ((a.length : Int) == 1) = true := by rw [beq_iff_eq]; omega
            have hfin : followL p t = (⟨#[]⟩, 92) := by
              rw [HF.out, ← HST.out, HDR.out, HS3.out, steps_stop (step_top h1)]; rfl
            have HFI := Lib.hid hfin
            clear hfin h1
            go_wp2_with fail
            go_ret2
            exact ⟨by rw [HFI.out]; rfl, hbl⟩
          · have q4 : ((a.length : Int) == 1) = false := by rw [beq_eq_false_iff_ne]; omega
            have hfin : FRel w w'.heap.size ss 1001 (stepsL ps.dropLast ss) (k + 1) (.slice (some ⟨g, 0, none⟩) (a.length - 1) c) wr := by
              have ho := own_take (k := a.length - 1) HOW.out (by omega)
              rw [← List.dropLast_eq_take] at ho
              refine ⟨a.dropLast, g, c, by rw [List.length_dropLast], by rwa [List.length_dropLast], hne, HGD.out.drop h1, by rw [← HST.out, HDR.out, HS3.out, steps_cons (step_up h1)], HBK.out, hbl⟩
            have HFI := Lib.hid hfin
            clear hfin h1
            go_wp2_with fail
            go_roundw
            case rel => exact ⟨k + 1, by omega, by go_num, HFI.out⟩
            case measure => simp [intOf]; omega
        · have q3 : ((baL s).toList == [46, 46]) = false := by rw [baL_toList]; simpa using hs3
          have hB2 := hbl.alloc hbl.size (.cells #[.string (baL s)] 9)
          have hsz : w'.heap.size < wr.heap.size := HBK.out.lt
          have hcl : (baL s).size ≤ maxLen := by rw [baL_size]; unfold maxLen; omega
          have H0 := Lib.hid (fun W => component_any (baL s) W hcl)
          clear hcl
          cases hcomp : compL s
          · have H1 : Hid (∀ W, Calls Tryd.prog 23 #[.string (baL s)] W fun e w' => e = .returned (.bool false) ∧ W = w') := by
              have := H0.out; have hc' : compS (baL s) = false := hcomp; rw [hc'] at this; exact this
            have hfin : followL p t = (⟨#[]⟩, 92) := by
              rw [HF.out, ← HST.out, HDR.out, steps_stop (step_no n1 n2 hs3 hcomp)]; rfl
            have HFI := Lib.hid hfin
            clear hfin hcomp H0
            go_wp2_with (at_builtin; refine wpList_app rfl rfl strElem9 (HOW.out.alloc _) rfl (row_new _ [.string (baL s)] _ 1 1 rfl (by decide) _ (by simp)) rfl (by simp [Value.oneCell']) (by omega) (by unfold maxLen; omega) hB2.size ?_; intro A' c' w4 hown1 hg1 hor)
            have hbl4 := grown_below hB2 (HOW.out.alloc _) hB2.size hg1
            refine (H1.out _).mono ?_
            rintro e w5 ⟨rfl, rfl⟩
            go_wp2_with fail
            go_ret2
            exact ⟨by rw [HFI.out]; rfl, hbl4⟩
          · have H1 : Hid (∀ W, Calls Tryd.prog 23 #[.string (baL s)] W fun e w' => e = .returned (.bool true) ∧ W = w') := by
              have := H0.out; have hc' : compS (baL s) = true := hcomp; rw [hc'] at this; exact this
            have HCO := Lib.hid hcomp
            clear hcomp H0
            go_wp2_with (at_builtin; refine wpList_app rfl rfl strElem9 (HOW.out.alloc _) rfl (row_new _ [.string (baL s)] _ 1 1 rfl (by decide) _ (by simp)) rfl (by simp [Value.oneCell']) (by omega) (by unfold maxLen; omega) hB2.size ?_; intro A' c' w4 hown1 hg1 hor)
            have hbl4 := grown_below hB2 (HOW.out.alloc _) hB2.size hg1
            have hbk4 := (HBK.out.alloc (.cells #[.string (baL s)] 9)).grown hg1 (by intro e; injection e with e; exact hne e.symm)
            obtain ⟨g', c'', e'⟩ := own_some hown1 (by omega)
            injection e' with e1 _ e3
            subst e1 e3
            have hne' : g' ≠ w'.heap.size := by
              rcases hor with ho | ho
              · have : g' = g := by simpa [Value.ownBlock] using ho
                omega
              · have : g' = wr.heap.size + 1 := by simpa [Value.ownBlock] using ho
                omega
            have hfin : FRel w w'.heap.size ss 1001 (stepsL ps.dropLast ss) (k + 1) (.slice (some ⟨g', 0, none⟩) (a.length + 1) c') w4 :=
              ⟨a ++ [s], g', c', by simp, by rw [strCells_app, List.length_append]; exact hown1, hne', HGD.out.push HCO.out (by omega), by rw [← HST.out, HDR.out, steps_cons (step_in n1 n2 hs3 HCO.out)], hbk4, hbl4⟩
            have HFI := Lib.hid hfin
            clear hfin hbk4 hown1 hg1 hor
            refine (H1.out _).mono ?_
            rintro e w5 ⟨rfl, rfl⟩
            go_wp2_with fail
            go_roundw
            case rel => exact ⟨k + 1, by omega, by go_num, HFI.out⟩
            case measure => simp [intOf]; omega
    · obtain rfl : k = ss.length := by omega
      have hdrop : stepsL ps.dropLast ss = some a := by rw [← HST.out, List.drop_length]; rfl
      have HRES := Lib.hid (show followL p t = followR (some a) by rw [HF.out, hdrop])
      clear hdrop
      by_cases h2 : a.length < 2
      · have hj := join_few (some ⟨g, 0, none⟩) a.length c wr h2
        have HJ := Lib.hid hj
        clear hj
        have HFI := Lib.hid (show followL p t = (⟨#[]⟩, 92) by rw [HRES.out]; exact if_pos h2)
        go_wp2_with fail
        refine HJ.out.mono ?_
        rintro e w5 ⟨rfl, rfl⟩
        go_wp2_with fail
        go_ret2
        exact ⟨by rw [HFI.out]; rfl, hbl⟩
      · have hjl := HGD.out.joinLen
        have HJ := Lib.hid (join_ok a g 0 c wr (strsAt_of_own HOW.out) (by omega) hcap (by omega) (Nat.le_trans hjl (by have : (1001 + ss.length) * (1000 + 1) ≤ 1202 * 1001 := Nat.mul_le_mul (by omega) (by omega); omega)) (fun p hp => by have := HGD.out.comps p hp; exact ⟨this.1, by omega⟩))
        have HFI := Lib.hid (show followL p t = (baL (joinP a), 0) by rw [HRES.out]; exact if_neg h2)
        clear hjl
        go_wp2_with fail
        refine HJ.out.mono ?_
        rintro e w5 ⟨rfl, hb5⟩
        go_wp2_with fail
        go_ret2
        exact ⟨by rw [HFI.out]; rfl, below_next hbl hb5⟩

theorem follow_any (p t : ByteArray) (w : World) (he : Env w) (hp : p.size ≤ 1000) (ht : t.size ≤ maxLen) :
    Calls Tryd.prog 21 #[.string p, .string t] w fun e w' => e = .returned (.tuple #[.string (followL p t).1, .int .i64 (followL p t).2]) ∧ Below w.heap.size w w' := by
  cases h : dirL p.data.toList 2 with
  | none =>
    have e : followL p t = (⟨#[]⟩, 20) := by unfold followL; rw [h]
    rw [e]; exact follow_e1 p t w he hp h
  | some ps =>
    cases hT : targetB t
    · have e : followL p t = (⟨#[]⟩, 91) := by unfold followL; rw [h]; simp only [hT, if_true]
      rw [e]; exact follow_e2 p t ps w he hp ht h hT
    · by_cases hh : t.data.toList.head? = some 47
      · have e : followL p t = (⟨#[]⟩, 92) := by unfold followL; rw [h]; simp only [hT, Bool.true_eq_false, if_false, hh, if_true]
        rw [e]; exact follow_e3 p t ps w he hp h hT hh
      · exact follow_main p t ps w he hp h hT hh

end Go.Proofs.YtfifalpacagacaaDoor
