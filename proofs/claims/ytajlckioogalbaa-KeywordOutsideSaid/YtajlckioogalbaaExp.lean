/- The walk of KeywordExpands. -/
import Derived.Test.YtajlckioogalbaaColl
namespace Go.Proofs.Ytajlckioogalbaa
open Go.RowKit

theorem namesOf_fst (l : List (ByteArray × ByteArray)) : namesOf l = namesL (l.map (·.1)) := by simp [namesOf, namesL, Function.comp_def]
theorem tab_words (l : List (ByteArray × ByteArray)) : tabB l = wordsOkB l := by
  unfold tabB wordsOkB namesB
  rw [namesOf_fst, ← Bool.and_assoc]
  congr 1
  rw [List.all_map]
  unfold wordB
  induction l with
  | nil => rfl
  | cons p l ih => simp only [List.all_cons, ih, Function.comp_apply]; cases nameS p.1 <;> cases valueS p.2 <;> simp
theorem find_idx : ∀ (l : List (ByteArray × ByteArray)) (nm : List UInt8), nm ∈ namesOf l → ∃ p, l[(namesOf l).idxOf nm]? = some p ∧ l.find? (fun p => (⟨nm.toArray⟩ : ByteArray) == p.1) = some p ∧ p.1.data.toList = nm
  | [], nm, h => by simp [namesOf] at h
  | q :: l, nm, h => by
    by_cases hq : nm = q.1.data.toList
    · refine ⟨q, ?_, ?_, hq.symm⟩
      · simp [namesOf, hq]
      · rw [List.find?_cons, ba_beq]; simp [hq]
    · have hm : nm ∈ namesOf l := by simpa [namesOf, hq] using h
      obtain ⟨p, h1, h2, h3⟩ := find_idx l nm hm
      refine ⟨p, ?_, ?_, h3⟩
      · have : (q.1.data.toList == nm) = false := by simpa using fun e => hq e.symm
        simp only [namesOf, List.map_cons, List.idxOf_cons, this, cond_false, List.getElem?_cons_succ]
        exact h1
      · rw [List.find?_cons, ba_beq]; simp [hq]; exact h2
theorem exp_text (b : List UInt8) (l : List (ByteArray × ByteArray)) : replL b (byTxt (namesL (l.map (·.1))) (l.map expText)) (occs (namesOf l) b 0) = replL b (txtL l fun nm val => expText (nm, val)) (occs (namesOf l) b 0) := by
  refine replL_congr fun o ho => ?_
  obtain ⟨p, h1, h2, h3⟩ := find_idx l o.2.2 (occ_mem_names ho)
  rw [namesOf_fst] at h1
  unfold byTxt txtL valOf
  rw [List.getElem?_map, h1, h2]
  have : p.1 = ⟨o.2.2.toArray⟩ := ba_ext (by rw [h3])
  simp [← this]
theorem wordsB_false {l : List (ByteArray × ByteArray)} (h : wordsB l = false) : l.length ≤ 8 ∧ ∀ s ∈ l, s.1.size ≤ 60 ∧ s.2.size ≤ 1100 := by
  unfold wordsB at h
  simp only [Bool.or_eq_false_iff, decide_eq_false_iff_not, List.any_eq_false, Bool.or_eq_true, decide_eq_true_eq] at h
  exact ⟨by omega, fun s hs => by have := h.1 s hs; omega⟩
theorem words_letters {l : List (ByteArray × ByteArray)} (h : wordsOkB l = true) : ∀ nm ∈ namesL (l.map (·.1)), ∀ c ∈ nm, letterB c.toNat = true := by
  unfold wordsOkB at h
  simp only [Bool.and_eq_true] at h
  exact names_letters h.2

set_option maxHeartbeats 2000000 in
set_option maxRecDepth 100000 in
theorem keywordExpands_walk (b : List UInt8) (l : List (ByteArray × ByteArray)) (v0 v1 : Value) (W : World) (hb : Bytes W v0 b) (hn : Pairs W v1 l) (hsz : ∀ s ∈ l, s.1.size ≤ maxLen ∧ s.2.size ≤ maxLen) :
    Calls Try.prog 3 #[v0, v1] W fun e w' => e = .returned (.bool true) ∧ Below W.heap.size W w' := by
  have HL := Lib.hid (large_any b [] v0 _ W hb (Row.nil_ _ 1) (by simp))
  have HW := Lib.hid (words_any l v1 W hn hsz)
  have HB := Lib.hid hb
  have HN := Lib.hid hn
  obtain ⟨A0, c0, rfl, hc0, hm0, -⟩ := hb
  obtain ⟨A1, c1, rfl, hc1, hm1, -⟩ := hn
  clear hsz
  go_enter Try.func3, Try.ntmps3
  go_wp2_with fail
  refine HL.out.mono ?_
  cases hlg : largeB b []
  · obtain ⟨hb1, -, -⟩ := largeB_false hlg
    rintro e w1 ⟨rfl, rfl⟩
    cases hwg : wordsB l
    · obtain ⟨hb2, hb3⟩ := wordsB_false hwg
      rw [hwg] at HW
      have HB3 := Lib.hid hb3
      clear hlg hwg HL hb3
      go_wp2_with fail
      refine HW.out.mono ?_
      rintro e W1 ⟨rfl, hbW⟩
      have HF := Lib.hid (expand_any b l _ _ W1 (HB.out.below hbW) (HN.out.below hbW) (by omega) (by omega) (fun s hs => by have := HB3.out s hs; omega))
      obtain ⟨bs, hbs⟩ : ∃ bs : ByteArray, bs = ⟨b.toArray⟩ := ⟨_, rfl⟩
      have hcvA : ∀ w', Below W.heap.size W w' → (convert 22 9 (.slice A0 b.length c0)).run Try.prog w' = .ok (.string bs) w' := fun w' hw => by
        rw [hbs]; exact run_str (HB.out.below hw) 22 9 5 Try.underlying22 Try.underlying5 Try.underlying9
      have HCV := Lib.hid hcvA
      have hcv := hcvA W1 hbW
      have hbz : bs.size = b.length := by rw [hbs]; simp [ByteArray.size]
      have hbd : bs.data.toList = b := by rw [hbs]
      have HBD := Lib.hid hbd
      clear hbs hcvA hbd HW
      go_wp2_with fail
      refine HF.out.mono ?_
      unfold ReplP
      rw [tab_words]
      rintro e w1 ⟨h1, h2, hbl0⟩
      have hbl : Below W.heap.size W w1 := hbW.trans (hbl0.mono hbW.size)
      have HC := Lib.hid (refWords_any l _ w1 (HN.out.below hbl) (by omega) (fun s hs => by have := HB3.out s hs; omega))
      have hcv1 := HCV.out w1 hbl
      cases htab : wordsOkB l
      · obtain rfl := h2 htab
        rw [htab] at HC
        clear h1 h2 HF
        go_wp2_with fail
        refine HC.out.mono ?_
        rintro e w2 ⟨hbl2, v', rfl, -, A6, n6, c6, rfl⟩
        have hbl3 := hbl.trans (hbl2.mono hbl.size)
        go_wp2_with fail
        refine (awake_any _).mono ?_
        rintro e w3 ⟨rfl, hbl4⟩
        go_wp2
        go_ret
        exact ⟨rfl, hbl3.trans (hbl4.mono hbl3.size)⟩
      · obtain ⟨vr, rfl, hr⟩ := h1 htab
        have HLE := Lib.hid (words_letters htab)
        rw [htab] at HC
        clear h1 h2 HF htab
        have HR := Lib.hid hr
        obtain ⟨out, hout⟩ : ∃ out, replL b (txtL l fun nm val => expText (nm, val)) (occs (namesOf l) b 0) = out := ⟨_, rfl⟩
        rw [hout] at hr HR
        have HOUT := Lib.hid hout
        clear hout
        obtain ⟨Ar, cr, rfl, hcr, hmr, -⟩ := hr
        go_wp2_with fail
        refine HC.out.mono ?_
        rintro e w2 ⟨hbl2, v', rfl, hs', -⟩
        have hs' := hs' (by first | trivial | rfl)
        have HSN := Lib.hid hs'
        obtain ⟨A6, c6, rfl, -⟩ := hs'
        rw [List.length_map] at HSN
        have hbl3 := hbl.trans (hbl2.mono hbl.size)
        obtain ⟨os, hos⟩ : ∃ os : ByteArray, os = ⟨out.toArray⟩ := ⟨_, rfl⟩
        have hcvr : ∀ w', Below w2.heap.size w2 w' → (convert 22 9 (.slice Ar out.length cr)).run Try.prog w' = .ok (.string os) w' := fun w' hw => by
          rw [hos]; exact run_str ((HR.out.below hbl2).below hw) 22 9 5 Try.underlying22 Try.underlying5 Try.underlying9
        have hod : os.data.toList = out := by rw [hos]
        have HOD := Lib.hid hod
        clear hos hod HC hcv hcv1
        simp only [List.length_map]
        go_wp2_with fail
        go_region_held3 (fun w' => Below w2.heap.size w2 w') (first | assumption | exact (Below.refl _ _).drew)
          (first
            | (go_at_call 16; refine (expanded_any l _ _ ((HN.out.below hbl3).below (Below.refl _ _).drew) (by omega) (fun s hs => by have := HB3.out s hs; omega)).mono ?_; rintro e w5 ⟨v5, rfl, hs5, hbl5⟩; have hbl6 : Below w2.heap.size w2 w5 := (Below.refl _ _).drew.trans hbl5; have HS5 := Lib.hid hs5; obtain ⟨A5, c5, rfl, -⟩ := hs5; rw [List.length_map] at HS5)
            | (go_at_call 15; refine (refReplace_any bs (l.map (·.1)) (l.map expText) (.slice A6 l.length c6) _ _ (HSN.out.below hbl6) HS5.out (by simp) (by omega) (by simp; omega) (by intro t ht; obtain ⟨s, hs, rfl⟩ := List.mem_map.1 ht; have := HB3.out s hs; omega) (by intro t ht; obtain ⟨s, hs, rfl⟩ := List.mem_map.1 ht; rw [expText_size]; have := HB3.out s hs; omega) HLE.out).mono ?_; rintro e w7 ⟨t, rfl, ht, hbl7⟩; have hbl8 := hbl6.trans (hbl7.mono hbl6.size); obtain rfl : os = t := ba_ext (by rw [ht, HBD.out, ← namesOf_fst, namesOf_fst, ← namesOf_fst, HOD.out, ← HOUT.out, ← exp_text, namesOf_fst]))
            | (go_at_call 12; refine (awake_any _).mono ?_; rintro e w9 ⟨rfl, hbl9⟩; have hbl10 := hbl8.trans (hbl9.mono hbl8.size)))
        go_wp2
        go_ret
        exact ⟨rfl, hbl3.trans (hbl10.mono hbl3.size)⟩
    · rw [hwg] at HW
      go_wp2_with fail
      refine HW.out.mono ?_
      rintro e W1 ⟨rfl, hbW⟩
      go_wp2_with fail
      refine (awake_any _).mono ?_
      rintro e w2 ⟨rfl, hbl2⟩
      go_wp2
      go_ret
      exact ⟨rfl, hbW.trans (hbl2.mono hbW.size)⟩
  · rintro e w1 ⟨rfl, rfl⟩
    go_wp2_with fail
    refine (awake_any _).mono ?_
    rintro e w2 ⟨rfl, hbl2⟩
    go_wp2
    go_ret
    exact ⟨rfl, hbl2⟩

end Go.Proofs.Ytajlckioogalbaa
