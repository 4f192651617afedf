/- Plain: occs and replL by segments; so what Find, Expand and Collapse answer on replaced texts. -/
import Derived.Test.YtfifalpacagacaaDoorKSeg
namespace Go.Proofs.YtfifalpacagacaaDoor.kw
set_option linter.unusedVariables false
set_option linter.unusedSimpArgs false
open Go.RowKit

theorem upto_nil_head {r : List UInt8} {c : UInt8} {t : List UInt8} (h : r = c :: t) (hc : c ≠ 36) : upto r = c :: upto t := by rw [h, upto_cons hc]

theorem skip_cases (r : List UInt8) : (36 : UInt8) ∈ r ∧ (10 : UInt8) ∉ upto r ∧ r[(r.takeWhile (fun c => c.toNat != 36 && c.toNat != 10)).length]? = some 36 ∧ upto r = r.takeWhile (fun c => c.toNat != 36 && c.toNat != 10) ∨
    (¬ ((36 : UInt8) ∈ r ∧ (10 : UInt8) ∉ upto r)) ∧ r[(r.takeWhile (fun c => c.toNat != 36 && c.toNat != 10)).length]? ≠ some 36 := by
  induction r with
  | nil => right; simp
  | cons c r ih =>
    by_cases h36 : c = 36
    · subst h36; left; refine ⟨by simp, by rw [upto_cons36]; simp, by simp, by rw [upto_cons36]; simp⟩
    · by_cases h10 : c = 10
      · subst h10; right; refine ⟨by rw [upto_cons (by decide)]; simp, by simp⟩
      · have hp : (c.toNat != 36 && c.toNat != 10) = true := by
          rw [Bool.and_eq_true]
          refine ⟨ne36 h36, ?_⟩
          simp only [bne_iff_ne, ne_eq]
          exact fun e => h10 (UInt8.toNat.inj (by simpa using e))
        rw [List.takeWhile_cons, if_pos hp, upto_cons h36]
        simp only [List.length_cons, List.getElem?_cons_succ, List.mem_cons]
        rcases ih with ⟨a, b, d, e⟩ | ⟨a, b⟩
        · left
          refine ⟨.inr a, ?_, d, by rw [e]⟩
          rintro (h | h)
          · exact h10 h.symm
          · exact b h
        · right
          refine ⟨?_, b⟩
          rintro ⟨h1, h2⟩
          refine a ⟨?_, fun h => h2 (.inr h)⟩
          rcases h1 with h1 | h1
          · exact absurd h1.symm h36
          · exact h1

theorem step_eq (names : List (List UInt8)) (l : List UInt8) (k : Nat) :
    stepAt names l k = (stepS names (l.drop (k + 1))).map (fun _ => k + (upto (l.drop (k + 1))).length + 2) ∧ nameAt l k = (l.drop (k + 1)).takeWhile (fun c => letterB c.toNat) := by
  have hnm : nameAt l k = (l.drop (k + 1)).takeWhile (fun c => letterB c.toNat) := by unfold nameAt; rw [endNameL_take]
  refine ⟨?_, hnm⟩
  obtain ⟨s, hs⟩ : ∃ s, l.drop (k + 1) = s := ⟨_, rfl⟩
  obtain ⟨nm, hn⟩ : ∃ nm, s.takeWhile (fun c => letterB c.toNat) = nm := ⟨_, rfl⟩
  rw [hs, hn] at hnm
  have hq : endNameL l (k + 1) = k + 1 + nm.length := by unfold endNameL; rw [hs, hn]
  have hlet : ∀ c ∈ nm, letterB c.toNat = true := fun c hc => by rw [← hn] at hc; exact mem_takeWhile (p := fun c : UInt8 => letterB c.toNat) hc
  have hn36 : ∀ c ∈ nm, c ≠ 36 := fun c hc => letter_ne36 (hlet c hc)
  obtain ⟨r, hr⟩ : ∃ r, s.drop nm.length = r := ⟨_, rfl⟩
  have hsr : s = nm ++ r := by
    have := List.take_append_drop nm.length s
    rw [hr] at this
    rw [← this]
    congr 1
    rw [← hn]
    exact ((List.prefix_iff_eq_take).1 (List.takeWhile_prefix _)).symm
  have hup : upto s = nm ++ upto r := by rw [hsr, upto_app hn36]
  have hmem : ((36 : UInt8) ∈ s) ↔ (36 : UInt8) ∈ r := by
    rw [hsr, List.mem_append]
    exact ⟨fun h => h.resolve_left (fun h => hn36 _ h rfl), .inr⟩
  have hat : ∀ i, l[k + 1 + nm.length + i]? = r[i]? := fun i => by rw [← hr, List.getElem?_drop, ← hs, List.getElem?_drop]; congr 1; omega
  have hdr : ∀ i, l.drop (k + 1 + nm.length + i) = r.drop i := fun i => by rw [← hr, ← hs, List.drop_drop, List.drop_drop, Nat.add_assoc]
  have htw : (upto s).takeWhile (fun c => letterB c.toNat) = nm := by
    rw [← hn]; exact tw_tw (fun c hc => ne36 (letter_ne36 hc)) s
  have hS : stepS names s = if nm ∈ names ∧ (36 : UInt8) ∈ r ∧ (upto r = [] ∨ ((upto r).head? = some 58 ∧ (10 : UInt8) ∉ upto r)) then some nm else none := by
    unfold stepS stepP
    simp only [htw, decide_eq_true_eq, hmem]
    rw [hup, List.drop_left]
  rw [hs]
  have h0 := hat 0
  simp only [Nat.add_zero] at h0
  have key : ((36 : UInt8) ∈ r ∧ (upto r = [] ∨ ((upto r).head? = some 58 ∧ (10 : UInt8) ∉ upto r)) ∧ occOk l (k + 1 + nm.length) = true ∧ occAt l (k + 1 + nm.length) = k + (upto s).length + 1) ∨
      (¬ ((36 : UInt8) ∈ r ∧ (upto r = [] ∨ ((upto r).head? = some 58 ∧ (10 : UInt8) ∉ upto r))) ∧ occOk l (k + 1 + nm.length) = false) := by
    cases r with
    | nil =>
      right
      refine ⟨by simp, ?_⟩
      simp only [List.getElem?_nil] at h0
      unfold occOk occAt
      rw [h0]
      simp [h0]
    | cons c r' =>
      simp only [List.getElem?_cons_zero] at h0
      by_cases h36 : c = 36
      · subst h36
        left
        have ha : occAt l (k + 1 + nm.length) = k + 1 + nm.length := by unfold occAt; rw [h0, if_neg (by decide)]
        refine ⟨by simp, .inl (upto_cons36 _), ?_, ?_⟩
        · unfold occOk; rw [ha, h0]; rfl
        · rw [ha, hup, upto_cons36, List.append_nil]; omega
      · by_cases h58 : c = 58
        · subst h58
          have ha : occAt l (k + 1 + nm.length) = k + 1 + nm.length + 1 + (r'.takeWhile (fun c => c.toNat != 36 && c.toNat != 10)).length := by
            unfold occAt skipL
            rw [h0, if_pos rfl, hdr 1]
            rfl
          have hg : l[occAt l (k + 1 + nm.length)]? = r'[(r'.takeWhile (fun c => c.toNat != 36 && c.toNat != 10)).length]? := by
            rw [ha, Nat.add_assoc (k + 1 + nm.length), hat, Nat.add_comm 1, List.getElem?_cons_succ]
          have hu := upto_cons h36 r'
          rcases skip_cases r' with ⟨a, b, d, e⟩ | ⟨a, b⟩
          · left
            refine ⟨by simp [a], .inr ⟨by rw [hu]; rfl, ?_⟩, ?_, ?_⟩
            · rw [hu]
              simp only [List.mem_cons, not_or]
              exact ⟨by decide, b⟩
            · unfold occOk; rw [hg, d]; rfl
            · rw [ha, hup, hu, e, List.length_append, List.length_cons]; omega
          · right
            refine ⟨?_, ?_⟩
            · rintro ⟨h1, h2⟩
              rw [hu] at h2
              rcases h2 with h2 | h2
              · cases h2
              · refine a ⟨?_, fun h => h2.2 (by simp [h])⟩
                rcases List.mem_cons.1 h1 with h1 | h1
                · exact absurd h1.symm h36
                · exact h1
            · unfold occOk; rw [hg]; simpa using b
        · right
          have ha : occAt l (k + 1 + nm.length) = k + 1 + nm.length := by unfold occAt; rw [h0, if_neg (by simpa using h58)]
          refine ⟨?_, ?_⟩
          · rintro ⟨-, h2⟩
            rw [upto_cons h36] at h2
            rcases h2 with h2 | h2
            · cases h2
            · simp at h2; exact h58 h2.1
          · unfold occOk; rw [ha, h0]; simpa using h36
  unfold stepAt
  rw [hnm, hq, hS]
  rcases key with ⟨a, b, d, e⟩ | ⟨a, b⟩
  · by_cases hin : nm ∈ names
    · rw [if_pos ⟨hin, d⟩, if_pos ⟨hin, a, b⟩, e]; rfl
    · rw [if_neg (fun h => hin h.1), if_neg (fun h => hin h.1)]; rfl
  · rw [if_neg (fun h => by rw [b] at h; exact absurd h.2 (by simp)), if_neg (fun h => a h.2)]; rfl

theorem stepS_name {names : List (List UInt8)} {s nm : List UInt8} (h : stepS names s = some nm) : s.takeWhile (fun c => letterB c.toNat) = nm := by
  have htw := tw_tw (p := fun c : UInt8 => c.toNat != 36) (q := fun c : UInt8 => letterB c.toNat) (fun c hc => ne36 (letter_ne36 hc)) s
  unfold stepS stepP at h
  simp only at h
  split at h
  · injection h with h
    rw [← h]; exact htw.symm
  · cases h

theorem occs_scan (names : List (List UInt8)) (l : List UInt8) (k : Nat) : occs names l k = posOf k (scan names (l.drop k)) := by
  induction hn : l.length - k using Nat.strongRecOn generalizing k with
  | _ n ih =>
    by_cases hk : k < l.length
    · have hd : l.drop k = l[k] :: l.drop (k + 1) := List.drop_eq_getElem_cons hk
      obtain ⟨h1, h2⟩ := step_eq names l k
      have hi := ih (l.length - (k + 1)) (by omega) (k + 1) rfl
      rw [hd, scan_cons]
      by_cases hc : l[k] = 36
      · have h36 : l[k]? = some 36 := by rw [List.getElem?_eq_getElem hk, hc]
        rw [if_pos hc]
        cases hst : stepS names (l.drop (k + 1)) with
        | none =>
          rw [hst] at h1
          rw [occs_none names l k hk h36 h1, hi]
          rfl
        | some nm =>
          rw [hst] at h1
          have hnm := stepS_name hst
          have hi2 := ih (l.length - (k + (upto (l.drop (k + 1))).length + 2)) (by omega) (k + (upto (l.drop (k + 1))).length + 2) rfl
          rw [occs_some names l k _ hk h36 h1, h2, hnm, hi2]
          simp only [posOf, List.length_cons, List.length_append, List.length_nil, List.drop_drop]
          rw [show k + 1 + ((upto (l.drop (k + 1))).length + 1) = k + (upto (l.drop (k + 1))).length + 2 by omega, show k + ((upto (l.drop (k + 1))).length + (0 + 1) + 1) = k + (upto (l.drop (k + 1))).length + 2 by omega]
      · rw [if_neg hc, occs_no names l k hk (by rw [List.getElem?_eq_getElem hk]; intro h; injection h with h; exact hc h), hi]
        rfl
    · rw [occs_end names l k hk, List.drop_of_length_le (by omega)]
      rfl

theorem repl_fold (b : List UInt8) (txt : List UInt8 → List UInt8) : ∀ (segs : List Seg) (k cp : Nat) (out : List UInt8), b.drop k = rawL segs → cp ≤ k → k ≤ b.length → (∀ nm raw, Seg.occ nm raw ∈ segs → raw ≠ []) →
    ((posOf k segs).foldl (fun st o => (st.1 ++ (b.drop st.2).take (o.1 - st.2) ++ txt o.2.2, o.2.1 + 1)) (out, cp)).1 ++ b.drop ((posOf k segs).foldl (fun st o => (st.1 ++ (b.drop st.2).take (o.1 - st.2) ++ txt o.2.2, o.2.1 + 1)) (out, cp)).2 =
      out ++ (b.drop cp).take (k - cp) ++ showL txt segs
  | [], k, cp, out, h, hc, hk, hne => by
    have hk' : k = b.length := by
      have := congrArg List.length h
      simp [rawL] at this
      omega
    simp only [posOf, List.foldl_nil, showL, List.flatMap_nil, List.append_nil]
    rw [List.take_of_length_le (by rw [List.length_drop]; omega)]
  | .byte c :: l, k, cp, out, h, hc, hk, hne => by
    have h' : b.drop k = c :: rawL l := h
    have hlt : k < b.length := by
      have := congrArg List.length h'
      rw [List.length_drop, List.length_cons] at this
      omega
    rw [List.drop_eq_getElem_cons hlt] at h'
    injection h' with h1 h2
    have := repl_fold b txt l (k + 1) cp out h2 (by omega) (by omega) (fun nm raw hm => hne nm raw (by simp [hm]))
    rw [posOf, this]
    have e : (b.drop cp).take (k + 1 - cp) = (b.drop cp).take (k - cp) ++ [c] := by
      rw [show k + 1 - cp = (k - cp) + 1 by omega, List.take_succ_eq_append_getElem (by rw [List.length_drop]; omega)]
      congr 1
      rw [List.getElem_drop]
      simp only [show cp + (k - cp) = k by omega]
      rw [h1]
    rw [e]
    simp [showL, Seg.show]
  | .occ nm raw :: l, k, cp, out, h, hc, hk, hne => by
    have h' : b.drop k = raw ++ rawL l := h
    have hlen := congrArg List.length h'
    rw [List.length_drop, List.length_append] at hlen
    have h2 : b.drop (k + raw.length) = rawL l := by rw [← List.drop_drop, h', List.drop_left]
    have hpos : 0 < raw.length := List.length_pos_iff.2 (hne nm raw (by simp))
    have := repl_fold b txt l (k + raw.length) (k + raw.length) (out ++ (b.drop cp).take (k - cp) ++ txt nm) h2 (Nat.le_refl _) (by omega) (fun nm raw hm => hne nm raw (by simp [hm]))
    rw [posOf, List.foldl_cons]
    simp only [show k + raw.length - 1 + 1 = k + raw.length by omega]
    rw [this]
    simp [showL, Seg.show]

theorem replL_scan (names : List (List UInt8)) (b : List UInt8) (txt : List UInt8 → List UInt8) : replL b txt (occs names b 0) = showL txt (scan names b) := by
  rw [occs_scan, List.drop_zero]
  have := repl_fold b txt (scan names b) 0 0 [] (by rw [scan_raw]; rfl) (Nat.le_refl _) (Nat.zero_le _) (fun nm raw h => by obtain ⟨-, r, rfl⟩ := scan_occ names b nm raw h; simp)
  simpa [replL, replSt] using this

/-- Replacing in a text in which all occurrences were replaced before is replacing in the text itself. -/
theorem repl_again {names : List (List UInt8)} {t1 : List UInt8 → List UInt8} (hg : Good names t1) (t2 : List UInt8 → List UInt8) (b : List UInt8) :
    replL (replL b t1 (occs names b 0)) t2 (occs names (replL b t1 (occs names b 0)) 0) = replL b t2 (occs names b 0) := by
  rw [replL_scan names (replL b t1 (occs names b 0)), replL_scan names b t1, scan_show hg, show_to, ← replL_scan]

theorem posOf_length (k j : Nat) (l : List Seg) (txt : List UInt8 → List UInt8) : (posOf k (l.map (Seg.to txt))).length = (posOf j l).length := by
  induction l generalizing k j with
  | nil => rfl
  | cons x l ih =>
    cases x with
    | byte c => exact ih _ _
    | occ nm raw => simp only [List.map_cons, Seg.to, posOf, List.length_cons]; rw [ih]
theorem occs_again {names : List (List UInt8)} {t1 : List UInt8 → List UInt8} (hg : Good names t1) (b : List UInt8) : (occs names (replL b t1 (occs names b 0)) 0).length = (occs names b 0).length := by
  have h1 : occs names (replL b t1 (occs names b 0)) 0 = posOf 0 ((scan names b).map (Seg.to t1)) := by
    rw [occs_scan names (replL b t1 (occs names b 0)), List.drop_zero, replL_scan names b t1, scan_show hg]
  have h2 : occs names b 0 = posOf 0 (scan names b) := by rw [occs_scan, List.drop_zero]
  rw [h1, posOf_length 0 0, ← h2]

end Go.Proofs.YtfifalpacagacaaDoor.kw
