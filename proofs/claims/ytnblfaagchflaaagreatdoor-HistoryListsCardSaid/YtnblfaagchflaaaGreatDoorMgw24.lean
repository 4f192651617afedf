/- Patterns: the walk of Match. -/
import Derived.Test.YtnblfaagchflaaaGreatDoorMgw2
import Derived.Test.YtnblfaagchflaaaGreatDoorMgw14
import Derived.Test.YtnblfaagchflaaaGreatDoorMgw12
import Derived.Test.YtnblfaagchflaaaGreatDoorMgw15
namespace Go.Proofs.YtnblfaagchflaaaGreatDoor
open Go.RowKit
set_option linter.unusedVariables false
set_option linter.unusedSimpArgs false

theorem matchP_dir {p : Pat} {s : ByteArray} (h : dirL s.data.toList 2 = none) : matchP p s = none := by unfold matchP; rw [h]
theorem matchP_no {p : Pat} {s : ByteArray} {cs : List (List UInt8)} (h : dirL s.data.toList 2 = some cs) (hn : ¬ (patE p = 0 ∧ fitsB p cs = true ∧ zipB p.parts cs p.parts.length = true)) : matchP p s = none := by unfold matchP; rw [h]; exact if_neg hn
theorem matchP_yes {p : Pat} {s : ByteArray} {cs : List (List UInt8)} (h : dirL s.data.toList 2 = some cs) (h1 : patE p = 0) (h2 : fitsB p cs = true) (h3 : zipB p.parts cs p.parts.length = true) : matchP p s = some (capsP p cs) := by unfold matchP; rw [h]; exact if_pos ⟨h1, h2, h3⟩
theorem matchPost_no {w w' : World} {p : Pat} {s : ByteArray} (h : matchP p s = none) (hb : Below w.heap.size w w') : MatchPost w p s (.returned (.tuple #[.slice none 0 0, .bool false])) w' :=
  ⟨none, 0, 0, by rw [h]; rfl, hb, fun l hl => by rw [h] at hl; cases hl⟩
theorem prtAt_get {l : List ByteArray} {k : Nat} (h : k < l.length) : prtAt l k = l[k] := by unfold prtAt; rw [List.getElem?_eq_getElem h]; rfl
theorem compAt_get {cs : List (List UInt8)} {k : Nat} (h : k < cs.length) : compAt cs k = baL cs[k] := by unfold compAt; rw [List.getElem?_eq_getElem h]; rfl
theorem dirL_parts {s : ByteArray} {cs : List (List UInt8)} (h : dirL s.data.toList 2 = some cs) : (∀ p ∈ cs, p.length ≤ s.size) ∧ cs.length ≤ s.size + 1 ∧ (Lib.join cs [47]).length ≤ s.size := by
  unfold dirL at h
  split at h
  · injection h with h
    subst h
    have hl : (s.data.toList.drop 2).length ≤ s.size := by rw [List.length_drop]; have : s.data.toList.length = s.size := rfl; omega
    refine ⟨fun p hp => by have := (splitL_mem hp).2; omega, by have := splitL_length_le (s.data.toList.drop 2); omega, by rw [join_splitL]; exact hl⟩
  · cases h
theorem join_drop_len : ∀ (cs : List (List UInt8)) (n : Nat), (Lib.join (cs.drop n) [47]).length ≤ (Lib.join cs [47]).length
  | [], n => by rw [List.drop_nil]; exact Nat.le_refl _
  | c :: cs, 0 => Nat.le_refl _
  | c :: cs, n + 1 => by
    rw [List.drop_succ_cons]
    refine Nat.le_trans (join_drop_len cs n) ?_
    by_cases h : cs = []
    · subst h; rw [Lib.join_nil]; exact Nat.zero_le _
    · rw [join_cons2 c cs h, List.length_append, List.length_append]; omega
set_option maxRecDepth 100000 in
set_option maxHeartbeats 8000000 in
theorem match_any (p : Pat) (s : ByteArray) (A : Option Addr) (c : Nat) (w : World) (he : Env w) (hs : s.size ≤ 1000000) (hS : Strs w (.slice A p.parts.length c) p.parts) (hz : ∀ x ∈ p.parts, x.size ≤ maxLen) :
    Calls Tryz.prog 11 #[.agg #[.slice A p.parts.length c, .bool p.rest], .string s] w (MatchPost w p s) := by
  obtain ⟨A', c', e', hcc, hmm, -⟩ := id hS
  injection e' with e1 e2 e3
  subst e1 e3
  unfold maxLen at hmm
  have HS := Lib.hid hS
  have HZ := Lib.hid hz
  have HND := Lib.hid (@matchP_dir p s)
  have HNO := Lib.hid (fun cs => @matchP_no p s cs)
  have HYE := Lib.hid (fun cs => @matchP_yes p s cs)
  have HPN := Lib.hid (fun X (h : matchP p s = none) (hb : Below w.heap.size w X) => matchPost_no h hb)
  have hB := blk_new w [.slice A p.parts.length c, .bool p.rest] 25
  have hA : Below w.heap.size w (w.alloc (.cells #[.slice A p.parts.length c, .bool p.rest] 25)) := (Below.refl _ _).alloc (Nat.le_refl _) _
  have HSP := Lib.hid (fun X (hX : Below w.heap.size w X) => split_pat s X (he.below hX) (by omega))
  have HCK := Lib.hid (fun X (hX : Below w.heap.size w X) => patCheck_any p A c X (hS.below hX) hz)
  have HSZ := Lib.hid hs
  clear hS hz he e2 hs
  go_enter Tryz.func11, Tryz.ntmps11
  go_upto_region 1 with fail
  generalize w.alloc (.cells #[.slice A p.parts.length c, .bool p.rest] 25) = W1 at hB hA ⊢
  have HB := Lib.hid hB
  have HA := Lib.hid hA
  clear hB hA
  go_wp2_with fail
  refine (HSP.out W1 HA.out).mono ?_
  rintro e w2 (⟨hd, rfl, hb2⟩ | ⟨cs, hd, rfl, hw2⟩)
  · have HB2 := Lib.hid (below_next HA.out hb2)
    have HR := Lib.hid (HND.out hd)
    clear hd hb2
    go_wp2_with fail
    go_ret2
    exact HPN.out _ HR.out HB2.out
  have hK2 := blk_new W1 (strCells cs) 9
  have hb2 : Below W1.heap.size W1 (W1.alloc (.cells (strCells cs).toArray 9)) := (Below.refl _ _).alloc (Nat.le_refl _) _
  rw [hw2] at hK2 hb2
  have HD := Lib.hid hd
  have HDP := Lib.hid (dirL_parts hd)
  have HK2 := Lib.hid hK2
  have HB2 := Lib.hid (below_next HA.out hb2)
  have d0 : w2.cell? ⟨w.heap.size, 0, none⟩ = some (.slice A p.parts.length c) := (HB.out.below hb2 HB.out.lt).cell 0
  have d1 : w2.cell? ⟨w.heap.size, 1, none⟩ = some (.bool p.rest) := (HB.out.below hb2 HB.out.lt).cell 1
  have HBW := Lib.hid (HB.out.below hb2 HB.out.lt)
  clear hd hw2 hK2 hb2 HSP HND
  have hcl : cs.length ≤ 1000001 := by have := HDP.out.2.1; have := HSZ.out; omega
  generalize hg2 : W1.heap.size = g2 at HK2 ⊢
  clear hg2
  have HC2 := Lib.hid (HCK.out w2 HB2.out)
  generalize hpe : patE p = pe at HC2
  have HPE := Lib.hid hpe
  clear hpe HCK
  by_cases h0 : pe = 0
  case neg =>
    have q : (pe != 0) = true := by simpa using h0
    have HR := Lib.hid (HNO.out _ HD.out (fun h => h0 (HPE.out ▸ h.1)))
    clear h0
    go_wp2_with fail
    refine HC2.out.mono ?_
    rintro e w3 ⟨rfl, hb3⟩
    have HB3 := Lib.hid (below_next HB2.out hb3)
    clear hb3 d0 d1
    go_wp2_with fail
    go_ret2
    exact HPN.out _ HR.out HB3.out
  have q : (pe != 0) = false := by simpa using h0
  have HP0 : Hid (patE p = 0) := Lib.hid (HPE.out.trans h0)
  clear h0
  go_wp2_with fail
  refine HC2.out.mono ?_
  rintro e w3 ⟨rfl, hb3⟩
  have HB3 := Lib.hid (below_next HB2.out hb3)
  have HK3 := Lib.hid (HK2.out.below hb3 HK2.out.lt)
  have HBW3 := Lib.hid (HBW.out.below hb3 HBW.out.lt)
  clear hb3 d0 d1 HC2 HK2 HBW
  have d0 : w3.cell? ⟨w.heap.size, 0, none⟩ = some (.slice A p.parts.length c) := HBW3.out.cell 0
  have d1 : w3.cell? ⟨w.heap.size, 1, none⟩ = some (.bool p.rest) := HBW3.out.cell 1
  obtain ⟨b, hb⟩ : ∃ b, fitsB p cs = b := ⟨_, rfl⟩
  have HFB := Lib.hid hb
  have HFD : Hid (b = (decide (p.parts.length ≤ cs.length) && (decide (p.parts.length < cs.length) == p.rest))) := Lib.hid (by rw [← hb]; rfl)
  clear hb
  go_upto_region 5 with fail
  go_cut [41] (fun v wx => v = .bool (!b) ∧ wx = w3)
  case first =>
    by_cases h1 : cs.length < p.parts.length
    · have hbf : b = false := by rw [HFD.out, decide_eq_false (by omega)]; rfl
      have q1 : decide ((cs.length : Int) < (p.parts.length : Int)) = true := by simp; omega
      have q1' : decide (cs.length < p.parts.length) = true := by simp; omega
      subst hbf
      clear h1 HFD
      go_wp2_with fail
      go_meet
      exact ⟨by first | rfl | (rw [q1']; rfl), rfl⟩
    · have q1 : decide ((cs.length : Int) < (p.parts.length : Int)) = false := by simp; omega
      have q1' : decide (cs.length < p.parts.length) = false := by simp; omega
      by_cases h2 : p.parts.length < cs.length
      · have q2 : decide ((p.parts.length : Int) < (cs.length : Int)) = true := by simp; omega
        have q2' : decide (p.parts.length < cs.length) = true := by simp; omega
        have HBB : Hid ((!b) = (!(true == p.rest))) := Lib.hid (by rw [HFD.out, decide_eq_true (show p.parts.length ≤ cs.length by omega), decide_eq_true h2]; cases p.rest <;> rfl)
        clear h1 h2 HFD
        go_wp2_with fail
        go_meet
        exact ⟨by rw [HBB.out]; first | rfl | (rw [q1', q2']; rfl) | simp [q1', q2'], rfl⟩
      · have q2 : decide ((p.parts.length : Int) < (cs.length : Int)) = false := by simp; omega
        have q2' : decide (p.parts.length < cs.length) = false := by simp; omega
        have HBB : Hid ((!b) = (!(false == p.rest))) := Lib.hid (by rw [HFD.out, decide_eq_true (show p.parts.length ≤ cs.length by omega), decide_eq_false h2]; cases p.rest <;> rfl)
        clear h1 h2 HFD
        go_wp2_with fail
        go_meet
        exact ⟨by rw [HBB.out]; first | rfl | (rw [q1', q2']; rfl) | simp [q1', q2'], rfl⟩
  case rest =>
    obtain ⟨rfl, rfl⟩ := hcut
    cases b with
    | false =>
      have HR := Lib.hid (HNO.out _ HD.out (fun h => by have := h.2.1; rw [HFB.out] at this; cases this))
      go_wp2_with fail
      go_ret2
      exact HPN.out _ HR.out HB3.out
    | true =>
      rw [show (!true) = false from rfl]
      have hle : p.parts.length ≤ cs.length := by
        have := HFD.out
        simp only [Bool.true_eq, Bool.and_eq_true, decide_eq_true_eq] at this
        exact this.1
      clear HFD
      have HNZ := Lib.hid (fun k (hk : k < p.parts.length) (h : capB (prtAt p.parts k) (compAt cs k) = false) => HNO.out _ HD.out (fun hh => by have := hh.2.2; rw [zipB_no hk h] at this; cases this))
      have HYY := Lib.hid (fun (h : zipB p.parts cs p.parts.length = true) => HYE.out _ HD.out HP0.out HFB.out h)
      have HCL := Lib.hid hcl
      have HLE := Lib.hid hle
      go_wp2_with fail
      clear d0 d1
      go_loopw [9, 45] (fun u s wr => ∃ (k m : Nat) (A2 : Option Addr) (c2 : Nat), s = .int .i64 k ∧ u = .slice A2 m c2 ∧ k ≤ p.parts.length ∧ m ≤ k ∧ Hid (m = (zipC p.parts cs k).length ∧ zipB p.parts cs k = true ∧ Below wc.heap.size wc wr ∧ wr.ownsRow wc.heap.size 9 1 (.slice A2 m c2) m ((zipC p.parts cs k).map .string))) (fun _ s _ => p.parts.length - (intOf s).toNat)
      case atStart => exact ⟨0, 0, none, 0, rfl, rfl, Nat.zero_le _, Nat.le_refl _, rfl, rfl, Below.refl _ _, World.ownsRow_nil _ _ _ _⟩
      case round =>
        obtain ⟨k, m, A2, c2, rfl, rfl, hk, hmk, HI⟩ := hrel
        by_cases hlt : k < p.parts.length
        · have hkc : k < cs.length := by omega
          have hz1 : (k : Int) < (cs.length : Int) := by omega
          have hbw := below_next HB3.out HI.out.2.2.1
          obtain ⟨ad, rfl, hab, x0⟩ := Strs.at_ (HS.out.below hbw) hlt
          have x1 := (HK3.out.below HI.out.2.2.1 HK3.out.lt).strs k hkc
          have HX := Lib.hid (prtAt_get hlt)
          have HY := Lib.hid (compAt_get hkc)
          have hps : (p.parts[k]).size ≤ 9223372036854775807 := by have := HZ.out _ (List.getElem_mem hlt); unfold maxLen at this; omega
          have hcz : (baL cs[k]).size ≤ 9223372036854775807 := by rw [baL_size]; have := HDP.out.1 _ (List.getElem_mem hkc); have := HSZ.out; omega
          generalize p.parts[k] = part at x0 HX hps
          generalize baL cs[k] = comp at x1 HY hcz
          have HM := Lib.hid (fun X => matchPart_any part comp X hps hcz)
          have HT := Lib.hid (fun X => isStar_any part X)
          have HNK : Hid (capB part comp = false → matchP p s = none) := Lib.hid (fun h => HNZ.out k hlt (by rw [HX.out, HY.out]; exact h))
          have HZB : Hid (capB part comp = true → zipB p.parts cs (k + 1) = true) := Lib.hid (fun h => by rw [zipB_next, HI.out.2.1, HX.out, HY.out, h]; rfl)
          have HZC : Hid (zipC p.parts cs (k + 1) = zipC p.parts cs k ++ (if starS part then [capV part comp] else [])) := Lib.hid (by rw [← HX.out, ← HY.out]; rfl)
          generalize capV part comp = x at HM HZC
          generalize capB part comp = b at HM HNK HZB
          generalize starS part = st at HT HZC
          clear hbw hps hcz hab
          cases b with
          | false =>
            have HR := Lib.hid (HNK.out rfl)
            have HBI := Lib.hid (below_next HB3.out HI.out.2.2.1)
            go_wp2_with (first
              | (go_at_call 29; refine (HM.out _).mono ?_; rintro e w' ⟨rfl, rfl⟩))
            go_ret2
            exact HPN.out _ HR.out HBI.out
          | true =>
            have HB := Lib.hid (HZB.out rfl)
            cases st with
            | false =>
              have HN : Hid (m = (zipC p.parts cs (k + 1)).length ∧ zipB p.parts cs (k + 1) = true ∧ Below wc.heap.size wc wr ∧ wr.ownsRow wc.heap.size 9 1 (.slice A2 m c2) m ((zipC p.parts cs (k + 1)).map .string)) := Lib.hid (by
                have e : zipC p.parts cs (k + 1) = zipC p.parts cs k := by rw [HZC.out]; simp
                rw [e]
                exact ⟨HI.out.1, HB.out, HI.out.2.2.1, HI.out.2.2.2⟩)
              go_wp2_with (first
                | (go_at_call 29; refine (HM.out _).mono ?_; rintro e w' ⟨rfl, rfl⟩)
                | (go_at_call 30; refine (HT.out _).mono ?_; rintro e w' ⟨rfl, rfl⟩))
              go_roundw
              case rel => exact ⟨k + 1, m, A2, c2, by go_num, rfl, by omega, by omega, HN.out⟩
              case measure => simp [intOf]; omega
            | true =>
              have HOW := Lib.hid HI.out.2.2.2
              have HBI := Lib.hid HI.out.2.2.1
              go_wp2_with (first
                | (go_at_call 29; refine (HM.out _).mono ?_; rintro e w' ⟨rfl, rfl⟩)
                | (go_at_call 30; refine (HT.out _).mono ?_; rintro e w' ⟨rfl, rfl⟩)
                | (at_builtin; refine wpList_push rfl rfl strElemP (own_below HOW.out ((Below.refl _ _).alloc (Nat.le_refl _) _)) rfl (row_new _ [.string x] _ 1 1 rfl (by decide) _ (by simp)) rfl (HBI.out.alloc HBI.out.size _) (HBI.out.alloc HBI.out.size _).size (by simp [Value.oneCell']) (by omega) (by unfold maxLen; omega) ?_; intro A' c' w5 hown5 hbl5))
              have HN : Hid (m + 1 = (zipC p.parts cs (k + 1)).length ∧ zipB p.parts cs (k + 1) = true ∧ Below wc.heap.size wc w5 ∧ w5.ownsRow wc.heap.size 9 1 (.slice A' (m + 1) c') (m + 1) ((zipC p.parts cs (k + 1)).map .string)) := Lib.hid (by
                have e : zipC p.parts cs (k + 1) = zipC p.parts cs k ++ [x] := by rw [HZC.out]; rfl
                rw [e]
                refine ⟨by rw [List.length_append, List.length_singleton, HI.out.1], HB.out, hbl5, ?_⟩
                rw [List.map_append]; exact hown5)
              clear hown5 hbl5
              go_wp2_with fail
              go_roundw
              case rel => exact ⟨k + 1, m + 1, A', c', by go_num, rfl, by omega, by omega, HN.out⟩
              case measure => simp [intOf]; omega
        · have hke : k = p.parts.length := by omega
          have HF : Hid (m = (zipC p.parts cs p.parts.length).length ∧ matchP p s = some (capsP p cs) ∧ Below wc.heap.size wc wr ∧ wr.ownsRow wc.heap.size 9 1 (.slice A2 m c2) m ((zipC p.parts cs p.parts.length).map .string)) := Lib.hid (by
            have h := HI.out
            rw [hke] at h
            exact ⟨h.1, HYY.out h.2.1, h.2.2.1, h.2.2.2⟩)
          have d1 : wr.cell? ⟨w.heap.size, 1, none⟩ = some (.bool p.rest) := (HBW3.out.below HI.out.2.2.1 HBW3.out.lt).cell 1
          have hge : ¬ ((k : Int) < (p.parts.length : Int)) := by omega
          clear HI hke
          cases hr : p.rest with
          | false =>
            rw [hr] at d1
            have HRS := Lib.hid hr
            clear hr
            go_wp2_with fail
            go_ret2
            refine ⟨A2, m, c2, by rw [HF.out.2.1]; rfl, below_next HB3.out HF.out.2.2.1, fun l hl => ?_⟩
            rw [HF.out.2.1] at hl
            injection hl with hl
            have e : capsP p cs = zipC p.parts cs p.parts.length := by unfold capsP; rw [HRS.out]; simp
            rw [e] at hl
            subst hl
            refine ⟨HF.out.1, ?_⟩
            have := Row.of_own HF.out.2.2.2
            rw [HF.out.1] at this ⊢
            exact this
          | true =>
            rw [hr] at d1
            have HRS := Lib.hid hr
            clear hr
            have hnc : p.parts.length < cs.length := by
              have h := HFB.out
              unfold fitsB at h
              rw [HRS.out] at h
              simp only [Bool.and_eq_true, beq_iff_eq, decide_eq_true_eq] at h
              exact h.2
            have hK := HK3.out.below HF.out.2.2.1 HK3.out.lt
            have hat : StrsAt wr g2 p.parts.length (cs.drop p.parts.length) := fun j hj => by
              rw [List.length_drop] at hj
              rw [List.getElem_drop]
              exact hK.strs _ (by omega)
            have hJ := strJoin (cs.drop p.parts.length) g2 p.parts.length (cs.length - p.parts.length) wr hat (by rw [List.length_drop]; omega) (by rw [List.length_drop]; omega) (by rw [List.length_drop]; omega) (by have := join_drop_len cs p.parts.length; have := HDP.out.2.2; have := HSZ.out; omega)
            rw [List.length_drop] at hJ
            have HJ := Lib.hid hJ
            have HCP : Hid (capsP p cs = zipC p.parts cs p.parts.length ++ [baL (Lib.join (cs.drop p.parts.length) [47])]) := Lib.hid (by unfold capsP; rw [HRS.out]; rfl)
            generalize baL (Lib.join (cs.drop p.parts.length) [47]) = x at HJ HCP
            clear hJ hat hK
            go_wp2_with fail
            refine HJ.out.mono ?_
            rintro e w6 ⟨rfl, hb6⟩
            have HOW := Lib.hid (own_below HF.out.2.2.2 hb6)
            have HBI := Lib.hid (below_next HF.out.2.2.1 hb6)
            clear hb6
            go_wp2_with (first
              | (at_builtin; refine wpList_push rfl rfl strElemP (own_below HOW.out ((Below.refl _ _).alloc (Nat.le_refl _) _)) rfl (row_new _ [.string x] _ 1 1 rfl (by decide) _ (by simp)) rfl (HBI.out.alloc HBI.out.size _) (HBI.out.alloc HBI.out.size _).size (by simp [Value.oneCell']) (by omega) (by unfold maxLen; omega) ?_; intro A' c' w7 hown7 hbl7))
            have HO7 := Lib.hid hown7
            have HB7 := Lib.hid hbl7
            clear hown7 hbl7
            go_wp2_with fail
            go_ret2
            refine ⟨A', m + 1, c', by rw [HF.out.2.1]; rfl, below_next HB3.out HB7.out, fun l hl => ?_⟩
            rw [HF.out.2.1] at hl
            injection hl with hl
            rw [HCP.out] at hl
            subst hl
            have hm := HF.out.1
            refine ⟨by rw [List.length_append, List.length_singleton, hm], ?_⟩
            have h7 := Row.of_own HO7.out
            show Row w7 1 _ (zipC p.parts cs p.parts.length ++ [x]).length _
            rw [List.length_append, List.length_singleton, ← hm, List.map_append]
            exact h7
end Go.Proofs.YtnblfaagchflaaaGreatDoor
/- The reference's patterns: Match: the walk. -/
namespace Go.Proofs.YtnblfaagchflaaaGreatDoor
open Go.RowKit
set_option linter.unusedVariables false
set_option linter.unusedSimpArgs false

theorem dirL_comps {s : List UInt8} {k : Nat} {cs : List (List UInt8)} (h : dirL s k = some cs) : ∀ c ∈ cs, compL c = true := by
  unfold dirL at h
  split at h
  · rename_i hc
    injection h with h
    subst h
    exact fun c hc2 => List.all_eq_true.1 hc.2.2 c hc2
  · cases h
theorem patE_form_at {p : Pat} (h : patE p = 0) {k : Nat} (hk : k < p.parts.length) : formI p.parts[k] ≠ 0 := by
  intro hf
  have : partOk k p.parts[k] = false := by unfold partOk; rw [hf]; simp
  rw [patE_form (partsOk_no hk this)] at h
  cases h
/-- Whether the reference's Match goes on to the parts. -/
def goB (p : Pat) (cs : List (List UInt8)) : Bool := decide (patE p = 0) && fitsB p cs
def RMPost (w : World) (p : Pat) (s : ByteArray) (e : Ending) (w' : World) : Prop := ∃ A n c, e = .returned (.tuple #[.slice A n c, .bool (matchP p s).isSome]) ∧ Below w.heap.size w w'
theorem rmPost_no {w w' : World} {p : Pat} {s : ByteArray} (h : matchP p s = none) (hb : Below w.heap.size w w') : RMPost w p s (.returned (.tuple #[.slice none 0 0, .bool false])) w' := ⟨none, 0, 0, by rw [h]; rfl, hb⟩
set_option maxRecDepth 100000 in
set_option maxHeartbeats 8000000 in
theorem rMatch_any (p : Pat) (s : ByteArray) (A : Option Addr) (c : Nat) (w : World) (he : Env w) (hs : s.size ≤ 1000000) (hS : Strs w (.slice A p.parts.length c) p.parts) (hz : ∀ x ∈ p.parts, x.size ≤ maxLen) :
    Calls Tryz.prog 35 #[.agg #[.slice A p.parts.length c, .bool p.rest], .string s] w (RMPost w p s) := by
  obtain ⟨A', c', e', hcc, hmm, -⟩ := id hS
  injection e' with e1 e2 e3
  subst e1 e3
  unfold maxLen at hmm
  have HS := Lib.hid hS
  have HZ := Lib.hid hz
  have HND := Lib.hid (@matchP_dir p s)
  have HNO := Lib.hid (fun cs => @matchP_no p s cs)
  have HYE := Lib.hid (fun cs => @matchP_yes p s cs)
  have HPN := Lib.hid (fun X (h : matchP p s = none) (hb : Below w.heap.size w X) => rmPost_no h hb)
  have hB := blk_new w [.slice A p.parts.length c, .bool p.rest] 25
  have hA : Below w.heap.size w (w.alloc (.cells #[.slice A p.parts.length c, .bool p.rest] 25)) := (Below.refl _ _).alloc (Nat.le_refl _) _
  have HPA := Lib.hid (fun X cs (hX : Below w.heap.size w X) h => refPath_some s cs X (he.below hX) (by omega) h)
  have HPB := Lib.hid (fun X (hX : Below w.heap.size w X) h => refPath_none s X (he.below hX) (by omega) h)
  have HCK := Lib.hid (fun X (hX : Below w.heap.size w X) => rPatCheck_any p A c X (hS.below hX) hz)
  have HSZ := Lib.hid hs
  clear hS hz he e2 hs
  go_enter Tryz.func35, Tryz.ntmps35
  go_upto_region 1 with fail
  generalize w.alloc (.cells #[.slice A p.parts.length c, .bool p.rest] 25) = W1 at hB hA ⊢
  have HB := Lib.hid hB
  have HA := Lib.hid hA
  clear hB hA
  cases hd : dirL s.data.toList 2 with
  | none =>
    have HP1 := Lib.hid (HPB.out W1 HA.out hd)
    have HR := Lib.hid (HND.out hd)
    clear hd
    go_wp2_with fail
    refine HP1.out.mono ?_
    rintro e w2 ⟨rfl, hb2⟩
    have HB2 := Lib.hid (below_next HA.out hb2)
    have d0 : w2.cell? ⟨w.heap.size, 0, none⟩ = some (.slice A p.parts.length c) := (HB.out.below hb2 HB.out.lt).cell 0
    have d1 : w2.cell? ⟨w.heap.size, 1, none⟩ = some (.bool p.rest) := (HB.out.below hb2 HB.out.lt).cell 1
    have HC2 := Lib.hid (HCK.out w2 HB2.out)
    clear hb2
    generalize patE p = pe at HC2
    by_cases h0 : pe = 0
    · have q : (pe != 0) = false := by simpa using h0
      clear h0
      go_wp2_with fail
      refine HC2.out.mono ?_
      rintro e w3 ⟨rfl, hb3⟩
      have HB3 := Lib.hid (below_next HB2.out hb3)
      clear hb3 d0 d1
      go_wp2_with fail
      go_ret2
      exact HPN.out _ HR.out HB3.out
    · have q : (pe != 0) = true := by simpa using h0
      clear h0
      go_wp2_with fail
      refine HC2.out.mono ?_
      rintro e w3 ⟨rfl, hb3⟩
      have HB3 := Lib.hid (below_next HB2.out hb3)
      clear hb3 d0 d1
      go_wp2_with fail
      go_ret2
      exact HPN.out _ HR.out HB3.out
  | some cs =>
  have HP1 := Lib.hid (HPA.out W1 cs HA.out hd)
  have hK2 := blk_new W1 (strCells cs) 9
  have hb2 : Below W1.heap.size W1 (W1.alloc (.cells (strCells cs).toArray 9)) := (Below.refl _ _).alloc (Nat.le_refl _) _
  generalize W1.alloc (.cells (strCells cs).toArray 9) = w2 at HP1 hK2 hb2
  have HD := Lib.hid hd
  have HDP := Lib.hid (dirL_parts hd)
  have HDC := Lib.hid (dirL_comps hd)
  have HK2 := Lib.hid hK2
  have HB2 := Lib.hid (below_next HA.out hb2)
  have d0 : w2.cell? ⟨w.heap.size, 0, none⟩ = some (.slice A p.parts.length c) := (HB.out.below hb2 HB.out.lt).cell 0
  have d1 : w2.cell? ⟨w.heap.size, 1, none⟩ = some (.bool p.rest) := (HB.out.below hb2 HB.out.lt).cell 1
  have HBW := Lib.hid (HB.out.below hb2 HB.out.lt)
  clear hd hK2 hb2 HND HPA HPB
  have hcl : cs.length ≤ 1000001 := by have := HDP.out.2.1; have := HSZ.out; omega
  generalize hg2 : W1.heap.size = g2 at HK2 HP1
  clear hg2
  have HC2 := Lib.hid (HCK.out w2 HB2.out)
  clear HCK
  obtain ⟨bb, hbb⟩ : ∃ b, goB p cs = b := ⟨_, rfl⟩
  have HFD : Hid (bb = (decide (patE p = 0) && (decide (p.parts.length ≤ cs.length) && (decide (p.parts.length < cs.length) == p.rest)))) := Lib.hid (by rw [← hbb]; rfl)
  have HFB : Hid (goB p cs = bb) := Lib.hid hbb
  clear hbb
  obtain ⟨pe, hpe⟩ : ∃ e, patE p = e := ⟨_, rfl⟩
  rw [hpe] at HC2 HFD
  have HPE := Lib.hid hpe
  clear hpe
  go_wp2_with fail
  refine HP1.out.mono ?_
  rintro e w' ⟨rfl, rfl⟩
  go_upto_region 3 with fail
  go_cut [57] (fun v wx => v = .bool (!bb) ∧ Hid (Below w2.heap.size w2 wx))
  case first =>
    have HD0 := Lib.hid d0
    have HD1 := Lib.hid d1
    by_cases h0 : pe = 0
    case neg =>
      have q : (pe != 0) = true := by simpa using h0
      have hbf : bb = false := by rw [HFD.out, decide_eq_false h0]; rfl
      subst hbf
      clear h0 HFD
      go_wp2_with fail
      refine HC2.out.mono ?_
      rintro e w3 ⟨rfl, hb3⟩
      clear d0 d1
      go_wp2_with fail
      go_meet
      exact ⟨rfl, hb3⟩
    have q : (pe != 0) = false := by simpa using h0
    have HFE : Hid (bb = (decide (p.parts.length ≤ cs.length) && (decide (p.parts.length < cs.length) == p.rest))) := Lib.hid (by rw [HFD.out, decide_eq_true h0]; rfl)
    clear h0 HFD
    by_cases h1 : cs.length < p.parts.length
    · have hbf : bb = false := by rw [HFE.out, decide_eq_false (by omega)]; rfl
      have q1 : decide ((cs.length : Int) < (p.parts.length : Int)) = true := by simp; omega
      have q1' : decide (cs.length < p.parts.length) = true := by simp; omega
      subst hbf
      clear h1 HFE
      go_wp2_with fail
      refine HC2.out.mono ?_
      rintro e w3 ⟨rfl, hb3⟩
      clear d0 d1
      go_wp2_with fail
      go_meet
      exact ⟨by first | rfl | (rw [q1']; rfl), hb3⟩
    · have q1 : decide ((cs.length : Int) < (p.parts.length : Int)) = false := by simp; omega
      have q1' : decide (cs.length < p.parts.length) = false := by simp; omega
      rcases Bool.eq_false_or_eq_true p.rest with hr | hr
      case inl =>
        rw [hr] at d1 HC2
        by_cases h2 : p.parts.length < cs.length
        · have q3 : ((cs.length : Int) == (p.parts.length : Int)) = false := by rw [beq_eq_false_iff_ne]; omega
          have q3' : (cs.length == p.parts.length) = false := by rw [beq_eq_false_iff_ne]; omega
          have hbf : bb = true := by rw [HFE.out, hr, decide_eq_true (show p.parts.length ≤ cs.length by omega), decide_eq_true h2]; rfl
          subst hbf
          clear h1 h2 HFE hr
          go_wp2_with fail
          refine HC2.out.mono ?_
          rintro e w3 ⟨rfl, hb3⟩
          have e1 : w3.cell? ⟨w.heap.size, 1, none⟩ = some (.bool true) := (cell_below d1 hb3 (cell_lt d1))
          go_wp2_with fail
          go_meet
          exact ⟨by first | rfl | simp [q1', q3'], hb3⟩
        · have q3 : ((cs.length : Int) == (p.parts.length : Int)) = true := by rw [beq_iff_eq]; omega
          have q3' : (cs.length == p.parts.length) = true := by rw [beq_iff_eq]; omega
          have hbf : bb = false := by rw [HFE.out, hr, decide_eq_false h2]; simp
          subst hbf
          clear h1 h2 HFE hr
          go_wp2_with fail
          refine HC2.out.mono ?_
          rintro e w3 ⟨rfl, hb3⟩
          have e1 : w3.cell? ⟨w.heap.size, 1, none⟩ = some (.bool true) := (cell_below d1 hb3 (cell_lt d1))
          go_wp2_with fail
          go_meet
          exact ⟨by first | rfl | simp [q1', q3'], hb3⟩
      case inr =>
        rw [hr] at d1 HC2
        by_cases h2 : p.parts.length < cs.length
        · have q2 : decide ((p.parts.length : Int) < (cs.length : Int)) = true := by simp; omega
          have q2' : decide (p.parts.length < cs.length) = true := by simp; omega
          have hbf : bb = false := by rw [HFE.out, hr, decide_eq_true h2]; simp
          subst hbf
          clear h1 h2 HFE hr
          go_wp2_with fail
          refine HC2.out.mono ?_
          rintro e w3 ⟨rfl, hb3⟩
          have e1 : w3.cell? ⟨w.heap.size, 1, none⟩ = some (.bool false) := (cell_below d1 hb3 (cell_lt d1))
          go_wp2_with fail
          go_meet
          exact ⟨by first | rfl | simp [q1', q2'], hb3⟩
        · have q2 : decide ((p.parts.length : Int) < (cs.length : Int)) = false := by simp; omega
          have q2' : decide (p.parts.length < cs.length) = false := by simp; omega
          have hbf : bb = true := by rw [HFE.out, hr, decide_eq_true (show p.parts.length ≤ cs.length by omega), decide_eq_false h2]; rfl
          subst hbf
          clear h1 h2 HFE hr
          go_wp2_with fail
          refine HC2.out.mono ?_
          rintro e w3 ⟨rfl, hb3⟩
          have e1 : w3.cell? ⟨w.heap.size, 1, none⟩ = some (.bool false) := (cell_below d1 hb3 (cell_lt d1))
          go_wp2_with fail
          go_meet
          exact ⟨by first | rfl | simp [q1', q2'], hb3⟩
  case rest =>
    obtain ⟨rfl, hcb⟩ := hcut
    have HB3 := Lib.hid (below_next HB2.out hcb.out)
    have HK3 := Lib.hid (HK2.out.below hcb.out HK2.out.lt)
    have HBW3 := Lib.hid (HBW.out.below hcb.out HBW.out.lt)
    clear hcb d0 d1 HC2 HK2 HBW HP1
    have d0 : wc.cell? ⟨w.heap.size, 0, none⟩ = some (.slice A p.parts.length c) := HBW3.out.cell 0
    have d1 : wc.cell? ⟨w.heap.size, 1, none⟩ = some (.bool p.rest) := HBW3.out.cell 1
    cases bb with
    | false =>
      have HR := Lib.hid (HNO.out _ HD.out (fun h => by have h2 := HFB.out; unfold goB at h2; rw [h.1, h.2.1] at h2; cases h2))
      go_wp2_with fail
      go_ret2
      exact HPN.out _ HR.out HB3.out
    | true =>
      rw [show (!true) = false from rfl]
      have hgo := HFB.out
      unfold goB at hgo
      rw [Bool.and_eq_true, decide_eq_true_eq] at hgo
      have HP0 := Lib.hid hgo.1
      have HFT := Lib.hid hgo.2
      have hle : p.parts.length ≤ cs.length := by
        have := hgo.2
        unfold fitsB at this
        rw [Bool.and_eq_true, decide_eq_true_eq] at this
        exact this.1
      clear HFD hgo HFB
      have HNZ := Lib.hid (fun k (hk : k < p.parts.length) (h : capB (prtAt p.parts k) (compAt cs k) = false) => HNO.out _ HD.out (fun hh => by have := hh.2.2; rw [zipB_no hk h] at this; cases this))
      have HYY := Lib.hid (fun (h : zipB p.parts cs p.parts.length = true) => HYE.out _ HD.out HP0.out HFT.out h)
      have HCL := Lib.hid hcl
      have HLE := Lib.hid hle
      go_wp2_with fail
      clear d0 d1
      go_loopw [9, 61] (fun u s wr => ∃ (k m : Nat) (A2 : Option Addr) (c2 : Nat) (xs : List ByteArray), s = .int .i64 k ∧ u = .slice A2 m c2 ∧ k ≤ p.parts.length ∧ m ≤ k ∧ Hid (m = xs.length ∧ zipB p.parts cs k = true ∧ Below wc.heap.size wc wr ∧ wr.ownsRow wc.heap.size 9 1 (.slice A2 m c2) m (xs.map .string))) (fun _ s _ => p.parts.length - (intOf s).toNat)
      case atStart => exact ⟨0, 0, none, 0, [], rfl, rfl, Nat.zero_le _, Nat.le_refl _, rfl, rfl, Below.refl _ _, World.ownsRow_nil _ _ _ _⟩
      case round =>
        obtain ⟨k, m, A2, c2, xs, rfl, rfl, hk, hmk, HI⟩ := hrel
        by_cases hlt : k < p.parts.length
        · have hkc : k < cs.length := by omega
          have hz1 : (k : Int) < (cs.length : Int) := by omega
          have hbw := below_next HB3.out HI.out.2.2.1
          obtain ⟨ad, rfl, hab, x0⟩ := Strs.at_ (HS.out.below hbw) hlt
          have x1 := (HK3.out.below HI.out.2.2.1 HK3.out.lt).strs k hkc
          have HX := Lib.hid (prtAt_get hlt)
          have HY := Lib.hid (compAt_get hkc)
          have hps : (p.parts[k]).size ≤ maxLen := HZ.out _ (List.getElem_mem hlt)
          have hcz : (baL cs[k]).size ≤ maxLen := by rw [baL_size]; have := HDP.out.1 _ (List.getElem_mem hkc); have := HSZ.out; unfold maxLen; omega
          have hcap : capRB p.parts[k] (baL cs[k]) = capB p.parts[k] (baL cs[k]) := capRB_eq (patE_form_at HP0.out hlt) (HDC.out _ (List.getElem_mem hkc))
          generalize p.parts[k] = part at x0 HX hps hcap
          generalize baL cs[k] = comp at x1 HY hcz hcap
          have HM := Lib.hid (fun X => rCapture_any part comp X hps hcz)
          have HT := Lib.hid (fun X => rStar_any part X hps)
          rw [hcap] at HM
          unfold StarPost at HT
          have HNK : Hid (capB part comp = false → matchP p s = none) := Lib.hid (fun h => HNZ.out k hlt (by rw [HX.out, HY.out]; exact h))
          have HZB : Hid (capB part comp = true → zipB p.parts cs (k + 1) = true) := Lib.hid (fun h => by rw [zipB_next, HI.out.2.1, HX.out, HY.out, h]; rfl)
          generalize capR part comp = x at HM
          generalize capB part comp = b at HM HNK HZB
          generalize rstarB part = st at HT
          generalize sufS part = sx at HT
          clear hbw hps hcz hab hcap
          cases b with
          | false =>
            have HR := Lib.hid (HNK.out rfl)
            have HBI := Lib.hid (below_next HB3.out HI.out.2.2.1)
            go_wp2_with fail
            refine (HM.out _).mono ?_
            rintro e w' ⟨rfl, rfl⟩
            go_wp2_with fail
            go_ret2
            exact HPN.out _ HR.out HBI.out
          | true =>
            have HB := Lib.hid (HZB.out rfl)
            cases st with
            | false =>
              have HN : Hid (m = xs.length ∧ zipB p.parts cs (k + 1) = true ∧ Below wc.heap.size wc wr ∧ wr.ownsRow wc.heap.size 9 1 (.slice A2 m c2) m (xs.map .string)) := Lib.hid ⟨HI.out.1, HB.out, HI.out.2.2.1, HI.out.2.2.2⟩
              go_wp2_with fail
              refine (HM.out _).mono ?_
              rintro e w' ⟨rfl, rfl⟩
              go_wp2_with fail
              refine (HT.out _).mono ?_
              rintro e w' ⟨rfl, rfl⟩
              go_wp2_with fail
              go_roundw
              case rel => exact ⟨k + 1, m, A2, c2, xs, by go_num, rfl, by omega, by omega, HN.out⟩
              case measure => simp [intOf]; omega
            | true =>
              have HOW := Lib.hid HI.out.2.2.2
              have HBI := Lib.hid HI.out.2.2.1
              go_wp2_with fail
              refine (HM.out _).mono ?_
              rintro e w' ⟨rfl, rfl⟩
              go_wp2_with fail
              refine (HT.out _).mono ?_
              rintro e w' ⟨rfl, rfl⟩
              go_wp2_with (at_builtin; refine wpList_push rfl rfl strElemP (own_below HOW.out ((Below.refl _ _).alloc (Nat.le_refl _) _)) rfl (row_new _ [.string x] _ 1 1 rfl (by decide) _ (by simp)) rfl (HBI.out.alloc HBI.out.size _) (HBI.out.alloc HBI.out.size _).size (by simp [Value.oneCell']) (by omega) (by unfold maxLen; omega) ?_; intro A' c' w5 hown5 hbl5)
              have HN : Hid (m + 1 = (xs ++ [x]).length ∧ zipB p.parts cs (k + 1) = true ∧ Below wc.heap.size wc w5 ∧ w5.ownsRow wc.heap.size 9 1 (.slice A' (m + 1) c') (m + 1) ((xs ++ [x]).map .string)) := Lib.hid (by
                refine ⟨by rw [List.length_append, List.length_singleton, HI.out.1], HB.out, hbl5, ?_⟩
                rw [List.map_append]; exact hown5)
              clear hown5 hbl5
              go_wp2_with fail
              go_roundw
              case rel => exact ⟨k + 1, m + 1, A', c', xs ++ [x], by go_num, rfl, by omega, by omega, HN.out⟩
              case measure => simp [intOf]; omega
        · have hke : k = p.parts.length := by omega
          have HF : Hid ((matchP p s).isSome = true ∧ Below wc.heap.size wc wr ∧ wr.ownsRow wc.heap.size 9 1 (.slice A2 m c2) m (xs.map .string)) := Lib.hid (by
            have h := HI.out
            rw [hke] at h
            exact ⟨by rw [HYY.out h.2.1]; rfl, h.2.2.1, h.2.2.2⟩)
          have d1 : wr.cell? ⟨w.heap.size, 1, none⟩ = some (.bool p.rest) := (HBW3.out.below HI.out.2.2.1 HBW3.out.lt).cell 1
          have hge : ¬ ((k : Int) < (p.parts.length : Int)) := by omega
          clear HI hke
          cases hr : p.rest with
          | false =>
            rw [hr] at d1
            clear hr
            go_wp2_with fail
            go_ret2
            exact ⟨A2, m, c2, by rw [HF.out.1]; rfl, below_next HB3.out HF.out.2.1⟩
          | true =>
            rw [hr] at d1
            have hnc : p.parts.length < cs.length := by
              have h := HFT.out
              unfold fitsB at h
              rw [hr] at h
              simp only [Bool.and_eq_true, beq_iff_eq, decide_eq_true_eq] at h
              exact h.2
            clear hr
            have hK := HK3.out.below HF.out.2.1 HK3.out.lt
            have hat : StrsAt wr g2 p.parts.length (cs.drop p.parts.length) := fun j hj => by
              rw [List.length_drop] at hj
              rw [List.getElem_drop]
              exact hK.strs _ (by omega)
            have hJ := strJoin (cs.drop p.parts.length) g2 p.parts.length (cs.length - p.parts.length) wr hat (by rw [List.length_drop]; omega) (by rw [List.length_drop]; omega) (by rw [List.length_drop]; omega) (by have := join_drop_len cs p.parts.length; have := HDP.out.2.2; have := HSZ.out; omega)
            rw [List.length_drop] at hJ
            have HJ := Lib.hid hJ
            generalize baL (Lib.join (cs.drop p.parts.length) [47]) = x at HJ
            clear hJ hat hK
            go_wp2_with fail
            refine HJ.out.mono ?_
            rintro e w6 ⟨rfl, hb6⟩
            have HOW := Lib.hid (own_below HF.out.2.2 hb6)
            have HBI := Lib.hid (below_next HF.out.2.1 hb6)
            clear hb6
            go_wp2_with (first
              | (at_builtin; refine wpList_push rfl rfl strElemP (own_below HOW.out ((Below.refl _ _).alloc (Nat.le_refl _) _)) rfl (row_new _ [.string x] _ 1 1 rfl (by decide) _ (by simp)) rfl (HBI.out.alloc HBI.out.size _) (HBI.out.alloc HBI.out.size _).size (by simp [Value.oneCell']) (by omega) (by unfold maxLen; omega) ?_; intro A' c' w7 hown7 hbl7))
            have HB7 := Lib.hid hbl7
            clear hown7 hbl7
            go_wp2_with fail
            go_ret2
            exact ⟨A', m + 1, c', by rw [HF.out.1]; rfl, below_next HB3.out HB7.out⟩
end Go.Proofs.YtnblfaagchflaaaGreatDoor
