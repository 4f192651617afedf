/- The walk of KeywordLines. -/
import Derived.Test.YtfifalpacagacaaDoorKLf
import Derived.Test.YtfifalpacagacaaDoorKHelp
import Derived.Test.YtfifalpacagacaaDoorBackP
import Derived.Test.YtfifalpacagacaaDoorLawE
namespace Go.Proofs.YtfifalpacagacaaDoor.kw
open Go.RowKit
set_option linter.unusedVariables false
set_option linter.unusedSimpArgs false

theorem largeB_false {b : List UInt8} {l : List ByteArray} (h : largeB b l = false) : b.length ≤ 1500 ∧ l.length ≤ 8 ∧ ∀ s ∈ l, s.size ≤ 60 := by
  unfold largeB at h
  simp only [Bool.or_eq_false_iff, decide_eq_false_iff_not, List.any_eq_false, decide_eq_true_eq] at h
  exact ⟨by omega, by omega, fun s hs => by have := h.1 s hs; omega⟩
theorem name_all {s : ByteArray} (h : nameS s = true) : s.data.toList.all (fun c => letterB c.toNat) = true := by
  unfold nameS nameB at h
  simp only [Bool.and_eq_true] at h
  exact h.1
theorem tab_letters {words : List (ByteArray × ByteArray)} (h : tabB words = true) : ∀ nm ∈ namesOf words, ∀ c ∈ nm, letterB c.toNat = true := by
  unfold tabB at h
  simp only [Bool.and_eq_true] at h
  intro nm hnm c hc
  obtain ⟨s, hs, rfl⟩ := List.mem_map.1 hnm
  have := List.all_eq_true.1 h.1 s hs
  unfold wordB at this
  simp only [Bool.and_eq_true] at this
  exact List.all_eq_true.1 (name_all this.1) c hc
theorem occ_mem {names : List (List UInt8)} {b : List UInt8} {o : Occ} (h : o ∈ occs names b 0) : o.2.2 ∈ names := by
  obtain ⟨pre, rest, e⟩ := List.append_of_mem h
  exact (occ_props names b pre rest o e).2.2.1
theorem repl_len' {names : List (List UInt8)} {b : List UInt8} {txt : List UInt8 → List UInt8} {T : Nat} (ht : ∀ o ∈ occs names b 0, (txt o.2.2).length ≤ T) : (replL b txt (occs names b 0)).length ≤ b.length + b.length * T := by
  obtain ⟨z1, z2⟩ := replSt_len b txt T names [] (occs names b 0) (by simp) ht
  have h1 := occs_length names b 0
  have h2 : (occs names b 0).length * T ≤ b.length * T := Nat.mul_le_mul_right _ h1
  unfold replL
  rw [List.length_append, List.length_drop]
  omega
/-- What Collapse returns. -/
def collL (l : List ByteArray) (b : List UInt8) : List UInt8 := replL b (txtL (namedL l) fun nm _ => colText nm) (occs (namesOf (namedL l)) b 0)
theorem named_size {l : List ByteArray} {n : Nat} (h : ∀ s ∈ l, s.size ≤ n) : ∀ nm ∈ namesOf (namedL l), nm.length ≤ n := by
  intro nm hnm
  simp only [namesOf, namedL, List.map_map, List.mem_map, Function.comp] at hnm
  obtain ⟨s, hs, rfl⟩ := hnm
  exact h s hs
theorem coll_len' {l : List ByteArray} {b : List UInt8} (hb : b.length ≤ 1500) (h : ∀ s ∈ l, s.size ≤ 60) : (collL l b).length ≤ 100000 := by
  have := repl_len' (names := namesOf (namedL l)) (b := b) (txt := txtL (namedL l) fun nm _ => colText nm) (T := 62) (fun o ho => by
    have hm := named_size h _ (occ_mem ho)
    have h3 : (⟨o.2.2.toArray⟩ : ByteArray).size = o.2.2.length := by simp [ByteArray.size]
    show (colText ⟨o.2.2.toArray⟩).size ≤ 62
    rw [colText_size, h3]
    omega)
  have h4 : b.length * 62 ≤ 1500 * 62 := Nat.mul_le_mul_right _ hb
  unfold collL
  omega
theorem coll_lf {l : List ByteArray} (h : tabB (namedL l) = true) (b : List UInt8) : collL l (toLF b) = toLF (collL l b) := by
  unfold collL
  rw [replL_scan, replL_scan]
  refine lf_show (fun nm hnm => ?_) b
  have hl := tab_letters h nm hnm
  have e : (txtL (namedL l) (fun nm _ => colText nm) nm) = 36 :: (nm ++ [36]) := by simp [txtL, colText]
  rw [e]
  refine ⟨fun c hc => ?_, rfl⟩
  simp only [List.mem_cons, List.mem_append, List.not_mem_nil, or_false] at hc
  rcases hc with rfl | hc | rfl
  · decide
  · rintro rfl
    exact absurd (hl 13 hc) (by decide)
  · decide

theorem ready_text (bs : List UInt8) : readyE 1 false false bs 2 = 0 := ready_ok (by decide) (.inr rfl) (.inl (by decide))
theorem canon_text (bs : List UInt8) (v : Value) (w : World) (he : Env w) (hb : Bytes w v bs) (hl : bs.length ≤ 100000) :
    Calls Tryd.prog 17 #[.agg #[.int .i64 1, .bool false, .bool false, .bool false], v, .int .i64 2] w fun e w' => ∃ v', e = .returned (.tuple #[v', .int .i64 0]) ∧ Bytes w' v' (toLF bs) ∧ Below w.heap.size w w' := by
  refine (canon_any 1 false false false bs v 2 w he hb hl).mono ?_
  rintro e w' ⟨v', rfl, h1, h2⟩
  refine ⟨v', by rw [ready_text], ?_, h2⟩
  rw [show transR 1 false false 2 [13, 10] [10] bs = transL 1 2 [13, 10] [10] bs from if_pos (ready_text bs), show transL 1 2 [13, 10] [10] bs = replR [13, 10] [10] bs from if_pos ⟨rfl, rfl⟩, repl_lf] at h1
  exact h1

set_option maxRecDepth 100000 in
set_option maxHeartbeats 4000000 in
theorem keywordLines_walk (b : List UInt8) (v0 : Value) (l : List ByteArray) (v1 : Value) (W : World) (he : Env W) (hb : Bytes W v0 b) (hn : Strs W v1 l) (hsz : ∀ s ∈ l, s.size ≤ maxLen) :
    Calls Tryd.prog 3 #[v0, v1] W fun e w' => e = .returned (.bool true) ∧ Below W.heap.size W w' := by
  have HL := Lib.hid (large_any b l v0 v1 W hb hn hsz)
  have HB := Lib.hid hb
  have HN := Lib.hid hn
  obtain ⟨A0, c0, rfl, hc0, hm0, -⟩ := hb
  obtain ⟨A1, c1, rfl, hc1, hm1, -⟩ := hn
  clear hsz
  go_enter Tryd.func3, Tryd.ntmps3
  go_wp2_with fail
  refine HL.out.mono ?_
  cases hlg : largeB b l
  · obtain ⟨hb1, hb2, hb3⟩ := largeB_false hlg
    rintro e w1 ⟨rfl, rfl⟩
    clear hlg HL
    have HB3 := Lib.hid hb3
    have HCL := Lib.hid (coll_len' hb1 hb3)
    have hA0 : Below W.heap.size W (W.alloc (.cells #[.int .i64 1, .bool false, .bool false, .bool false] 27)) := (Below.refl _ _).alloc (Nat.le_refl _) _
    have HF := Lib.hid (collapse_any b l _ _ _ (HB.out.below hA0) (HN.out.below hA0) (by omega) (by omega) (fun s hs => by have := hb3 s hs; omega))
    have HLF := Lib.hid (len_lf b)
    clear hb3
    go_wp2_with fail
    refine HF.out.mono ?_
    rintro e w1 ⟨h1, h2, hbl⟩
    have hT1 := (blk_new W [.int .i64 1, .bool false, .bool false, .bool false] 27).below hbl (by simp)
    have hbw1 : Below W.heap.size W w1 := hA0.trans (hbl.mono (by simp))
    have hlT := hT1.lt
    obtain ⟨y0, y1, y2, y3, z0, z1, z2, z3⟩ := box4 hT1
    have HC := Lib.hid (canon_text b _ w1 (he.below hbw1) (HB.out.below hbw1) (by omega))
    clear HF
    cases htab : tabB (namedL l)
    · obtain rfl := h2 htab
      clear h1 h2 htab
      go_wp2_with fail
      refine HC.out.mono ?_
      rintro e w2 ⟨v2, rfl, hv2, hb2⟩
      have hbw2 := below_next hbw1 hb2
      obtain ⟨A2, c2, rfl, -⟩ := hv2
      clear y0 y1 y2 y3 z0 z1 z2 z3
      go_wp2_with fail
      refine (awake_any _).mono ?_
      rintro e w3 ⟨rfl, hb3⟩
      go_wp2_with fail
      go_ret
      exact ⟨rfl, below_next hbw2 hb3⟩
    · obtain ⟨vx, rfl, hx⟩ := h1 htab
      have hx : Bytes w1 vx (collL l b) := hx
      have HLFc := Lib.hid (coll_lf htab b)
      have HTab := Lib.hid htab
      clear h1 h2 htab
      have HX := Lib.hid hx
      obtain ⟨Ax, cx, rfl, -⟩ := hx
      go_wp2_with fail
      refine HC.out.mono ?_
      rintro e w2 ⟨v2, rfl, hv2, hb2⟩
      have hbw2 := below_next hbw1 hb2
      have hT2 := hT1.below hb2 hlT
      clear y0 y1 y2 y3 z0 z1 z2 z3
      obtain ⟨y0, y1, y2, y3, z0, z1, z2, z3⟩ := box4 hT2
      have HV2 := Lib.hid hv2
      obtain ⟨A2, c2, rfl, -⟩ := hv2
      have HC2 := Lib.hid (canon_text (collL l b) _ w2 (he.below hbw2) (HX.out.below hb2) HCL.out)
      clear HC
      go_wp2_with fail
      refine HC2.out.mono ?_
      rintro e w3 ⟨v3, rfl, hv3, hb3⟩
      have hbw3 := below_next hbw2 hb3
      have hT3 := hT2.below hb3 (by have := hb2.size; omega)
      clear y0 y1 y2 y3 z0 z1 z2 z3
      obtain ⟨y0, y1, y2, y3, z0, z1, z2, z3⟩ := box4 hT3
      have HV3 := Lib.hid hv3
      obtain ⟨A3, c3, rfl, -⟩ := hv3
      have HF2 := Lib.hid (collapse_any (toLF b) l _ _ w3 (HV2.out.below hb3) (HN.out.below hbw3) (by have := HLF.out; omega) (by omega) (fun s hs => by have := HB3.out s hs; omega))
      clear HC2
      go_wp2_with fail
      refine HF2.out.mono ?_
      rintro e w4 ⟨h1, -, hb4⟩
      obtain ⟨v4, rfl, hv4⟩ := h1 HTab.out
      have hv4 : Bytes w4 v4 (collL l (toLF b)) := hv4
      rw [HLFc.out] at hv4
      clear h1
      have hbw4 := below_next hbw3 hb4
      have hs4 := str_run hv4
      have hs3 := str_run (HV3.out.below hb4)
      obtain ⟨A4, c4, rfl, -⟩ := hv4
      clear y0 y1 y2 y3 z0 z1 z2 z3
      generalize toLF (collL l b) = R at *
      go_wp2_with fail
      refine (awake_any _).mono ?_
      rintro e w5 ⟨rfl, hb5⟩
      go_wp2_with fail
      go_ret
      exact ⟨rfl, below_next hbw4 hb5⟩
  · rintro e w1 ⟨rfl, rfl⟩
    go_wp2_with fail
    refine (awake_any _).mono ?_
    rintro e w2 ⟨rfl, hbl2⟩
    go_wp2
    go_ret
    exact ⟨rfl, hbl2⟩
end Go.Proofs.YtfifalpacagacaaDoor.kw
namespace Go.Proofs.YtfifalpacagacaaDoor
open Go.RowKit
theorem keywordLines_walk (b : List UInt8) (v0 : Value) (l : List ByteArray) (v1 : Value) (W : World) (he : Env W) (hb : Bytes W v0 b) (hn : Strs W v1 l) (hsz : ∀ s ∈ l, s.size ≤ maxLen) :
    Calls Tryd.prog 3 #[v0, v1] W fun e w' => e = .returned (.bool true) ∧ Below W.heap.size W w' := kw.keywordLines_walk b v0 l v1 W he hb hn hsz
end Go.Proofs.YtfifalpacagacaaDoor
