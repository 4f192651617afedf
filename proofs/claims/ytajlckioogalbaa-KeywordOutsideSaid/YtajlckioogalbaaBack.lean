/- The walk of KeywordBack. -/
import Derived.Test.YtajlckioogalbaaGood
namespace Go.Proofs.Ytajlckioogalbaa
open Go.RowKit

def OutP (out : List UInt8) (w : World) (e : Ending) (w' : World) : Prop :=
  ∃ A c, e = .returned (.tuple #[.slice A out.length c, .int .i64 0]) ∧ Bytes w' (.slice A out.length c) out ∧ Below w.heap.size w w'
theorem bytes_slice {w : World} {v : Value} {l : List UInt8} (h : Bytes w v l) : ∃ A c, v = .slice A l.length c := by obtain ⟨A, c, rfl, _⟩ := h; exact ⟨A, c, rfl⟩

theorem expand_ok {b : List UInt8} {l : List (ByteArray × ByteArray)} {v1 v2 : Value} {w : World} (out : List UInt8) (ho : replL b (txtL l fun nm val => expText (nm, val)) (occs (namesOf l) b 0) = out) (hok : wordsOkB l = true) (hb : Bytes w v1 b) (hn : Pairs w v2 l) (hl : b.length ≤ 2000000) (hl2 : l.length ≤ 8) (hsz : ∀ s ∈ l, s.1.size ≤ 60 ∧ s.2.size ≤ 1100) :
    Calls Try.prog 13 #[v1, v2] w (OutP out w) := by
  refine (expand_any b l v1 v2 w hb hn hl (by omega) (fun s hs => by have := hsz s hs; omega)).mono ?_
  rintro e w' ⟨h1, -, hbl⟩
  obtain ⟨v, rfl, hv⟩ := h1 (by rw [tab_words]; exact hok)
  rw [ho] at hv
  obtain ⟨A, c, rfl⟩ := bytes_slice hv
  exact ⟨A, c, rfl, hv, hbl⟩
theorem collapse_ok {b : List UInt8} {l : List (ByteArray × ByteArray)} {v1 v2 : Value} {w : World} (out : List UInt8) (ho : replL b (txtL (namedL (l.map (·.1))) fun nm _ => colText nm) (occs (namesOf l) b 0) = out) (hok : namesB (l.map (·.1)) = true) (hb : Bytes w v1 b) (hn : Strs w v2 (l.map (·.1))) (hl : b.length ≤ 2000000) (hl2 : l.length ≤ 8) (hsz : ∀ s ∈ l, s.1.size ≤ 60 ∧ s.2.size ≤ 1100) :
    Calls Try.prog 17 #[v1, v2] w (OutP out w) := by
  refine (collapse_any b (l.map (·.1)) v1 v2 w hb hn hl (by rw [List.length_map]; omega) (fun s hs => by obtain ⟨p, hp, rfl⟩ := List.mem_map.1 hs; have := hsz p hp; omega)).mono ?_
  rintro e w' ⟨h1, -, hbl⟩
  obtain ⟨v, rfl, hv⟩ := h1 (by rw [tab_named]; exact hok)
  rw [namesOf_namedL, ← namesOf_fst, ho] at hv
  obtain ⟨A, c, rfl⟩ := bytes_slice hv
  exact ⟨A, c, rfl, hv, hbl⟩
/-- Collapse, whether the names are names or not. -/
theorem collapse_or {b : List UInt8} {l : List ByteArray} {v1 v2 : Value} {w : World} (hb : Bytes w v1 b) (hn : Strs w v2 l) (hl : b.length ≤ 2000000) (hl2 : l.length ≤ 8) (hsz : ∀ s ∈ l, s.size ≤ 60) :
    Calls Try.prog 17 #[v1, v2] w fun e w' => (∃ A n c k, e = .returned (.tuple #[.slice A n c, .int .i64 k])) ∧ Below w.heap.size w w' := by
  refine (collapse_any b l v1 v2 w hb hn hl (by omega) (fun s hs => by have := hsz s hs; omega)).mono ?_
  rintro e w' ⟨h1, h2, hbl⟩
  refine ⟨?_, hbl⟩
  cases ht : tabB (namedL l)
  · exact ⟨_, _, _, _, h2 ht⟩
  · obtain ⟨v, rfl, hv⟩ := h1 ht
    obtain ⟨A, c, rfl⟩ := bytes_slice hv
    exact ⟨_, _, _, _, rfl⟩
theorem expand_no {b : List UInt8} {l : List (ByteArray × ByteArray)} {v1 v2 : Value} {w : World} (hok : wordsOkB l = false) (hb : Bytes w v1 b) (hn : Pairs w v2 l) (hl : b.length ≤ 2000000) (hl2 : l.length ≤ 8) (hsz : ∀ s ∈ l, s.1.size ≤ 60 ∧ s.2.size ≤ 1100) :
    Calls Try.prog 13 #[v1, v2] w fun e w' => e = .returned (.tuple #[.slice none 0 0, .int .i64 100]) ∧ Below w.heap.size w w' := by
  refine (expand_any b l v1 v2 w hb hn hl (by omega) (fun s hs => by have := hsz s hs; omega)).mono ?_
  rintro e w' ⟨-, h2, hbl⟩
  exact ⟨h2 (by rw [tab_words]; exact hok), hbl⟩
theorem ok_names {l : List (ByteArray × ByteArray)} (h : wordsOkB l = true) : namesB (l.map (·.1)) = true := by unfold wordsOkB at h; simp only [Bool.and_eq_true] at h; exact h.2

set_option maxHeartbeats 2000000 in
set_option maxRecDepth 100000 in
theorem keywordBack_walk (b : List UInt8) (l : List (ByteArray × ByteArray)) (v0 v1 : Value) (W : World) (hb : Bytes W v0 b) (hn : Pairs W v1 l) (hsz : ∀ s ∈ l, s.1.size ≤ maxLen ∧ s.2.size ≤ maxLen) :
    Calls Try.prog 4 #[v0, v1] W fun e w' => e = .returned (.bool true) ∧ Below W.heap.size W w' := by
  have HL := Lib.hid (large_any b [] v0 _ W hb (Row.nil_ _ 1) (by simp))
  have HW := Lib.hid (words_any l v1 W hn hsz)
  have HB := Lib.hid hb
  have HN := Lib.hid hn
  obtain ⟨A0, c0, rfl, hc0, hm0, -⟩ := hb
  obtain ⟨A1, c1, rfl, hc1, hm1, -⟩ := hn
  clear hsz
  go_enter Try.func4, Try.ntmps4
  go_wp2_with fail
  refine HL.out.mono ?_
  cases hlg : largeB b []
  · obtain ⟨hb1, -, -⟩ := largeB_false hlg
    rintro e w1 ⟨rfl, rfl⟩
    cases hwg : wordsB l
    · obtain ⟨hb2, hb3⟩ := wordsB_false hwg
      rw [hwg] at HW
      have HB3 := Lib.hid hb3
      have HNZ : Hid (∀ s ∈ l.map (·.1), s.size ≤ 60) := Lib.hid (fun s hs => by obtain ⟨p, hp, rfl⟩ := List.mem_map.1 hs; exact (hb3 p hp).1)
      clear hlg hwg HL hb3
      go_wp2_with fail
      refine HW.out.mono ?_
      rintro e W1 ⟨rfl, hbW⟩
      clear HW
      cases hok : wordsOkB l
      · go_wp2_with fail
        refine (expand_no hok (HB.out.below hbW) (HN.out.below hbW) (by omega) hb2 HB3.out).mono ?_
        rintro e w2 ⟨rfl, hbl2⟩
        have hb2' := hbW.trans (hbl2.mono hbW.size)
        go_wp2_with fail
        refine (names_any l _ _ (HN.out.below hb2') (by omega)).mono ?_
        rintro e w3 ⟨v3, rfl, hs3, hbl3⟩
        have hb3' := hb2'.trans (hbl3.mono hb2'.size)
        have HCO := Lib.hid (collapse_or (HB.out.below hb3') hs3 (by omega) (by rw [List.length_map]; exact hb2) HNZ.out)
        obtain ⟨A3, c3, rfl, -⟩ := hs3
        rw [List.length_map] at HCO
        go_wp2_with fail
        refine HCO.out.mono ?_
        rintro e w4 ⟨⟨A4, n4, c4, k4, rfl⟩, hbl4⟩
        have hb4' := hb3'.trans (hbl4.mono hb3'.size)
        go_wp2_with fail
        refine (awake_any _).mono ?_
        rintro e w5 ⟨rfl, hbl5⟩
        go_wp2
        go_ret
        exact ⟨rfl, hb4'.trans (hbl5.mono hb4'.size)⟩
      · have HOK := Lib.hid hok
        have HNB := Lib.hid (ok_names hok)
        clear hok
        obtain ⟨X, hX⟩ : ∃ X, replL b (txtL l fun nm val => expText (nm, val)) (occs (namesOf l) b 0) = X := ⟨_, rfl⟩
        obtain ⟨C, hC⟩ : ∃ C, replL b (txtL (namedL (l.map (·.1))) fun nm _ => colText nm) (occs (namesOf l) b 0) = C := ⟨_, rfl⟩
        have hlet : ∀ nm ∈ namesOf l, ∀ c ∈ nm, letterB c.toNat = true := by rw [namesOf_fst]; exact words_letters HOK.out
        have hXl : X.length ≤ 2000000 := by rw [← hX]; exact exp_len hb1 HB3.out
        have hCl : C.length ≤ 2000000 := by rw [← hC]; exact coll_len _ hb1 (fun s hs => by obtain ⟨p, hp, rfl⟩ := List.mem_map.1 hs; exact (HB3.out p hp).1)
        have hXC : replL X (txtL (namedL (l.map (·.1))) fun nm _ => colText nm) (occs (namesOf l) X 0) = C := by rw [← hX, repl_again (good_exp HOK.out), hC]
        have hCX : replL C (txtL l fun nm val => expText (nm, val)) (occs (namesOf l) C 0) = X := by rw [← hC, repl_again (good_coll _ hlet), hX]
        have hXX : replL X (txtL l fun nm val => expText (nm, val)) (occs (namesOf l) X 0) = X := by
          have := repl_again (good_exp HOK.out) (txtL l fun nm val => expText (nm, val)) b
          rw [hX] at this; exact this
        have HX := Lib.hid hX
        have HCc := Lib.hid hC
        have HXC := Lib.hid hXC
        have HCX := Lib.hid hCX
        have HXX := Lib.hid hXX
        clear hX hC hXC hCX hXX hlet
        go_wp2_with fail
        refine (expand_ok X HX.out HOK.out (HB.out.below hbW) (HN.out.below hbW) (by omega) hb2 HB3.out).mono ?_
        rintro e w2 ⟨Ax, cx, rfl, hx, hbl2⟩
        have HBX := Lib.hid hx
        clear hx
        have hq2 := hbW.trans (hbl2.mono hbW.size)
        go_wp2_with fail
        refine (names_any l _ _ (HN.out.below hq2) (by omega)).mono ?_
        rintro e w3 ⟨v3, rfl, hs3, hbl3⟩
        have hq3 := hq2.trans (hbl3.mono hq2.size)
        have HCO := Lib.hid (collapse_ok C HCc.out HNB.out (HB.out.below hq3) hs3 (by omega) hb2 HB3.out)
        obtain ⟨A3, c3, rfl, -⟩ := hs3
        rw [List.length_map] at HCO
        go_wp2_with fail
        refine HCO.out.mono ?_
        rintro e w4 ⟨Ac, cc, rfl, hc, hbl4⟩
        have HBC := Lib.hid hc
        clear hc HCO
        have hq4 := hq3.trans (hbl4.mono hq3.size)
        go_wp2_with fail
        refine (names_any l _ _ (HN.out.below hq4) (by omega)).mono ?_
        rintro e w5 ⟨v5, rfl, hs5, hbl5⟩
        have hq5 := hq4.trans (hbl5.mono hq4.size)
        have hx5 := ((HBX.out.below hbl3).below hbl4).below hbl5
        have HCO := Lib.hid (collapse_ok C HXC.out HNB.out hx5 hs5 hXl hb2 HB3.out)
        have HX5 := Lib.hid hx5
        have HC5 := Lib.hid (HBC.out.below hbl5)
        clear hx5 HBX HBC
        obtain ⟨A5, c5, rfl, -⟩ := hs5
        rw [List.length_map] at HCO
        go_wp2_with fail
        refine HCO.out.mono ?_
        rintro e w6 ⟨Ad, cd, rfl, hd, hbl6⟩
        have HBD := Lib.hid hd
        clear hd HCO
        have hq6 := hq5.trans (hbl6.mono hq5.size)
        go_wp2_with fail
        refine (expand_ok X HCX.out HOK.out (HC5.out.below hbl6) (HN.out.below hq6) hCl hb2 HB3.out).mono ?_
        rintro e w7 ⟨Ay, cy, rfl, hy, hbl7⟩
        have HBY := Lib.hid hy
        clear hy
        have hq7 := hq6.trans (hbl7.mono hq6.size)
        go_wp2_with fail
        refine (expand_ok X HXX.out HOK.out ((HX5.out.below hbl6).below hbl7) (HN.out.below hq7) hXl hb2 HB3.out).mono ?_
        rintro e w8 ⟨Az, cz, rfl, hz, hbl8⟩
        have hq8 := hq7.trans (hbl8.mono hq7.size)
        obtain ⟨xs, hxs⟩ : ∃ xs : ByteArray, xs = ⟨X.toArray⟩ := ⟨_, rfl⟩
        obtain ⟨cs, hcs⟩ : ∃ cs : ByteArray, cs = ⟨C.toArray⟩ := ⟨_, rfl⟩
        have k1 : (convert 22 9 (.slice Ax X.length cx)).run Try.prog w8 = .ok (.string xs) w8 := by
          rw [hxs]; exact run_str (((HX5.out.below hbl6).below hbl7).below hbl8) 22 9 5 Try.underlying22 Try.underlying5 Try.underlying9
        have k2 : (convert 22 9 (.slice Ac C.length cc)).run Try.prog w8 = .ok (.string cs) w8 := by
          rw [hcs]; exact run_str (((HC5.out.below hbl6).below hbl7).below hbl8) 22 9 5 Try.underlying22 Try.underlying5 Try.underlying9
        have k3 : (convert 22 9 (.slice Ad C.length cd)).run Try.prog w8 = .ok (.string cs) w8 := by
          rw [hcs]; exact run_str ((HBD.out.below hbl7).below hbl8) 22 9 5 Try.underlying22 Try.underlying5 Try.underlying9
        have k4 : (convert 22 9 (.slice Ay X.length cy)).run Try.prog w8 = .ok (.string xs) w8 := by
          rw [hxs]; exact run_str (HBY.out.below hbl8) 22 9 5 Try.underlying22 Try.underlying5 Try.underlying9
        have k5 : (convert 22 9 (.slice Az X.length cz)).run Try.prog w8 = .ok (.string xs) w8 := by
          rw [hxs]; exact run_str hz 22 9 5 Try.underlying22 Try.underlying5 Try.underlying9
        clear hxs hcs hz
        go_wp2_with fail
        refine (awake_any _).mono ?_
        rintro e w9 ⟨rfl, hbl9⟩
        go_wp2
        go_ret
        exact ⟨rfl, hq8.trans (hbl9.mono hq8.size)⟩
    · rw [hwg] at HW
      go_wp2_with fail
      refine HW.out.mono ?_
      rintro e W1 ⟨rfl, hbW⟩
      go_wp2_with fail
      refine (awake_any _).mono ?_
      rintro e w2 ⟨rfl, hbl2⟩
      go_wp2
      go_ret
      exact ⟨rfl, hbW.trans (hbl2.mono hbW.size)⟩
  · rintro e w1 ⟨rfl, rfl⟩
    go_wp2_with fail
    refine (awake_any _).mono ?_
    rintro e w2 ⟨rfl, hbl2⟩
    go_wp2
    go_ret
    exact ⟨rfl, hbl2⟩

end Go.Proofs.Ytajlckioogalbaa
