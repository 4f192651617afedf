/- The walk of KeywordFinds. -/
import Derived.Test.YtajlckioogalbaaRefN
import Derived.Test.YtajlckioogalbaaOccurs
import Derived.Test.YtajlckioogalbaaPlaces
namespace Go.Proofs.Ytajlckioogalbaa
open Go.RowKit

theorem namesOf_namedL (l : List ByteArray) : namesOf (namedL l) = namesL l := by simp [namesOf, namedL, namesL, Function.comp_def]
theorem tab_named (l : List ByteArray) : tabB (namedL l) = namesB l := by
  unfold tabB namesB
  rw [namesOf_namedL]
  congr 1
  unfold namedL wordB
  rw [List.all_map]
  congr 1
  funext s
  have : valueS ⟨#[]⟩ = true := by decide
  simp [this]
theorem names_letters {l : List ByteArray} (h : namesB l = true) : ∀ nm ∈ namesL l, ∀ c ∈ nm, letterB c.toNat = true := by
  unfold namesB at h
  simp only [Bool.and_eq_true] at h
  intro nm hnm c hc
  obtain ⟨s, hs, rfl⟩ := List.mem_map.1 hnm
  have := List.all_eq_true.1 h.1 s hs
  exact List.all_eq_true.1 (name_all this) c hc

set_option maxHeartbeats 2000000 in
set_option maxRecDepth 100000 in
theorem keywordFinds_walk (b : List UInt8) (l : List ByteArray) (v0 v1 : Value) (W : World) (hb : Bytes W v0 b) (hn : Strs W v1 l) (hsz : ∀ s ∈ l, s.size ≤ maxLen) :
    Calls Try.prog 9 #[v0, v1] W fun e w' => e = .returned (.bool true) ∧ Below W.heap.size W w' := by
  have HL := Lib.hid (large_any b l v0 v1 W hb hn hsz)
  have HB := Lib.hid hb
  have HN := Lib.hid hn
  obtain ⟨A0, c0, rfl, hc0, hm0, -⟩ := hb
  obtain ⟨A1, c1, rfl, hc1, hm1, -⟩ := hn
  clear hsz
  go_enter Try.func9, Try.ntmps9
  go_wp2_with fail
  refine HL.out.mono ?_
  cases hlg : largeB b l
  · obtain ⟨hb1, hb2, hb3⟩ := largeB_false hlg
    rintro e w1 ⟨rfl, rfl⟩
    have HF := Lib.hid (find_any b l _ _ W HB.out HN.out (by omega) (by omega) (fun s hs => by have := hb3 s hs; omega))
    have HB3 := Lib.hid hb3
    clear hlg HL hb3
    go_wp2_with fail
    refine HF.out.mono ?_
    unfold FindP
    rw [tab_named, namesOf_namedL]
    rintro e w1 ⟨h1, h2, hbl⟩
    have HC := Lib.hid (refNames_any l _ w1 (HN.out.below hbl) (by omega) (fun s hs => by have := HB3.out s hs; omega))
    cases htab : namesB l
    · obtain rfl := h2 htab
      rw [htab] at HC
      clear h1 h2 HF
      go_wp2_with fail
      refine HC.out.mono ?_
      rintro e w2 ⟨rfl, hbl2⟩
      have hbl3 := hbl.trans (hbl2.mono hbl.size)
      go_wp2_with fail
      refine (awake_any _).mono ?_
      rintro e w3 ⟨rfl, hbl4⟩
      go_wp2
      go_ret
      exact ⟨rfl, hbl3.trans (hbl4.mono hbl3.size)⟩
    · obtain ⟨vr, rfl, hr⟩ := h1 htab
      have HLE := Lib.hid (names_letters htab)
      rw [htab] at HC
      clear h1 h2 HF htab
      have HR := Lib.hid hr
      have hrl : (rangesOf (occs (namesL l) b 0)).length ≤ 1000000 := by
        have := occs_length (namesL l) b 0
        unfold rangesOf; rw [List.length_map]; omega
      obtain ⟨Ar, cr, rfl, hcr, hmr, -⟩ := hr
      go_wp2_with fail
      refine HC.out.mono ?_
      rintro e w2 ⟨rfl, hbl2⟩
      have hbl3 := hbl.trans (hbl2.mono hbl.size)
      obtain ⟨bs, hbs⟩ : ∃ bs : ByteArray, bs = ⟨b.toArray⟩ := ⟨_, rfl⟩
      have hcv : (convert 22 9 (.slice A0 b.length c0)).run Try.prog w2 = .ok (.string bs) w2 := by
        rw [hbs]; exact run_str (HB.out.below hbl3) 22 9 5 Try.underlying22 Try.underlying5 Try.underlying9
      have hbz : bs.size = b.length := by rw [hbs]; simp [ByteArray.size]
      have hbd : bs.data.toList = b := by rw [hbs]
      have HD := Lib.hid (refFind_any bs l _ w2 (HN.out.below hbl3) (by omega) (by omega) (fun s hs => by have := HB3.out s hs; omega) HLE.out)
      rw [hbd] at HD
      clear hbs hbd
      go_wp2_with fail
      refine HD.out.mono ?_
      rintro e w4 ⟨v5, v6, rfl, hr5, hr6, hbl5⟩
      have hbl6 := hbl3.trans (hbl5.mono hbl3.size)
      have HS := Lib.hid (same_any _ _ _ _ w4 ((HR.out.below hbl2).below hbl5) hr5 hrl)
      rw [show decide (rangesOf (occs (namesL l) b 0) = rangesOf (occs (namesL l) b 0)) = true by simp] at HS
      obtain ⟨A5, c5, rfl, hc5, hm5, -⟩ := hr5
      obtain ⟨A6, c6, rfl, hc6, hm6, -⟩ := hr6
      go_wp2_with fail
      refine HS.out.mono ?_
      rintro e w7 ⟨rfl, hbl7⟩
      have hbl8 := hbl6.trans (hbl7.mono hbl6.size)
      go_wp2_with fail
      refine (awake_any _).mono ?_
      rintro e w9 ⟨rfl, hbl9⟩
      go_wp2
      go_ret
      exact ⟨rfl, hbl8.trans (hbl9.mono hbl8.size)⟩
  · rintro e w1 ⟨rfl, rfl⟩
    go_wp2_with fail
    refine (awake_any _).mono ?_
    rintro e w2 ⟨rfl, hbl2⟩
    go_wp2
    go_ret
    exact ⟨rfl, hbl2⟩

end Go.Proofs.Ytajlckioogalbaa
