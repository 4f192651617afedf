/- The walks of KeywordCollapses and KeywordExpands. -/
import Derived.Test.YtajlckioogalbaaFinds
import Derived.Deep.RegionHeld3
namespace Go.Proofs.Ytajlckioogalbaa
open Go.RowKit

theorem replSt_congr {b : List UInt8} {t1 t2 : List UInt8 → List UInt8} {os : List Occ} (h : ∀ o ∈ os, t1 o.2.2 = t2 o.2.2) : replSt b t1 os = replSt b t2 os := by
  unfold replSt
  generalize (([] : List UInt8), 0) = st
  induction os generalizing st with
  | nil => rfl
  | cons o os ih => rw [List.foldl_cons, List.foldl_cons, h o (by simp)]; exact ih (fun o ho => h o (by simp [ho])) _
theorem replL_congr {b : List UInt8} {t1 t2 : List UInt8 → List UInt8} {os : List Occ} (h : ∀ o ∈ os, t1 o.2.2 = t2 o.2.2) : replL b t1 os = replL b t2 os := by unfold replL; rw [replSt_congr h]
theorem occ_mem_names {names : List (List UInt8)} {b : List UInt8} {o : Occ} (h : o ∈ occs names b 0) : o.2.2 ∈ names := by
  obtain ⟨pre, rest, e⟩ := List.append_of_mem h
  exact (occ_props names b pre rest o e).2.2.1

theorem byTxt_at {l : List ByteArray} {f : ByteArray → ByteArray} {nm : List UInt8} (h : nm ∈ namesL l) : byTxt (namesL l) (l.map f) nm = (f ⟨nm.toArray⟩).data.toList := by
  have hi := List.idxOf_lt_length_of_mem h
  have hi' : (namesL l).idxOf nm < l.length := by simpa [namesL] using hi
  have hg : (namesL l)[(namesL l).idxOf nm] = nm := List.getElem_idxOf hi
  have hl : l[(namesL l).idxOf nm] = ⟨nm.toArray⟩ := by
    apply ba_ext
    have : (namesL l)[(namesL l).idxOf nm]? = some (l[(namesL l).idxOf nm]).data.toList := by unfold namesL at hi' ⊢; rw [List.getElem?_map, List.getElem?_eq_getElem hi']; rfl
    rw [List.getElem?_eq_getElem hi, hg] at this
    injection this with this
    rw [← this]
  unfold byTxt
  rw [List.getElem?_map, List.getElem?_eq_getElem hi']
  simp [hl]

theorem coll_text (b : List UInt8) (l : List ByteArray) : replL b (byTxt (namesL l) (l.map colText)) (occs (namesL l) b 0) = replL b (txtL (namedL l) fun nm _ => colText nm) (occs (namesL l) b 0) := by
  refine replL_congr fun o ho => ?_
  rw [byTxt_at (occ_mem_names ho)]
  rfl

set_option maxHeartbeats 2000000 in
set_option maxRecDepth 100000 in
theorem keywordCollapses_walk (b : List UInt8) (l : List ByteArray) (v0 v1 : Value) (W : World) (hb : Bytes W v0 b) (hn : Strs W v1 l) (hsz : ∀ s ∈ l, s.size ≤ maxLen) :
    Calls Try.prog 8 #[v0, v1] W fun e w' => e = .returned (.bool true) ∧ Below W.heap.size W w' := by
  have HL := Lib.hid (large_any b l v0 v1 W hb hn hsz)
  have HB := Lib.hid hb
  have HN := Lib.hid hn
  obtain ⟨A0, c0, rfl, hc0, hm0, -⟩ := hb
  obtain ⟨A1, c1, rfl, hc1, hm1, -⟩ := hn
  clear hsz
  go_enter Try.func8, Try.ntmps8
  go_wp2_with fail
  refine HL.out.mono ?_
  cases hlg : largeB b l
  · obtain ⟨hb1, hb2, hb3⟩ := largeB_false hlg
    rintro e w1 ⟨rfl, rfl⟩
    have HF := Lib.hid (collapse_any b l _ _ W HB.out HN.out (by omega) (by omega) (fun s hs => by have := hb3 s hs; omega))
    have HB3 := Lib.hid hb3
    clear hlg HL hb3
    obtain ⟨bs, hbs⟩ : ∃ bs : ByteArray, bs = ⟨b.toArray⟩ := ⟨_, rfl⟩
    have hcvA : ∀ w', Below W.heap.size W w' → (convert 22 9 (.slice A0 b.length c0)).run Try.prog w' = .ok (.string bs) w' := fun w' hw => by
      rw [hbs]; exact run_str (HB.out.below hw) 22 9 5 Try.underlying22 Try.underlying5 Try.underlying9
    have HCV := Lib.hid hcvA
    have hcv := hcvA W (Below.refl _ _)
    have hbz : bs.size = b.length := by rw [hbs]; simp [ByteArray.size]
    have hbd : bs.data.toList = b := by rw [hbs]
    have HBD := Lib.hid hbd
    clear hbs hcvA hbd
    go_wp2_with fail
    refine HF.out.mono ?_
    unfold ReplP
    rw [tab_named, namesOf_namedL]
    rintro e w1 ⟨h1, h2, hbl⟩
    have HC := Lib.hid (refNames_any l _ w1 (HN.out.below hbl) (by omega) (fun s hs => by have := HB3.out s hs; omega))
    have hcv1 := HCV.out w1 hbl
    cases htab : namesB l
    · obtain rfl := h2 htab
      rw [htab] at HC
      clear h1 h2 HF
      go_wp2_with fail
      refine HC.out.mono ?_
      rintro e w2 ⟨rfl, hbl2⟩
      have hbl3 := hbl.trans (hbl2.mono hbl.size)
      go_wp2_with fail
      refine (awake_any _).mono ?_
      rintro e w3 ⟨rfl, hbl4⟩
      go_wp2
      go_ret
      exact ⟨rfl, hbl3.trans (hbl4.mono hbl3.size)⟩
    · obtain ⟨vr, rfl, hr⟩ := h1 htab
      have HLE := Lib.hid (names_letters htab)
      rw [htab] at HC
      clear h1 h2 HF htab
      have HR := Lib.hid hr
      obtain ⟨out, hout⟩ : ∃ out, replL b (txtL (namedL l) fun nm _ => colText nm) (occs (namesL l) b 0) = out := ⟨_, rfl⟩
      rw [hout] at hr HR
      have HOUT := Lib.hid hout
      clear hout
      obtain ⟨Ar, cr, rfl, hcr, hmr, -⟩ := hr
      go_wp2_with fail
      refine HC.out.mono ?_
      rintro e w2 ⟨rfl, hbl2⟩
      have hbl3 := hbl.trans (hbl2.mono hbl.size)
      obtain ⟨os, hos⟩ : ∃ os : ByteArray, os = ⟨out.toArray⟩ := ⟨_, rfl⟩
      have hcvr : ∀ w', Below w2.heap.size w2 w' → (convert 22 9 (.slice Ar out.length cr)).run Try.prog w' = .ok (.string os) w' := fun w' hw => by
        rw [hos]; exact run_str ((HR.out.below hbl2).below hw) 22 9 5 Try.underlying22 Try.underlying5 Try.underlying9
      have hod : os.data.toList = out := by rw [hos]
      have HOD := Lib.hid hod
      clear hos hod HC hcv hcv1
      go_wp2_with fail
      go_region_held3 (fun w' => Below w2.heap.size w2 w') (first | assumption | exact (Below.refl _ _).drew)
        (first
          | (go_at_call 23; refine (collapsed_any l _ _ ((HN.out.below hbl3).below (Below.refl _ _).drew) (by omega) (fun s hs => by have := HB3.out s hs; omega)).mono ?_; rintro e w5 ⟨v5, rfl, hs5, hbl5⟩; have hbl6 : Below w2.heap.size w2 w5 := (Below.refl _ _).drew.trans hbl5; have HS5 := Lib.hid hs5; obtain ⟨A5, c5, rfl, -⟩ := hs5; rw [List.length_map] at HS5)
          | (go_at_call 15; refine (refReplace_any bs l (l.map colText) _ _ _ ((HN.out.below hbl3).below hbl6) HS5.out (by simp) (by omega) (by omega) (fun s hs => by have := HB3.out s hs; omega) (by intro t ht; obtain ⟨s, hs, rfl⟩ := List.mem_map.1 ht; rw [colText_size]; have := HB3.out s hs; omega) HLE.out).mono ?_; rintro e w7 ⟨t, rfl, ht, hbl7⟩; have hbl8 := hbl6.trans (hbl7.mono hbl6.size); obtain rfl : os = t := ba_ext (by rw [ht, HBD.out, coll_text, HOUT.out, HOD.out]))
          | (go_at_call 12; refine (awake_any _).mono ?_; rintro e w9 ⟨rfl, hbl9⟩; have hbl10 := hbl8.trans (hbl9.mono hbl8.size)))
      go_wp2
      go_ret
      exact ⟨rfl, hbl3.trans (hbl10.mono hbl3.size)⟩
  · rintro e w1 ⟨rfl, rfl⟩
    go_wp2_with fail
    refine (awake_any _).mono ?_
    rintro e w2 ⟨rfl, hbl2⟩
    go_wp2
    go_ret
    exact ⟨rfl, hbl2⟩

end Go.Proofs.Ytajlckioogalbaa
