/- The contract of the statements' own 'outside', and the walk of KeywordOutside. -/
import Derived.Test.YtajlckioogalbaaBack
namespace Go.Proofs.Ytajlckioogalbaa
open Go.RowKit

def dot (_ : List UInt8) : List UInt8 := [0]
theorem one_cells (l : List UInt8) (i n : Nat) : ∀ u ∈ ((l.map fun b : UInt8 => Value.int .u8 (b.toNat : Int)).drop i).take n, u.oneCell' = true := by
  intro u hu
  have := List.mem_of_mem_drop (List.mem_of_mem_take hu)
  rw [List.mem_map] at this
  obtain ⟨_, _, rfl⟩ := this
  rfl
theorem one_cells' (l : List UInt8) (i : Nat) : ∀ u ∈ ((l.map fun b : UInt8 => Value.int .u8 (b.toNat : Int)).drop i), u.oneCell' = true := by
  intro u hu
  have := List.mem_of_mem_drop hu
  rw [List.mem_map] at this
  obtain ⟨_, _, rfl⟩ := this
  rfl

theorem own_ne_blk_ {w : World} {B : Nat} {e e' : TypeId} {s : Nat} {v : Value} {n : Nat} {xs cs : List Value} {g : Nat} (h : w.ownsRow B e s v n xs) (hb : Blk w g e' cs) (hne : e ≠ e') : some g ≠ v.ownBlock := by
  intro hh
  rcases h.2 with ⟨rfl, _⟩ | ⟨g', cap, cur, rfl, _, hg, _⟩
  · cases hh
  · have hgg : g = g' := by simpa [Value.ownBlock] using hh
    subst hgg
    unfold Blk at hb
    rw [hg] at hb
    injection hb with hb
    injection hb with _ h3
    exact hne h3

set_option maxHeartbeats 2000000 in
set_option maxRecDepth 100000 in
theorem outside_any (names : List (List UInt8)) (b : List UInt8) (v1 v2 : Value) (w : World) (hb : Bytes w v1 b) (hr : Ranges w v2 (rangesOf (occs names b 0))) (hl : b.length ≤ 2000000) :
    Calls Try.prog 21 #[v1, v2] w fun e w' => e = .returned (.string ⟨(replL b dot (occs names b 0)).toArray⟩) ∧ Below w.heap.size w w' := by
  have HB := Lib.hid hb
  have HR := Lib.hid hr
  obtain ⟨A1, c1, rfl, hc1, hm1, -⟩ := hb
  obtain ⟨A2, c2, rfl, hc2, hm2, -⟩ := hr
  obtain ⟨os, hos⟩ : ∃ os, occs names b 0 = os := ⟨_, rfl⟩
  have HOS := Lib.hid hos
  have hrl : (rangesOf os).length = os.length := by simp [rangesOf]
  have hosl : os.length ≤ b.length := by rw [← hos]; exact occs_length _ _ _
  rw [hos] at HR hc2 ⊢
  rw [hrl] at hc2 ⊢
  clear hos
  go_enter Try.func21, Try.ntmps21
  go_wp2
  go_loopw [5, 6, 11] (fun r a i wr => ∃ (k : Nat), k ≤ os.length ∧ i = .int .i64 k ∧ wr.ownsRow w.heap.size 5 1 r (replSt b dot (os.take k)).1.length ((replSt b dot (os.take k)).1.map fun b => .int .u8 b.toNat) ∧ a = .int .i64 ((replSt b dot (os.take k)).2 : Nat) ∧ Below w.heap.size w wr) (fun _ _ i _ => os.length - (intOf i).toNat)
  case atStart => exact ⟨0, Nat.zero_le _, rfl, World.ownsRow_nil _ _ _ _, rfl, Below.refl _ _⟩
  case round =>
    obtain ⟨k, hk, rfl, hown, rfl, hbl⟩ := hrel
    have hlens := replSt_len b dot 1 names (os.drop k) (os.take k) (by rw [HOS.out, List.take_append_drop]) (fun _ _ => Nat.le_refl _)
    have htk : (os.take k).length * 1 ≤ b.length := by rw [List.length_take]; omega
    by_cases hlt : k < os.length
    · have hsplit : occs names b 0 = os.take k ++ os[k] :: os.drop (k + 1) := by rw [HOS.out, List.getElem_cons_drop, List.take_append_drop]
      obtain ⟨a1, a2, a3, -, -⟩ := occs_at names b dot _ _ _ hsplit
      have hsn := replSt_snoc b dot (os.take k) os[k]
      rw [← List.take_succ_eq_append_getElem hlt] at hsn
      obtain ⟨out, cp, hst⟩ : ∃ out cp, replSt b dot (os.take k) = (out, cp) := ⟨_, _, rfl⟩
      rw [hst] at hsn a1 hlens hown
      rw [hst]
      simp only at hsn a1 hlens hown
      have HSN := Lib.hid hsn
      clear hsplit hsn hst
      obtain ⟨ad, rfl, had, hr0, hr1⟩ := Ranges.at_ (k := k) (HR.out.below hbl) (by rw [hrl]; exact hlt)
      have e1 : (rangesOf os)[k]'(by rw [hrl]; exact hlt) = (os[k].1, os[k].2.1) := by simp [rangesOf]
      rw [e1] at hr0 hr1
      obtain ⟨⟨o1, o2, o3⟩, hoe⟩ : ∃ o, os[k] = o := ⟨_, rfl⟩
      rw [hoe] at HSN a1 a2 a3 hr0 hr1
      simp only at HSN a1 a2 a3 hr0 hr1
      clear e1 hoe
      obtain ⟨hlen1, hlen2⟩ := hlens
      obtain ⟨wa, hwa⟩ : ∃ wa, wa = wr.alloc (.cells #[.int .i64 (o1 : Int), .int .i64 (o2 : Int)] 41) := ⟨_, rfl⟩
      have hbla : Below w.heap.size w wa := by rw [hwa]; exact hbl.alloc hbl.size _
      have hblk : Blk wa wr.heap.size 41 [.int .i64 (o1 : Int), .int .i64 (o2 : Int)] := by rw [hwa]; exact blk_new _ _ _
      have howna : wa.ownsRow w.heap.size 5 1 u5 out.length (out.map fun b => .int .u8 b.toNat) := by rw [hwa]; exact hown.alloc _
      obtain ⟨As, cs, hsub, hrow⟩ := run_sub (P := Try.prog) (w := wa) (x := (cp : Int)) (y := (o1 : Int)) (kx := .i64) (ky := .i64) (lo := cp) (hi := o1) Try.underlying22 (fun w => Try.sizeOf5 w) (HB.out.below hbla) a1 (by omega) rfl rfl
      have HROW := Lib.hid hrow
      have HOWN := Lib.hid howna
      rw [hwa] at hsub
      clear hrow hown howna
      go_wp2_with (at_builtin; refine stop_here ?_)
      rw [← hwa]
      refine Lib.hid ?_
      refine wpList_app rfl rfl byteElem HOWN.out rfl HROW.out rfl (one_cells _ _ _) (by omega) (by unfold maxLen; omega) hbla.size ?_
      intro A5 c5 w5 hown5 hg5 _
      have hbl5 := grown_below hbla HOWN.out hbla.size hg5
      have hblk5 := hblk.grown hg5 (own_ne_blk_ HOWN.out hblk (by decide))
      have H5 := Lib.hid hown5
      clear hsub hown5 hg5 hblk hwa
      go_wp2_with (at_builtin; refine stop_here ?_)
      refine Lib.hid ?_
      refine wpList_app rfl rfl byteElem (H5.out.alloc _) rfl (row_new _ [.int .u8 (0 : Int)] _ 1 1 rfl (by decide) _ rfl) rfl (by simp [Value.oneCell']) (by omega) (by unfold maxLen; omega) (by have := hbl5.size; simp; omega) ?_
      intro A6 c6 w6 hown6 hg6 _
      have hbl6 := grown_below (hbl5.alloc hbl5.size _) (H5.out.alloc _) (by have := hbl5.size; simp; omega) hg6
      have hblk6 := (hblk5.alloc _).grown hg6 (own_ne_blk_ H5.out hblk5 (by decide))
      have hcl := hblk6.cell 1
      simp only [List.getElem?_cons_succ, List.getElem?_cons_zero] at hcl
      have H6 := Lib.hid hown6
      clear hown6 hg6 hblk5 hblk6
      go_wp2
      go_roundw
      case rel =>
        refine ⟨k + 1, by omega, by go_num, ?_, ?_, hbl6⟩
        · have h6 := H6.out
          rw [HSN.out]
          have e1 : (out ++ List.take (o1 - cp) (List.drop cp b) ++ dot o3).length = out.length + (o1 - cp) + 1 := by simp [dot]; omega
          have e2 : (out ++ List.take (o1 - cp) (List.drop cp b) ++ dot o3).map (fun b : UInt8 => Value.int .u8 (b.toNat : Int)) = out.map (fun b : UInt8 => Value.int .u8 (b.toNat : Int)) ++ List.take ((o1 - cp) * 1) (List.drop (cp * 1) (List.map (fun b : UInt8 => Value.int .u8 (b.toNat : Int)) b)) ++ [.int .u8 (0 : Int)] := by
            simp [dot, List.map_take, List.map_drop]
          simp only [e1, e2]
          exact h6
        · rw [HSN.out]; go_num
      case measure => simp [intOf]; omega
    · obtain rfl : k = os.length := by omega
      obtain ⟨out, cp, hst⟩ : ∃ out cp, replSt b dot (os.take os.length) = (out, cp) := ⟨_, _, rfl⟩
      rw [hst] at hlens hown
      rw [hst]
      rw [List.take_length] at hst
      simp only at hlens hown
      have HST := Lib.hid hst
      have HOWN := Lib.hid hown
      obtain ⟨hlen1, hlen2⟩ := hlens
      clear hst hown
      obtain ⟨As, cs, hsub, hrow⟩ := run_sub_from (P := Try.prog) (w := wr) (x := (cp : Int)) (kx := .i64) (lo := cp) Try.underlying22 (fun w => Try.sizeOf5 w) (HB.out.below hbl) hlen2 rfl
      have HROW := Lib.hid hrow
      clear hrow
      go_wp2_with (at_builtin; refine stop_here ?_)
      refine Lib.hid ?_
      refine wpList_app rfl rfl byteElem HOWN.out rfl HROW.out rfl (one_cells' _ _) (by omega) (by unfold maxLen; omega) hbl.size ?_
      intro A5 c5 w5 hown5 hg5 _
      have hbl5 := grown_below hbl HOWN.out hbl.size hg5
      have hby : Bytes w5 (.slice A5 (out.length + (b.length - cp)) c5) (out ++ b.drop cp) := by
        unfold Bytes
        rw [List.length_append, List.length_drop, List.map_append, List.map_drop]
        have := Row.of_own hown5
        simpa using this
      have hcv := run_str (P := Try.prog) hby 22 9 5 Try.underlying22 Try.underlying5 Try.underlying9
      obtain ⟨st, hst⟩ : ∃ st : ByteArray, st = ⟨(out ++ b.drop cp).toArray⟩ := ⟨_, rfl⟩
      rw [← hst] at hcv
      have HS2 := Lib.hid hst
      clear hst hown5 hg5 hby hsub
      go_wp2
      go_ret
      refine ⟨?_, hbl5⟩
      show Ending.returned (.string st) = _
      rw [HS2.out]
      unfold replL
      rw [HST.out]

theorem find_ok {b : List UInt8} {l : List (ByteArray × ByteArray)} {v1 v2 : Value} {w : World} (hok : namesB (l.map (·.1)) = true) (hb : Bytes w v1 b) (hn : Strs w v2 (l.map (·.1))) (hl : b.length ≤ 2000000) (hl2 : l.length ≤ 8) (hsz : ∀ s ∈ l, s.1.size ≤ 60 ∧ s.2.size ≤ 1100) :
    Calls Try.prog 19 #[v1, v2] w fun e w' => ∃ A c, e = .returned (.tuple #[.slice A (occs (namesOf l) b 0).length c, .int .i64 0]) ∧ Ranges w' (.slice A (occs (namesOf l) b 0).length c) (rangesOf (occs (namesOf l) b 0)) ∧ Below w.heap.size w w' := by
  refine (find_any b (l.map (·.1)) v1 v2 w hb hn hl (by rw [List.length_map]; omega) (fun s hs => by obtain ⟨p, hp, rfl⟩ := List.mem_map.1 hs; have := hsz p hp; omega)).mono ?_
  rintro e w' ⟨h1, -, hbl⟩
  obtain ⟨v, rfl, hv⟩ := h1 (by rw [tab_named]; exact hok)
  rw [namesOf_namedL, ← namesOf_fst] at hv
  have hv' := hv
  obtain ⟨A, c, rfl, -⟩ := hv'
  rw [show (rangesOf (occs (namesOf l) b 0)).length = (occs (namesOf l) b 0).length by simp [rangesOf]] at hv ⊢
  exact ⟨A, c, rfl, hv, hbl⟩
theorem outside_ok {names : List (List UInt8)} {b : List UInt8} {v1 v2 : Value} {w : World} (out : ByteArray) (ho : replL b dot (occs names b 0) = out.data.toList) (hb : Bytes w v1 b) (hr : Ranges w v2 (rangesOf (occs names b 0))) (hl : b.length ≤ 2000000) :
    Calls Try.prog 21 #[v1, v2] w fun e w' => e = .returned (.string out) ∧ Below w.heap.size w w' := by
  have h := outside_any names b v1 v2 w hb hr hl
  rw [ho] at h
  exact h

set_option maxHeartbeats 2000000 in
set_option maxRecDepth 100000 in
theorem keywordOutside_walk (b : List UInt8) (l : List (ByteArray × ByteArray)) (v0 v1 : Value) (W : World) (hb : Bytes W v0 b) (hn : Pairs W v1 l) (hsz : ∀ s ∈ l, s.1.size ≤ maxLen ∧ s.2.size ≤ maxLen) :
    Calls Try.prog 7 #[v0, v1] W fun e w' => e = .returned (.bool true) ∧ Below W.heap.size W w' := by
  have HL := Lib.hid (large_any b [] v0 _ W hb (Row.nil_ _ 1) (by simp))
  have HW := Lib.hid (words_any l v1 W hn hsz)
  have HB := Lib.hid hb
  have HN := Lib.hid hn
  obtain ⟨A0, c0, rfl, hc0, hm0, -⟩ := hb
  obtain ⟨A1, c1, rfl, hc1, hm1, -⟩ := hn
  clear hsz
  go_enter Try.func7, Try.ntmps7
  go_wp2_with fail
  refine HL.out.mono ?_
  cases hlg : largeB b []
  · obtain ⟨hb1, -, -⟩ := largeB_false hlg
    rintro e w1 ⟨rfl, rfl⟩
    cases hwg : wordsB l
    · obtain ⟨hb2, hb3⟩ := wordsB_false hwg
      rw [hwg] at HW
      have HB3 := Lib.hid hb3
      clear hlg hwg HL hb3
      go_wp2_with fail
      refine HW.out.mono ?_
      rintro e W1 ⟨rfl, hbW⟩
      clear HW
      cases hok : wordsOkB l
      · go_wp2_with fail
        refine (expand_no hok (HB.out.below hbW) (HN.out.below hbW) (by omega) hb2 HB3.out).mono ?_
        rintro e w2 ⟨rfl, hbl2⟩
        have hb2' := hbW.trans (hbl2.mono hbW.size)
        go_wp2_with fail
        refine (awake_any _).mono ?_
        rintro e w5 ⟨rfl, hbl5⟩
        go_wp2
        go_ret
        exact ⟨rfl, hb2'.trans (hbl5.mono hb2'.size)⟩
      · have HOK := Lib.hid hok
        have HNB := Lib.hid (ok_names hok)
        clear hok
        obtain ⟨X, hX⟩ : ∃ X, replL b (txtL l fun nm val => expText (nm, val)) (occs (namesOf l) b 0) = X := ⟨_, rfl⟩
        obtain ⟨C, hC⟩ : ∃ C, replL b (txtL (namedL (l.map (·.1))) fun nm _ => colText nm) (occs (namesOf l) b 0) = C := ⟨_, rfl⟩
        have hlet : ∀ nm ∈ namesOf l, ∀ c ∈ nm, letterB c.toNat = true := by rw [namesOf_fst]; exact words_letters HOK.out
        have hXl : X.length ≤ 2000000 := by rw [← hX]; exact exp_len hb1 HB3.out
        have hCl : C.length ≤ 2000000 := by rw [← hC]; exact coll_len _ hb1 (fun s hs => by obtain ⟨p, hp, rfl⟩ := List.mem_map.1 hs; exact (HB3.out p hp).1)
        obtain ⟨S, hS⟩ : ∃ S : ByteArray, replL b dot (occs (namesOf l) b 0) = S.data.toList := ⟨⟨(replL b dot (occs (namesOf l) b 0)).toArray⟩, rfl⟩
        have hXS : replL X dot (occs (namesOf l) X 0) = S.data.toList := by rw [← hX, repl_again (good_exp HOK.out), hS]
        have hCS : replL C dot (occs (namesOf l) C 0) = S.data.toList := by rw [← hC, repl_again (good_coll _ hlet), hS]
        have hXn : (occs (namesOf l) X 0).length = (occs (namesOf l) b 0).length := by rw [← hX]; exact occs_again (good_exp HOK.out) b
        have hCn : (occs (namesOf l) C 0).length = (occs (namesOf l) b 0).length := by rw [← hC]; exact occs_again (good_coll _ hlet) b
        have hbn := occs_length (namesOf l) b 0
        obtain ⟨n, hne⟩ : ∃ n, (occs (namesOf l) b 0).length = n := ⟨_, rfl⟩
        rw [hne] at hXn hCn hbn
        have HX := Lib.hid hX
        have HCc := Lib.hid hC
        have HS := Lib.hid hS
        have HXS := Lib.hid hXS
        have HCS := Lib.hid hCS
        have HXN := Lib.hid hXn
        have HCN := Lib.hid hCn
        have HBN := Lib.hid hne
        clear hX hC hS hXS hCS hXn hCn hne hlet
        go_wp2_with fail
        refine (expand_ok X HX.out HOK.out (HB.out.below hbW) (HN.out.below hbW) (by omega) hb2 HB3.out).mono ?_
        rintro e w2 ⟨Ax, cx, rfl, hx, hbl2⟩
        have HBX := Lib.hid hx
        clear hx
        have hq2 := hbW.trans (hbl2.mono hbW.size)
        go_wp2_with fail
        refine (names_any l _ _ (HN.out.below hq2) (by omega)).mono ?_
        rintro e w3 ⟨v3, rfl, hs3, hbl3⟩
        have hq3 := hq2.trans (hbl3.mono hq2.size)
        have HCO := Lib.hid (collapse_ok C HCc.out HNB.out (HB.out.below hq3) hs3 (by omega) hb2 HB3.out)
        obtain ⟨A3, c3, rfl, -⟩ := hs3
        rw [List.length_map] at HCO
        go_wp2_with fail
        refine HCO.out.mono ?_
        rintro e w4 ⟨Ac, cc, rfl, hc, hbl4⟩
        have HBC := Lib.hid hc
        clear hc HCO
        have hq4 := hq3.trans (hbl4.mono hq3.size)
        -- the places in b
        go_wp2_with fail
        refine (names_any l _ _ (HN.out.below hq4) (by omega)).mono ?_
        rintro e w5 ⟨v5, rfl, hs5, hbl5⟩
        have hq5 := hq4.trans (hbl5.mono hq4.size)
        have HCO := Lib.hid (find_ok HNB.out (HB.out.below hq5) hs5 (by omega) hb2 HB3.out)
        obtain ⟨A5, c5, rfl, -⟩ := hs5
        rw [List.length_map, HBN.out] at HCO
        go_wp2_with fail
        refine HCO.out.mono ?_
        rintro e w6 ⟨Ap, cp, rfl, hp, hbl6⟩
        have HBP := Lib.hid hp
        clear hp HCO
        have hq6 := hq5.trans (hbl6.mono hq5.size)
        have HX6 := Lib.hid ((((HBX.out.below hbl3).below hbl4).below hbl5).below hbl6)
        have HC6 := Lib.hid ((HBC.out.below hbl5).below hbl6)
        clear HBX HBC
        -- in x
        go_wp2_with fail
        refine (names_any l _ _ (HN.out.below hq6) (by omega)).mono ?_
        rintro e w7 ⟨v7, rfl, hs7, hbl7⟩
        have hq7 := hq6.trans (hbl7.mono hq6.size)
        have HCO := Lib.hid (find_ok HNB.out (HX6.out.below hbl7) hs7 hXl hb2 HB3.out)
        obtain ⟨A7, c7, rfl, -⟩ := hs7
        rw [List.length_map, HXN.out] at HCO
        go_wp2_with fail
        refine HCO.out.mono ?_
        rintro e w8 ⟨Aq, cq, rfl, hq, hbl8⟩
        have HBQ := Lib.hid hq
        clear hq HCO
        have hq8 := hq7.trans (hbl8.mono hq7.size)
        -- in c
        go_wp2_with fail
        refine (names_any l _ _ (HN.out.below hq8) (by omega)).mono ?_
        rintro e w9 ⟨v9, rfl, hs9, hbl9⟩
        have hq9 := hq8.trans (hbl9.mono hq8.size)
        have HCO := Lib.hid (find_ok HNB.out (((HC6.out.below hbl7).below hbl8).below hbl9) hs9 hCl hb2 HB3.out)
        obtain ⟨A9, c9, rfl, -⟩ := hs9
        rw [List.length_map, HCN.out] at HCO
        go_wp2_with fail
        refine HCO.out.mono ?_
        rintro e w10 ⟨Ar, cr, rfl, hr, hbl10⟩
        have hq10 := hq9.trans (hbl10.mono hq9.size)
        have HBR := Lib.hid hr
        clear hr HCO
        have HB10 := Lib.hid (HB.out.below hq10)
        have HX10 := Lib.hid ((((HX6.out.below hbl7).below hbl8).below hbl9).below hbl10)
        have HC10 := Lib.hid ((((HC6.out.below hbl7).below hbl8).below hbl9).below hbl10)
        have HP10 := Lib.hid ((((HBP.out.below hbl7).below hbl8).below hbl9).below hbl10)
        have HQ10 := Lib.hid ((HBQ.out.below hbl9).below hbl10)
        clear HX6 HC6 HBP HBQ
        go_wp2_with fail
        refine (outside_ok S HS.out HB10.out HP10.out (by omega)).mono ?_
        rintro e w11 ⟨rfl, hbl11⟩
        have hq11 := hq10.trans (hbl11.mono hq10.size)
        go_wp2_with fail
        refine (outside_ok S HXS.out (HX10.out.below hbl11) (HQ10.out.below hbl11) hXl).mono ?_
        rintro e w12 ⟨rfl, hbl12⟩
        have hq12 := hq11.trans (hbl12.mono hq11.size)
        go_wp2_with fail
        refine (outside_ok S HCS.out ((HC10.out.below hbl11).below hbl12) ((HBR.out.below hbl11).below hbl12) hCl).mono ?_
        rintro e w13 ⟨rfl, hbl13⟩
        have hq13 := hq12.trans (hbl13.mono hq12.size)
        go_wp2_with fail
        refine (awake_any _).mono ?_
        rintro e w14 ⟨rfl, hbl14⟩
        go_wp2
        go_ret
        exact ⟨rfl, hq13.trans (hbl14.mono hq13.size)⟩
    · rw [hwg] at HW
      go_wp2_with fail
      refine HW.out.mono ?_
      rintro e W1 ⟨rfl, hbW⟩
      go_wp2_with fail
      refine (awake_any _).mono ?_
      rintro e w2 ⟨rfl, hbl2⟩
      go_wp2
      go_ret
      exact ⟨rfl, hbW.trans (hbl2.mono hbW.size)⟩
  · rintro e w1 ⟨rfl, rfl⟩
    go_wp2_with fail
    refine (awake_any _).mono ?_
    rintro e w2 ⟨rfl, hbl2⟩
    go_wp2
    go_ret
    exact ⟨rfl, hbl2⟩

end Go.Proofs.Ytajlckioogalbaa
