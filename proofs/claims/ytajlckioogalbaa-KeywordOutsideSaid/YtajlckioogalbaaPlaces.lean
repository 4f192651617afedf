/- The walk of KeywordPlaces, and what it needs of lists. -/
import Derived.Test.YtajlckioogalbaaOpen
import Derived.Test.YtajlckioogalbaaScan2
namespace Go.Proofs.Ytajlckioogalbaa
open Go.RowKit

theorem takeWhile_all {α : Type} {p : α → Bool} {l r : List α} {c : α} (hl : ∀ x ∈ l, p x = true) (hc : p c = false) : (l ++ c :: r).takeWhile p = l := by
  induction l with
  | nil => simp [hc]
  | cons y l ih =>
    simp only [List.cons_append, List.takeWhile_cons, hl y (by simp), if_true]
    rw [ih (fun x hx => hl x (by simp [hx]))]

theorem occs_place (before after nm : List UInt8) (h36 : ∀ c ∈ before, c.toNat ≠ 36) (hn : nm.all (fun c => letterB c.toNat) = true) :
    ∃ rest, occs [nm] (before ++ (36 :: nm ++ [36]) ++ after) 0 = (before.length, before.length + nm.length + 1, nm) :: rest := by
  obtain ⟨b, hb⟩ : ∃ b, b = before ++ (36 :: nm ++ [36]) ++ after := ⟨_, rfl⟩
  have hb' : b = before ++ 36 :: (nm ++ 36 :: after) := by rw [hb]; simp
  rw [← hb]
  have hlen : b.length = before.length + 2 + nm.length + after.length := by rw [hb]; simp; omega
  have hat : b[before.length]? = some 36 := by rw [hb', List.getElem?_append_right (Nat.le_refl _)]; simp
  have hd1 : b.drop (before.length + 1) = nm ++ 36 :: after := by
    rw [hb', List.drop_append, List.drop_of_length_le (by omega)]; simp
  have hte : (b.drop (before.length + 1)).takeWhile (fun c => letterB c.toNat) = nm := by
    rw [hd1]
    exact takeWhile_all (fun x hx => by simpa using List.all_eq_true.1 hn x hx) (by decide)
  have hend : endNameL b (before.length + 1) = before.length + 1 + nm.length := by unfold endNameL; rw [hte]
  have hname : nameAt b before.length = nm := by unfold nameAt; rw [endNameL_take]; exact hte
  have h2 : b[before.length + 1 + nm.length]? = some 36 := by
    have : b[before.length + 1 + nm.length]? = (b.drop (before.length + 1))[nm.length]? := by rw [List.getElem?_drop]
    rw [this, hd1, List.getElem?_append_right (Nat.le_refl _)]; simp
  have hocc : occAt b (before.length + 1 + nm.length) = before.length + 1 + nm.length := by unfold occAt; rw [h2]; simp
  have hst : stepAt [nm] b before.length = some (before.length + 1 + nm.length + 1) := by
    unfold stepAt
    rw [hname, hend, hocc, if_pos]
    refine ⟨by simp, ?_⟩
    unfold occOk
    rw [hocc, h2]; rfl
  have hsk := occs_skip [nm] b 0 before.length (by omega) (fun i hi => by
    rw [Nat.zero_add, hb', List.getElem?_append_left hi, List.getElem?_eq_getElem hi]
    intro h
    injection h with h
    exact h36 before[i] (by simp) (by rw [h]; rfl))
  rw [hsk, Nat.zero_add, occs_some _ _ _ _ (by omega) hat hst, hname]
  refine ⟨occs [nm] b (before.length + 1 + nm.length + 1), ?_⟩
  rw [show before.length + 1 + nm.length + 1 - 1 = before.length + nm.length + 1 by omega]

theorem name_all {s : ByteArray} (h : nameS s = true) : s.data.toList.all (fun c => letterB c.toNat) = true := by
  unfold nameS nameB at h
  simp only [Bool.and_eq_true] at h
  exact h.1
theorem tab_one {s : ByteArray} (h : nameS s = true) : tabB (namedL [s]) = true := by
  unfold tabB namedL wordB namesOf
  simp [h]
  decide

set_option maxHeartbeats 2000000 in
set_option maxRecDepth 100000 in
theorem keywordPlaces_walk (b0 b1 : List UInt8) (nm : ByteArray) (v0 v1 : Value) (W : World) (hb0 : Bytes W v0 b0) (hb1 : Bytes W v1 b1) (hsz : nm.size ≤ maxLen) :
    Calls Try.prog 6 #[v0, v1, .string nm] W fun e w' => e = .returned (.bool true) ∧ Below W.heap.size W w' := by
  have HB0 := Lib.hid hb0
  have HB1 := Lib.hid hb1
  obtain ⟨A0, c0, rfl, hc0, hm0, -⟩ := hb0
  obtain ⟨A1, c1, rfl, hc1, hm1, -⟩ := hb1
  have hm0' : b0.length ≤ 9223372036854775807 := by unfold maxLen at hm0; omega
  go_enter Try.func6, Try.ntmps6
  go_wp2
  go_loop [14] (fun i => ∃ k : Nat, k ≤ b0.length ∧ i = .int .i64 k ∧ ∀ c ∈ b0.take k, c.toNat ≠ 36) (fun i => b0.length - (intOf i).toNat)
  case atStart => exact ⟨0, Nat.zero_le _, rfl, by simp⟩
  case round =>
    obtain ⟨k, hk, rfl, hall⟩ := hrel
    have HA := Lib.hid hall
    clear hall
    by_cases hlt : k < b0.length
    · obtain ⟨ad, rfl, -, hcell⟩ := HB0.out.at_ hlt
      cases h36 : ((b0[k].toNat : Int) == 36)
      · have H36 := Lib.hid h36
        go_wp2
        go_round
        case rel =>
          refine ⟨k + 1, by omega, by go_num, ?_⟩
          intro c hc
          rw [List.take_succ_eq_append_getElem hlt, List.mem_append] at hc
          rcases hc with hc | hc
          · exact HA.out c hc
          · have := H36.out; simp at hc; subst hc; simp at this; omega
        case measure => simp [intOf]; omega
      · go_wp2_with fail
        refine (awake_any _).mono ?_
        rintro e w2 ⟨rfl, hbl2⟩
        go_wp2
        go_ret
        exact ⟨rfl, hbl2⟩
    · have hno : ∀ c ∈ b0, c.toNat ≠ 36 := by have := HA.out; rwa [List.take_of_length_le (by omega)] at this
      have HNO := Lib.hid hno
      clear hno
      have hst : Strs (W.alloc (.cells #[.string nm] 9)) (.slice (some ⟨W.heap.size, 0, none⟩) 1 1) [nm] := row_new W [.string nm] 9 1 1 rfl (by decide) _ rfl
      have hbl1 : Below W.heap.size W (W.alloc (.cells #[.string nm] 9)) := (Below.refl _ _).alloc (Nat.le_refl _) _
      have HL0 := Lib.hid (large_any b0 [nm] _ _ _ (HB0.out.below hbl1) hst (by intro s hs; simp at hs; subst hs; exact hsz))
      have HL1 := Lib.hid (large_any b1 [] _ _ _ (HB1.out.below hbl1) (Row.nil_ _ 1) (by simp))
      clear hst
      cases hg0 : largeB b0 [nm]
      · cases hg1 : largeB b1 []
        · have q0 : b0.length ≤ 1500 ∧ nm.size ≤ 60 := by
            unfold largeB at hg0
            simp at hg0; omega
          have q1 : b1.length ≤ 1500 := by unfold largeB at hg1; simp at hg1; omega
          obtain ⟨q0, qn⟩ := q0
          rw [hg0] at HL0
          rw [hg1] at HL1
          have HR := Lib.hid (refName_any nm (W.alloc (.cells #[.string nm] 9)) (by omega))
          cases hnm : nameS nm
          · rw [hnm] at HR
            go_wp2_with fail
            refine HL0.out.mono ?_
            rintro e w2 ⟨rfl, rfl⟩
            go_wp2_with fail
            refine HL1.out.mono ?_
            rintro e w2 ⟨rfl, rfl⟩
            go_wp2_with fail
            refine HR.out.mono ?_
            rintro e w3 ⟨rfl, hbl3⟩
            go_wp2_with fail
            refine (awake_any _).mono ?_
            rintro e w2 ⟨rfl, hbl2⟩
            go_wp2
            go_ret
            have h13 := hbl1.trans (hbl3.mono hbl1.size)
            exact ⟨rfl, h13.trans (hbl2.mono h13.size)⟩
          · rw [hnm] at HR
            go_wp2_with fail
            refine HL0.out.mono ?_
            rintro e w2 ⟨rfl, rfl⟩
            go_wp2_with fail
            refine HL1.out.mono ?_
            rintro e w2 ⟨rfl, rfl⟩
            go_wp2_with fail
            refine HR.out.mono ?_
            rintro e w3 ⟨rfl, hbl3⟩
            have h13 := hbl1.trans (hbl3.mono hbl1.size)
            have hone : ∀ (l : List UInt8), ∀ u ∈ l.map (fun b : UInt8 => Value.int .u8 (b.toNat : Int)), u.oneCell' = true := by
              intro l u hu
              rw [List.mem_map] at hu
              obtain ⟨_, _, rfl⟩ := hu
              rfl
            have HONE := Lib.hid hone
            clear hone
            have hcs := colText_size nm
            have HCS := Lib.hid hcs
            clear hcs
            go_wp2_with (at_builtin; refine stop_here ?_)
            refine Lib.hid ?_
            refine wpList_app (base := W.heap.size) (n := 0) (xs := []) rfl rfl byteElem (World.ownsRow_nil w3 W.heap.size 5 1) rfl (HB0.out.below h13) rfl (HONE.out _) (by omega) (by unfold maxLen; omega) h13.size ?_
            intro A5 c5 w5 hown5 hg5 _
            have hbl5 := grown_below h13 (World.ownsRow_nil w3 W.heap.size 5 1) h13.size hg5
            rw [Nat.zero_add, List.nil_append] at hown5
            rw [Nat.zero_add]
            go_wp2_with (at_builtin; refine stop_here ?_)
            refine Lib.hid ?_
            refine wpList_app_str rfl rfl Try.underlying9 Try.underlying22 byteInfo hown5 rfl (colText nm) rfl (by rw [HCS.out]; omega) hbl5.size ?_
            intro A6 c6 w6 hown6 hg6
            have hbl6 := grown_below hbl5 hown5 hbl5.size hg6
            go_wp2_with (at_builtin; refine stop_here ?_)
            refine Lib.hid ?_
            refine wpList_app rfl rfl byteElem hown6 rfl (HB1.out.below hbl6) rfl (HONE.out _) (by rw [HCS.out]; omega) (by unfold maxLen; rw [HCS.out]; omega) hbl6.size ?_
            intro A7 c7 w7 hown7 hg7 _
            have hbl7 := grown_below hbl6 hown6 hbl6.size hg7
            have hcd : (colText nm).data.toList = 36 :: nm.data.toList ++ [36] := by simp [colText]
            have hbig : Bytes w7 (.slice A7 (b0.length + (colText nm).size + b1.length) c7) (b0 ++ (36 :: nm.data.toList ++ [36]) ++ b1) := by
              have h := Row.of_own hown7
              unfold Bytes
              rw [List.map_append, List.map_append, ← hcd, List.length_append, List.length_append]
              exact h
            have hbig2 := hbig.alloc (.cells #[.string nm] 9)
            have hst2 : Strs (w7.alloc (.cells #[.string nm] 9)) (.slice (some ⟨w7.heap.size, 0, none⟩) 1 1) [nm] := row_new w7 [.string nm] 9 1 1 rfl (by decide) _ rfl
            have hbl8 := hbl7.alloc hbl7.size (.cells #[.string nm] 9)
            have HFI := Lib.hid (find_any _ [nm] _ _ _ hbig2 hst2 (by simp only [List.length_append, List.length_cons, List.length_nil]; have : nm.data.toList.length = nm.size := rfl; omega) (by simp) (by intro s hs; simp at hs; subst hs; omega))
            clear hown5 hown6 hown7 hg5 hg6 hg7 hbig hbig2 hst2
            have HBL8 := Lib.hid hbl8
            clear hbl8
            go_wp2_with fail
            refine HFI.out.mono ?_
            rintro e w8 ⟨h1, -, hb8⟩
            obtain ⟨vr, rfl, hr⟩ := h1 (tab_one hnm)
            clear h1
            obtain ⟨rest, hocc⟩ := occs_place b0 b1 nm.data.toList HNO.out (name_all hnm)
            have hnn : namesOf (namedL [nm]) = [nm.data.toList] := rfl
            rw [hnn, hocc] at hr
            have hrr : rangesOf ((b0.length, b0.length + nm.data.toList.length + 1, nm.data.toList) :: rest) = (b0.length, b0.length + nm.size + 1) :: rangesOf rest := rfl
            rw [hrr] at hr
            clear hocc hnn hrr
            have hbl9 := HBL8.out.trans (hb8.mono HBL8.out.size)
            have HBL9 := Lib.hid hbl9
            obtain ⟨Ar, cr, rfl, hcr, hmr, -⟩ := id hr
            obtain ⟨adr, rfl, -, hr0, hr1⟩ := Ranges.at_ (k := 0) hr (by simp)
            simp only [List.getElem_cons_zero, Nat.zero_mul] at hr0 hr1
            have e0 : adr.add 0 = adr := by simp [Addr.add]
            rw [e0] at hr0 hr1
            have hrl : (rangesOf rest).length < cr := by simp at hcr; omega
            clear hr hb8 hbl9 e0 HFI HL0 HL1 HR HBL8
            simp only [List.length_cons]
            go_wp2_with fail
            refine (awake_any _).mono ?_
            rintro e w2 ⟨rfl, hbl2⟩
            go_wp2
            go_ret
            exact ⟨rfl, HBL9.out.trans (hbl2.mono HBL9.out.size)⟩
        · rw [hg0] at HL0
          rw [hg1] at HL1
          go_wp2_with fail
          refine HL0.out.mono ?_
          rintro e w2 ⟨rfl, rfl⟩
          go_wp2_with fail
          refine HL1.out.mono ?_
          rintro e w2 ⟨rfl, rfl⟩
          go_wp2_with fail
          refine (awake_any _).mono ?_
          rintro e w2 ⟨rfl, hbl2⟩
          go_wp2
          go_ret
          exact ⟨rfl, hbl1.trans (hbl2.mono hbl1.size)⟩
      · rw [hg0] at HL0
        go_wp2_with fail
        refine HL0.out.mono ?_
        rintro e w2 ⟨rfl, rfl⟩
        go_wp2_with fail
        refine (awake_any _).mono ?_
        rintro e w2 ⟨rfl, hbl2⟩
        go_wp2
        go_ret
        exact ⟨rfl, hbl1.trans (hbl2.mono hbl1.size)⟩

end Go.Proofs.Ytajlckioogalbaa
