/- The walk of KeywordOccurs. -/
import Derived.Test.YtajlckioogalbaaOpen
import Derived.Test.YtajlckioogalbaaScan2
namespace Go.Proofs.Ytajlckioogalbaa
open Go.RowKit

theorem largeB_false {b : List UInt8} {l : List ByteArray} (h : largeB b l = false) : b.length ≤ 1500 ∧ l.length ≤ 8 ∧ ∀ s ∈ l, s.size ≤ 60 := by
  unfold largeB at h
  simp only [Bool.or_eq_false_iff, decide_eq_false_iff_not, List.any_eq_false, decide_eq_true_eq] at h
  exact ⟨by omega, by omega, fun s hs => by have := h.1 s hs; omega⟩
theorem namesOf_named (l : List ByteArray) : namesOf (namedL l) = l.map fun s => s.data.toList := by simp [namesOf, namedL]
theorem tabB_ne {l : List (ByteArray × ByteArray)} (h : tabB l = true) : ∀ n ∈ namesOf l, n ≠ [] := by
  unfold tabB at h
  simp only [Bool.and_eq_true, List.all_eq_true] at h
  intro n hn
  unfold namesOf at hn
  rw [List.mem_map] at hn
  obtain ⟨p, hp, rfl⟩ := hn
  have := h.1 p hp
  unfold wordB nameS nameB at this
  simp only [Bool.and_eq_true, decide_eq_true_eq] at this
  intro h0
  rw [h0] at this
  simp at this

/-- A name of the list stands at the head of a body. -/
def headsB (body : List UInt8) (s : ByteArray) : Bool := decide (s.size ≤ body.length) && (body.take s.size == s.data.toList) && (decide (body.length = s.size) || (body[s.size]? == some 58))

theorem occ_named (l : List ByteArray) (b : List UInt8) (pre rest : List Occ) (x : Occ) (h : occs (namesOf (namedL l)) b 0 = pre ++ x :: rest) : l.any (headsB (bodyOf b x)) = true := by
  obtain ⟨_, _, hin, _, hb⟩ := occ_props _ b pre rest x h
  rw [namesOf_named, List.mem_map] at hin
  obtain ⟨s, hs, he⟩ := hin
  rw [List.any_eq_true]
  refine ⟨s, hs, ?_⟩
  have hsz : s.size = s.data.toList.length := rfl
  unfold headsB
  rw [← he] at hb
  rcases hb with hb | ⟨t, hb, _⟩
  · rw [hb, hsz, List.take_length]; simp
  · rw [hb, hsz, List.take_left' rfl]; simp

theorem ext_take (bs : ByteArray) (n : Nat) : (bs.extract 0 n).toList = bs.data.toList.take n := by
  rw [ByteArray.toList_eq, ByteArray.data_extract]
  simp [Array.toList_extract]
/-- The test of the statement, in the walk's words. -/
theorem heads_no1 {bs s : ByteArray} {body : List UInt8} (hb : bs.data.toList = body) (h : ¬ s.size ≤ bs.size) : headsB body s = false := by
  have hz : bs.size = body.length := by rw [← hb]; rfl
  unfold headsB
  rw [show decide (s.size ≤ body.length) = false by simp; omega]; rfl
theorem heads_no2 {bs s : ByteArray} {body : List UInt8} (hb : bs.data.toList = body) (h : ((bs.extract 0 s.size).toList == s.toList) = false) : headsB body s = false := by
  rw [ext_take, hb, ByteArray.toList_eq] at h
  unfold headsB
  rw [h]; simp
theorem heads_yes1 {bs s : ByteArray} {body : List UInt8} (hb : bs.data.toList = body) (h2 : ((bs.extract 0 s.size).toList == s.toList) = true) (h3 : ((bs.size : Int) == (s.size : Int)) = true) : headsB body s = true := by
  have hz : bs.size = body.length := by rw [← hb]; rfl
  rw [ext_take, hb, ByteArray.toList_eq] at h2
  unfold headsB
  rw [h2]
  simp at h3 ⊢
  omega
theorem heads_34 {bs s : ByteArray} {body : List UInt8} (hb : bs.data.toList = body) (h1 : s.size < bs.size) (h2 : ((bs.extract 0 s.size).toList == s.toList) = true) : headsB body s = ((bs[s.size].toNat : Int) == 58) := by
  have hz : bs.size = body.length := by rw [← hb]; rfl
  rw [ext_take, hb, ByteArray.toList_eq] at h2
  have hg : body[s.size]? = some bs[s.size] := by
    subst hb
    rw [List.getElem?_eq_getElem (by simpa using h1)]
    rfl
  unfold headsB
  rw [h2, hg, show decide (s.size ≤ body.length) = true by simp; omega, show decide (body.length = s.size) = false by simp; omega, Bool.eq_iff_iff]
  simp
  exact ⟨fun h => by rw [h]; rfl, fun h => UInt8.toNat.inj (by simpa using (by omega : bs[s.size].toNat = 58))⟩

set_option maxHeartbeats 2000000 in
set_option maxRecDepth 100000 in
theorem keywordOccurs_walk (b : List UInt8) (l : List ByteArray) (v0 v1 : Value) (W : World) (hb : Bytes W v0 b) (hn : Strs W v1 l) (hsz : ∀ s ∈ l, s.size ≤ maxLen) :
    Calls Try.prog 5 #[v0, v1] W fun e w' => e = .returned (.bool true) ∧ Below W.heap.size W w' := by
  have HL := Lib.hid (large_any b l v0 v1 W hb hn hsz)
  have HB := Lib.hid hb
  have HN := Lib.hid hn
  obtain ⟨A0, c0, rfl, hc0, hm0, -⟩ := hb
  obtain ⟨A1, c1, rfl, hc1, hm1, -⟩ := hn
  clear hsz
  go_enter Try.func5, Try.ntmps5
  go_wp2_with fail
  refine HL.out.mono ?_
  cases hlg : largeB b l
  · obtain ⟨hb1, hb2, hb3⟩ := largeB_false hlg
    rintro e w1 ⟨rfl, rfl⟩
    have HF := Lib.hid (find_any b l _ _ W HB.out HN.out (by omega) (by omega) (fun s hs => by have := hb3 s hs; omega))
    have HB3 := Lib.hid hb3
    clear hlg HL hb3
    go_wp2_with fail
    refine HF.out.mono ?_
    cases htab : tabB (namedL l)
    · rintro e w1 ⟨-, h2, hbl⟩
      obtain rfl := h2 htab
      clear h2
      go_wp2_with fail
      refine (awake_any _).mono ?_
      rintro e w2 ⟨rfl, hbl2⟩
      go_wp2
      go_ret
      exact ⟨rfl, hbl.trans (hbl2.mono hbl.size)⟩
    · rintro e w1 ⟨h1, -, hbl⟩
      obtain ⟨vr, rfl, hr⟩ := h1 htab
      have HNE := Lib.hid (tabB_ne htab)
      clear h1 htab HF
      obtain ⟨xs, hxs⟩ : ∃ xs, occs (namesOf (namedL l)) b 0 = xs := ⟨_, rfl⟩
      have hxl : xs.length ≤ b.length := by rw [← hxs]; exact occs_length _ _ _
      rw [hxs] at hr
      have HXS := Lib.hid hxs
      have HR := Lib.hid hr
      clear hxs
      obtain ⟨Ar, cr, rfl, hcr, hmr, -⟩ := hr
      have hrl : (rangesOf xs).length = xs.length := by simp [rangesOf]
      rw [hrl] at hcr HR
      go_wp2
      go_loopw [7, 32] (fun at_ i wr => ∃ k : Nat, k ≤ xs.length ∧ i = .int .i64 k ∧ at_ = .int .i64 (behind (xs.take k) : Nat) ∧ Below W.heap.size W wr ∧ Below w1.heap.size w1 wr) (fun _ i _ => xs.length - (intOf i).toNat)
      case atStart => exact ⟨0, Nat.zero_le _, rfl, rfl, hbl, Below.refl _ _⟩
      case round =>
        obtain ⟨k, hk, rfl, rfl, hbw, hbw1⟩ := hrel
        by_cases hlt : k < xs.length
        · obtain ⟨x, hx⟩ : ∃ x, xs[k] = x := ⟨_, rfl⟩
          have hsplit : occs (namesOf (namedL l)) b 0 = xs.take k ++ x :: xs.drop (k + 1) := by
            rw [HXS.out, ← hx, ← List.drop_eq_getElem_cons hlt, List.take_append_drop]
          obtain ⟨o1, o2, o3, o4⟩ := occ_order _ b _ _ x hsplit HNE.out
          obtain ⟨p1, p2, -⟩ := occ_props _ b _ _ x hsplit
          have HOK := Lib.hid (occ_body_ok _ b _ _ x hsplit)
          have HNM := Lib.hid (occ_named l b _ _ x hsplit)
          have HBH : Hid (behind (xs.take (k + 1)) = x.2.1 + 1) := Lib.hid (by rw [List.take_succ_eq_append_getElem hlt, behind_snoc, hx])
          clear hsplit
          have hkr : k < (rangesOf xs).length := by rw [hrl]; exact hlt
          obtain ⟨ad, hAr, -, hr0, hr1⟩ := Ranges.at_ (l := rangesOf xs) (k := k) (A := Ar) (c := cr) (by rw [hrl]; exact HR.out.below hbw1) hkr
          have hrk : (rangesOf xs)[k] = (x.1, x.2.1) := by simp [rangesOf, hx]
          rw [hrk] at hr0 hr1
          simp only at hr0 hr1
          subst hAr
          have hb3 := HB.out.below hbw
          obtain ⟨ad0, rfl, -, hb1c⟩ := hb3.at_ (show x.1 < b.length by omega)
          obtain ⟨ad0', e0, -, hb2c⟩ := hb3.at_ o3
          obtain rfl : ad0 = ad0' := by simpa using e0
          clear e0
          have e1 : b[x.1] = 36 := by rw [List.getElem?_eq_getElem (by omega)] at p1; injection p1
          have e2 : b[x.2.1] = 36 := by rw [List.getElem?_eq_getElem o3] at p2; injection p2
          rw [e1] at hb1c
          rw [e2] at hb2c
          obtain ⟨wa, hwa⟩ : ∃ wa, wa = wr.alloc (.cells #[.int .i64 (x.1 : Nat), .int .i64 (x.2.1 : Nat)] 41) := ⟨_, rfl⟩
          have hbl_a : Below W.heap.size W wa := by rw [hwa]; exact hbw.alloc hbw.size _
          have hbl_a1 : Below w1.heap.size w1 wa := by rw [hwa]; exact hbw1.alloc hbw1.size _
          have hba : Bytes wa (.slice (some ad0) b.length c0) b := by rw [hwa]; exact hb3.alloc _
          have hcl1 : wa.cell? (ad0.add x.1) = some (.int .u8 36) := by rw [hwa]; exact cell_alloc hb1c _
          have hcl2 : wa.cell? (ad0.add x.2.1) = some (.int .u8 36) := by rw [hwa]; exact cell_alloc hb2c _
          obtain ⟨A2, c2, hsub, hrow2⟩ := run_sub (P := Try.prog) (w := wa) (x := (x.1 : Nat) + 1) (y := (x.2.1 : Nat)) (kx := .i64) (ky := .i64) (lo := x.1 + 1) (hi := x.2.1) Try.underlying22 (fun w => Try.sizeOf5 w) hba (by omega) (by omega) (by omega) rfl
          have hbody := Bytes.of_row hrow2 (by omega)
          rw [show List.take (x.2.1 - (x.1 + 1)) (List.drop (x.1 + 1) b) = bodyOf b x from rfl] at hbody
          obtain ⟨bs, hbs⟩ : ∃ bs : ByteArray, bs = ⟨(bodyOf b x).toArray⟩ := ⟨_, rfl⟩
          have hbl : bs.data.toList = bodyOf b x := by rw [hbs]
          have hbz : bs.size = x.2.1 - (x.1 + 1) := by rw [← o4, ← hbl]; rfl
          have hcv : (convert 22 9 (.slice A2 (x.2.1 - (x.1 + 1)) c2)).run Try.prog wa = .ok (.string bs) wa := by
            rw [hbs]; exact run_str hbody 22 9 5 Try.underlying22 Try.underlying5 Try.underlying9
          have hcv2 := run_cvt (P := Try.prog) wa 9 22 5 bs Try.underlying9 Try.underlying22 Try.underlying5
          have hwB := cvt_bytes wa bs 5 (by unfold maxLen; omega)
          have hwb := cvt_below wa bs 5
          have hbw2 := hbl_a.trans (hwb.mono hbl_a.size)
          have hbw12 := hbl_a1.trans (hwb.mono hbl_a1.size)
          obtain ⟨ca, hca⟩ : ∃ ca, cvtA wa = ca := ⟨_, rfl⟩
          obtain ⟨cc, hcc⟩ : ∃ cc, cvtCap wa bs 5 = cc := ⟨_, rfl⟩
          obtain ⟨wc, hwc⟩ : ∃ wc, cvtW wa bs 5 = wc := ⟨_, rfl⟩
          rw [hca, hcc, hwc] at hcv2
          rw [hca, hcc, hwc] at hwB
          rw [hwc] at hbw2 hbw12
          have hl1 : wc.cell? ⟨wr.heap.size, 0, none⟩ = some (.int .i64 (x.1 : Nat)) ∧ wc.cell? ⟨wr.heap.size, 1, none⟩ = some (.int .i64 (x.2.1 : Nat)) := by
            rw [hwc] at hwb
            have hB := blk_new wr [.int .i64 (x.1 : Nat), .int .i64 (x.2.1 : Nat)] 41
            rw [← hwa] at hB
            have hB2 := hB.below hwb hB.lt
            exact ⟨hB2.cell 0, hB2.cell 1⟩
          obtain ⟨hl1, hl2⟩ := hl1
          have HOK2 : Hid (∀ j (h : j < bs.data.toList.length), bs.data.toList[j].toNat ≠ 36 ∧ bs.data.toList[j].toNat ≠ 10) := Lib.hid (fun j h => by
            have := HOK.out bs.data.toList[j] (by rw [← hbl]; exact List.getElem_mem h)
            simp at this; exact this)
          have HWB := Lib.hid hwB
          have HBS := Lib.hid hbl
          have HBZ := Lib.hid hbz
          have hbz' : bs.size ≤ 1500 := by omega
          have hstr := HN.out.below hbw2
          have HSTR := Lib.hid hstr
          subst hwa
          clear hbs hbl hbz hwB hbody hrow2 hba hca hcc hwc hwb hstr hbl_a hbl_a1 hx hrk p1 p2 hb1c hb2c HOK HNE hkr
          go_wp2
          go_loop [82] (fun i => ∃ j : Nat, j ≤ bs.size ∧ i = .int .i64 j) (fun i => bs.size - (intOf i).toNat)
          case atStart => exact ⟨0, Nat.zero_le _, rfl⟩
          case round =>
            obtain ⟨j, hj, rfl⟩ := hrel
            by_cases hjl : j < bs.size
            · obtain ⟨ad', e, -, hcell⟩ := HWB.out.at_ (k := j) hjl
              obtain rfl : ca = ad' := by simpa using e
              clear e
              have n1 : ((bs.data[j].toNat : Int) == 36) = false := by have := (HOK2.out j hjl).1; simp at this ⊢; omega
              have n2 : ((bs.data[j].toNat : Int) == 10) = false := by have := (HOK2.out j hjl).2; simp at this ⊢; omega
              go_wp2
              go_round
              case rel => exact ⟨j + 1, by omega, by go_num⟩
              case measure => simp [intOf]; omega
            · go_wp2
              go_loop [11, 95] (fun nmd i => ∃ j : Nat, j ≤ l.length ∧ i = .int .i64 j ∧ nmd = .bool ((l.take j).any (headsB (bodyOf b x)))) (fun _ i => l.length - (intOf i).toNat)
              case atStart => exact ⟨0, Nat.zero_le _, rfl, rfl⟩
              case round =>
                obtain ⟨i, hi, rfl, rfl⟩ := hrel
                by_cases hil : i < l.length
                · obtain ⟨ad1, rfl, -, hsc⟩ := HSTR.out.at_ hil
                  have hs60 := HB3.out l[i] (by simp)
                  have hstep : ∀ q : Bool, headsB (bodyOf b x) l[i] = q → (l.take (i + 1)).any (headsB (bodyOf b x)) = ((l.take i).any (headsB (bodyOf b x)) || q) := by
                    intro q hq
                    rw [List.take_succ_eq_append_getElem hil, List.any_append, ← hq]; simp
                  have HSTEP := Lib.hid hstep
                  clear hstep
                  by_cases t1 : l[i].size ≤ bs.size
                  · cases t2 : ((bs.extract 0 l[i].size).toList == l[i].toList)
                    · have HH := Lib.hid (heads_no2 HBS.out t2)
                      have t2' : ¬ (bs.extract 0 l[i].size).toList = l[i].toList := by simpa using t2
                      go_wp2
                      go_round
                      case rel => exact ⟨i + 1, by omega, by go_num, by rw [HSTEP.out _ HH.out, Bool.or_false]⟩
                      case measure => simp [intOf]; omega
                    · have t2' : (bs.extract 0 l[i].size).toList = l[i].toList := by simpa using t2
                      cases t3 : ((bs.size : Int) == (l[i].size : Int))
                      · have t5 : l[i].size < bs.size := by simp at t3; omega
                        have HH := Lib.hid (heads_34 HBS.out t5 t2)
                        cases t4 : ((bs[l[i].size].toNat : Int) == 58)
                        · rw [t4] at HH
                          go_wp2
                          go_round
                          case rel => exact ⟨i + 1, by omega, by go_num, by rw [HSTEP.out _ HH.out, Bool.or_false]⟩
                          case measure => simp [intOf]; omega
                        · rw [t4] at HH
                          go_wp2
                          go_round
                          case rel => exact ⟨i + 1, by omega, by go_num, by rw [HSTEP.out _ HH.out, Bool.or_true]⟩
                          case measure => simp [intOf]; omega
                      · have HH := Lib.hid (heads_yes1 HBS.out t2 t3)
                        go_wp2
                        go_round
                        case rel => exact ⟨i + 1, by omega, by go_num, by rw [HSTEP.out _ HH.out, Bool.or_true]⟩
                        case measure => simp [intOf]; omega
                  · have HH := Lib.hid (heads_no1 HBS.out t1)
                    go_wp2
                    go_round
                    case rel => exact ⟨i + 1, by omega, by go_num, by rw [HSTEP.out _ HH.out, Bool.or_false]⟩
                    case measure => simp [intOf]; omega
                · have hnt : (l.take i).any (headsB (bodyOf b x)) = true := by rw [List.take_of_length_le (by omega)]; exact HNM.out
                  go_wp2
                  go_roundw
                  case rel => exact ⟨k + 1, by omega, by go_num, by rw [HBH.out]; go_num, hbw2, hbw12⟩
                  case measure => simp [intOf]; omega
        · go_wp2_with fail
          refine (awake_any _).mono ?_
          rintro e w2 ⟨rfl, hbl2⟩
          go_wp2
          go_ret
          exact ⟨rfl, hbw.trans (hbl2.mono hbw.size)⟩
  · rintro e w1 ⟨rfl, rfl⟩
    go_wp2_with fail
    refine (awake_any _).mono ?_
    rintro e w2 ⟨rfl, hbl2⟩
    go_wp2
    go_ret
    exact ⟨rfl, hbl2⟩

end Go.Proofs.Ytajlckioogalbaa
