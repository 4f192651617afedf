/- The contracts of the reference's Names and Words, and of the statements' own 'same'. -/
import Derived.Test.YtajlckioogalbaaRefR
namespace Go.Proofs.Ytajlckioogalbaa
open Go.RowKit

def namesB (l : List ByteArray) : Bool := l.all nameS && decide ((namesL l).Nodup)

theorem namesB_word {l : List ByteArray} {k : Nat} (h : k < l.length) (hb : nameS l[k] = false) : namesB l = false := by
  unfold namesB
  rw [show l.all nameS = false from List.all_eq_false.2 ⟨l[k], List.getElem_mem h, by simp [hb]⟩]; rfl
theorem namesB_twice {l : List ByteArray} {k : Nat} (h : k < l.length) (hb : l[k].data.toList ∈ namesL (l.take k)) : namesB l = false := by
  unfold namesB
  have : ¬ (namesL l).Nodup := by
    intro hn
    have hs : namesL l = namesL (l.take k) ++ l[k].data.toList :: namesL (l.drop (k + 1)) := by
      unfold namesL
      rw [← List.map_cons (f := fun s : ByteArray => s.data.toList), List.getElem_cons_drop, ← List.map_append, List.take_append_drop]
    rw [hs, List.nodup_append] at hn
    exact hn.2.2 _ hb _ (by simp) rfl
  simp [this]
theorem namesNodup_step {l : List ByteArray} {k : Nat} (h : k < l.length) (hn : (namesL (l.take k)).Nodup) (hb : l[k].data.toList ∉ namesL (l.take k)) : (namesL (l.take (k + 1))).Nodup := by
  rw [List.take_succ_eq_append_getElem h]
  unfold namesL at *
  rw [List.map_append, List.nodup_append]
  refine ⟨hn, by simp, ?_⟩
  intro a ha b hb' e
  simp at hb'
  subst hb'
  exact hb (e ▸ ha)
theorem notMem_step {l : List ByteArray} {x : ByteArray} {j : Nat} (h : j < l.length) (hn : x.data.toList ∉ namesL (l.take j)) (hb : (x.toList == l[j].toList) = false) : x.data.toList ∉ namesL (l.take (j + 1)) := by
  rw [List.take_succ_eq_append_getElem h]
  unfold namesL at *
  rw [List.map_append, List.mem_append]
  rw [ByteArray.toList_eq, ByteArray.toList_eq] at hb
  simp at hb
  rintro (h | h)
  · exact hn h
  · simp at h; exact hb h
theorem mem_hit {l : List ByteArray} {x : ByteArray} {j : Nat} (h : j < l.length) (hb : (x.toList == l[j].toList) = true) : x.data.toList ∈ namesL l := by
  rw [ByteArray.toList_eq, ByteArray.toList_eq] at hb
  simp at hb
  rw [hb]
  exact List.mem_map.2 ⟨l[j], List.getElem_mem h, rfl⟩

set_option maxHeartbeats 1000000 in
set_option maxRecDepth 100000 in
theorem refNames_any (l : List ByteArray) (v : Value) (w : World) (hn : Strs w v l) (hl : l.length ≤ 1000) (hsz : ∀ t ∈ l, t.size ≤ 100000) :
    Calls Try.prog 22 #[v] w fun e w' => e = .returned (.bool (namesB l)) ∧ Below w.heap.size w w' := by
  have HN := Lib.hid hn
  have HS := Lib.hid hsz
  obtain ⟨A, c, rfl, hc, hm, -⟩ := hn
  clear hsz
  go_enter Try.func22, Try.ntmps22
  go_wp2
  go_loopw [9] (fun i wr => ∃ k : Nat, k ≤ l.length ∧ i = .int .i64 k ∧ (l.take k).all nameS = true ∧ (namesL (l.take k)).Nodup ∧ Below w.heap.size w wr) (fun i _ => l.length - (intOf i).toNat)
  case atStart => exact ⟨0, Nat.zero_le _, rfl, rfl, by simp [namesL], Below.refl _ _⟩
  case round =>
    obtain ⟨k, hk, rfl, hall, hnd, hbl⟩ := hrel
    have HA := Lib.hid hall
    have HD := Lib.hid hnd
    clear hall hnd
    by_cases hlt : k < l.length
    · obtain ⟨ad, rfl, had, hc0⟩ := (HN.out.below hbl).at_ hlt
      have hs1 := HS.out l[k] (by simp)
      have HC := Lib.hid (refName_any l[k] wr (by omega))
      cases hnm : nameS l[k]
      · rw [hnm] at HC
        have HB := Lib.hid (namesB_word hlt hnm)
        clear hnm
        go_wp2_with fail
        refine HC.out.mono ?_
        rintro e w3 ⟨rfl, hbl3⟩
        go_wp2
        go_ret
        exact ⟨by rw [HB.out]; rfl, hbl.trans (hbl3.mono hbl.size)⟩
      · rw [hnm] at HC
        have HA2 : Hid ((l.take (k + 1)).all nameS = true) := Lib.hid (by rw [List.take_succ_eq_append_getElem hlt, List.all_append, HA.out]; simp [hnm])
        clear hnm
        go_wp2_with fail
        refine HC.out.mono ?_
        rintro e w3 ⟨rfl, hbl3⟩
        have hbl4 := hbl.trans (hbl3.mono hbl.size)
        obtain ⟨A3, c3, hsub, hrow⟩ := run_sub_to (P := Try.prog) (y := (k : Int)) (ky := .i64) Try.underlying30 (fun w => Try.sizeOf9 w) (HN.out.below hbl4) hk rfl
        have hrow' : Strs w3 (.slice A3 (l.take k).length c3) (l.take k) := by
          unfold Strs
          rw [List.length_take, Nat.min_eq_left hk, List.map_take]
          simpa using hrow
        have hkl : (l.take k).length = k := by rw [List.length_take]; omega
        have HR := Lib.hid hrow'
        clear hrow hrow'
        go_wp2
        go_loop [21] (fun i => ∃ j : Nat, j ≤ k ∧ i = .int .i64 j ∧ l[k].data.toList ∉ namesL (l.take j)) (fun i => k - (intOf i).toNat)
        case atStart => exact ⟨0, Nat.zero_le _, rfl, by simp [namesL]⟩
        case round =>
          obtain ⟨j, hj, rfl, hno⟩ := hrel
          have HNO := Lib.hid hno
          clear hno
          by_cases hlt2 : j < k
          · obtain ⟨ad3, rfl, had3, hc3⟩ := Strs.at_ (k := j) HR.out (by omega)
            have hlj : (l.take k)[j]'(by omega) = l[j] := by simp
            rw [hlj] at hc3
            cases hq : (l[k].toList == l[j].toList)
            · have HQ := Lib.hid hq
              go_wp2
              go_round
              case rel => exact ⟨j + 1, by omega, by go_num, notMem_step (by omega) HNO.out HQ.out⟩
              case measure => simp [intOf]; omega
            · have HQ := Lib.hid hq
              go_wp2
              go_ret
              refine ⟨by rw [namesB_twice hlt (mem_hit (l := l.take k) (j := j) (by omega) (by rw [hlj]; exact HQ.out))]; rfl, hbl4⟩
          · go_wp2
            go_roundw
            case rel =>
              refine ⟨k + 1, by omega, by go_num, HA2.out, namesNodup_step hlt HD.out ?_, hbl4⟩
              obtain rfl : j = k := by omega
              exact HNO.out
            case measure => simp [intOf]; omega
    · go_wp2
      go_ret
      obtain rfl : k = l.length := by omega
      have h1 := HA.out
      have h2 := HD.out
      rw [List.take_length] at h1 h2
      exact ⟨by unfold namesB; rw [h1]; simp [h2], hbl⟩

theorem own_below {w w' : World} {B : Nat} {e : TypeId} {k : Nat} {v : Value} {n : Nat} {xs : List Value} (h : w.ownsRow B e k v n xs) (hb : Below w.heap.size w w') : w'.ownsRow B e k v n xs := by
  refine ⟨h.1, ?_⟩
  rcases h.2 with ⟨e1, e2⟩ | ⟨g, cap, cur, e1, h1, hg, rest⟩
  · exact .inl ⟨e1, e2⟩
  · exact .inr ⟨g, cap, cur, e1, h1, (hb.block g (Array.getElem?_eq_some_iff.1 hg).1).trans hg, rest⟩
theorem own_slice {w : World} {B : Nat} {e : TypeId} {k : Nat} {v : Value} {n : Nat} {xs : List Value} (h : w.ownsRow B e k v n xs) : ∃ A c, v = .slice A n c := by
  rcases h.2 with ⟨e1, e2⟩ | ⟨g, cap, cur, e1, _⟩
  · exact ⟨none, 0, by rw [e1, e2]⟩
  · exact ⟨_, cap, e1⟩

def wordsOkB (l : List (ByteArray × ByteArray)) : Bool := l.all (fun p => valueS p.2) && namesB (l.map (·.1))

set_option maxHeartbeats 1000000 in
set_option maxRecDepth 100000 in
theorem refWords_any (l : List (ByteArray × ByteArray)) (v : Value) (w : World) (hn : Pairs w v l) (hl : l.length ≤ 1000) (hsz : ∀ t ∈ l, t.1.size ≤ 100000 ∧ t.2.size ≤ 100000) :
    Calls Try.prog 14 #[v] w fun e w' => Below w.heap.size w w' ∧ ∃ v', e = .returned (.tuple #[v', .bool (wordsOkB l)]) ∧ (wordsOkB l = true → Strs w' v' (l.map (·.1))) ∧ ∃ A n c, v' = .slice A n c := by
  have HN := Lib.hid hn
  have HS := Lib.hid hsz
  obtain ⟨A, c, rfl, hc, hm, -⟩ := hn
  clear hsz
  go_enter Try.func14, Try.ntmps14
  go_wp2
  go_loopw [4, 9] (fun r i wr => ∃ k : Nat, k ≤ l.length ∧ i = .int .i64 k ∧ (l.take k).all (fun p => valueS p.2) = true ∧ wr.ownsRow w.heap.size 9 1 r k ((l.take k).map fun p => .string p.1) ∧ Below w.heap.size w wr) (fun _ i _ => l.length - (intOf i).toNat)
  case atStart => exact ⟨0, Nat.zero_le _, rfl, rfl, World.ownsRow_nil _ _ _ _, Below.refl _ _⟩
  case round =>
    obtain ⟨k, hk, rfl, hall, hown, hbl⟩ := hrel
    have HA := Lib.hid hall
    clear hall
    by_cases hlt : k < l.length
    · obtain ⟨ad, rfl, had, hc0, hc1⟩ := (HN.out.below hbl).at_ hlt
      obtain ⟨hs1, hs2⟩ := HS.out l[k] (by simp)
      have hbl1 := hbl.alloc hbl.size (.cells #[.string l[k].1, .string l[k].2] 52)
      have HC := Lib.hid (refValue_any l[k].2 (wr.alloc (.cells #[.string l[k].1, .string l[k].2] 52)) (by omega))
      cases hnm : valueS l[k].2
      · rw [hnm] at HC
        have hB : wordsOkB l = false := by
          unfold wordsOkB
          rw [show l.all (fun p => valueS p.2) = false from List.all_eq_false.2 ⟨l[k], List.getElem_mem hlt, by simp [hnm]⟩]; rfl
        have HB := Lib.hid hB
        clear hnm hB
        go_wp2_with fail
        refine HC.out.mono ?_
        rintro e w3 ⟨rfl, hbl3⟩
        go_wp2
        go_ret2
        exact ⟨hbl1.trans (hbl3.mono hbl1.size), _, by rw [HB.out]; rfl, fun h => (by rw [HB.out] at h; cases h), none, 0, 0, rfl⟩
      · rw [hnm] at HC
        have HA2 : Hid ((l.take (k + 1)).all (fun p => valueS p.2) = true) := Lib.hid (by rw [List.take_succ_eq_append_getElem hlt, List.all_append, HA.out]; simp [hnm])
        clear hnm
        go_wp2_with fail
        refine HC.out.mono ?_
        rintro e w3 ⟨rfl, hbl3⟩
        have hcell : w3.cell? ⟨wr.heap.size, 0, none⟩ = some (.string l[k].1) := cell_below (w := wr.alloc (.cells #[.string l[k].1, .string l[k].2] 52)) (by rw [World.cell?_alloc_mark]; rfl) hbl3 (by simp)
        have hbl4 := hbl1.trans (hbl3.mono hbl1.size)
        have hown4 := own_below (hown.alloc _) hbl3
        have hB2 := hbl4.alloc hbl4.size (.cells #[.string l[k].1] 9)
        go_wp2_with (at_builtin; refine wpList_push rfl rfl strElem (hown4.alloc _) rfl (row_new _ [.string l[k].1] _ 1 1 rfl (by decide) _ (by simp)) rfl hB2 hB2.size (by simp [Value.oneCell']) (by omega) (by unfold maxLen; omega) ?_; intro A' c' w5 hown1 hbl5)
        go_roundw
        case rel => exact ⟨k + 1, by omega, by go_num, HA2.out, by rw [List.take_succ_eq_append_getElem hlt, List.map_append]; exact hown1, hbl5⟩
        case measure => simp [intOf]; omega
    · obtain rfl : k = l.length := by omega
      have h1 := HA.out
      rw [List.take_length] at h1 hown
      obtain ⟨A4, c4, rfl⟩ := own_slice hown
      have hstr : Strs wr (.slice A4 l.length c4) (l.map (·.1)) := by unfold Strs; rw [List.length_map, List.map_map]; exact Row.of_own hown
      have HC := Lib.hid (refNames_any (l.map (·.1)) _ wr hstr (by rw [List.length_map]; exact hl) (by intro t ht; obtain ⟨p, hp, rfl⟩ := List.mem_map.1 ht; exact (HS.out p hp).1))
      have HST := Lib.hid hstr
      clear hstr hown
      go_wp2_with fail
      refine HC.out.mono ?_
      rintro e w3 ⟨rfl, hbl3⟩
      go_wp2
      go_ret2
      exact ⟨hbl.trans (hbl3.mono hbl.size), _, by unfold wordsOkB; rw [h1]; rfl, fun _ => HST.out.below hbl3, _, _, _, rfl⟩

theorem run_neq_range (a b c d : Int) (W : World) : (binOp .neq 41 (.agg #[.int .i64 a, .int .i64 b]) (.agg #[.int .i64 c, .int .i64 d])).run Try.prog W = .ok (.bool (!((a == c) && (b == d)))) W := by
  rw [run_neq_struct, run_equalIn_agg W 9999 41 _ _ (by kernel_rfl) (by kernel_rfl)]
  simp [go_sem, Op.eqFields]
  by_cases h1 : a = c <;> by_cases h2 : b = d <;> simp [h1, h2]

set_option maxHeartbeats 1000000 in
set_option maxRecDepth 100000 in
theorem same_any (a b : List (Nat × Nat)) (v1 v2 : Value) (w : World) (h1 : Ranges w v1 a) (h2 : Ranges w v2 b) (hl : a.length ≤ 1000000) :
    Calls Try.prog 25 #[v1, v2] w fun e w' => e = .returned (.bool (decide (a = b))) ∧ Below w.heap.size w w' := by
  have H1 := Lib.hid h1
  have H2 := Lib.hid h2
  obtain ⟨A1, c1, rfl, hc1, hm1, -⟩ := h1
  obtain ⟨A2, c2, rfl, hc2, hm2, -⟩ := h2
  by_cases hlen : a.length = b.length
  · rw [← hlen] at hc2 ⊢
    have HLN := Lib.hid hlen
    clear hlen
    go_enter Try.func25, Try.ntmps25
    go_wp2
    go_loopw [13] (fun i wr => ∃ k : Nat, k ≤ a.length ∧ i = .int .i64 k ∧ a.take k = b.take k ∧ Below w.heap.size w wr) (fun i _ => a.length - (intOf i).toNat)
    case atStart => exact ⟨0, Nat.zero_le _, rfl, rfl, Below.refl _ _⟩
    case round =>
      obtain ⟨k, hk, rfl, heq, hbl⟩ := hrel
      have HE := Lib.hid heq
      clear heq
      by_cases hlt : k < a.length
      · have hltb : k < b.length := by have := HLN.out; omega
        obtain ⟨ad, rfl, had, hc0, hd0⟩ := (H1.out.below hbl).at_ hlt
        obtain ⟨ad2, rfl, had2, hc5, hd5⟩ := (H2.out.below hbl).at_ hltb
        have hq := run_neq_range (a[k].1 : Nat) (a[k].2 : Nat) (b[k].1 : Nat) (b[k].2 : Nat)
        obtain ⟨r, hr⟩ : ∃ r, (!((((a[k].1 : Nat) : Int) == ((b[k].1 : Nat) : Int)) && (((a[k].2 : Nat) : Int) == ((b[k].2 : Nat) : Int)))) = r := ⟨_, rfl⟩
        rw [hr] at hq
        have hr2 : r = !decide (a[k] = b[k]) := by
          rw [← hr, Bool.not_inj_iff, Bool.eq_iff_iff, decide_eq_true_eq]
          simp only [Bool.and_eq_true, beq_iff_eq, Int.natCast_inj]
          rw [Prod.ext_iff]
        have HR := Lib.hid hr2
        clear hr hr2
        have HLT := Lib.hid hltb
        cases r
        · go_wp2
          go_quiet (fail)
          go_wp2
          go_roundw
          case rel =>
            refine ⟨k + 1, by omega, by go_num, ?_, below_drewN hbl _⟩
            have h1 := HR.out
            have h2 := HLT.out
            rw [List.take_succ_eq_append_getElem hlt, List.take_succ_eq_append_getElem h2, HE.out]
            simp at h1
            rw [h1]
          case measure => simp [intOf]; omega
        · go_wp2
          go_quiet (fail)
          go_wp2
          go_ret
          refine ⟨?_, below_drewN hbl _⟩
          have h1 := HR.out
          have : a ≠ b := by rintro rfl; simp at h1
          simp [this]
      · go_wp2
        go_ret
        refine ⟨?_, hbl⟩
        have h1 := HE.out
        have h2 := HLN.out
        rw [List.take_of_length_le (by omega), List.take_of_length_le (by omega)] at h1
        simp [h1]
  · go_enter Try.func25, Try.ntmps25
    go_wp2
    go_ret
    refine ⟨?_, Below.refl _ _⟩
    have : a ≠ b := by rintro rfl; exact hlen rfl
    simp [this]

end Go.Proofs.Ytajlckioogalbaa
