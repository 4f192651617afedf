/- The contracts of the reference's Find and Replace. -/
import Derived.Test.YtajlckioogalbaaRefW
namespace Go.Proofs.Ytajlckioogalbaa
open Go.RowKit

theorem intInfo : (Try.prog.info? 3).map (fun i => (i.zero, i.size, i.bytes)) = some (some (.int .i64 0), 1, 8) := by kernel_rfl
theorem intElem : ElemOk Try.prog 47 3 1 8 := elemOk_of Try.underlying47 intInfo rfl (by decide)

def whichOf (names : List (List UInt8)) (os : List Occ) : List Nat := os.map fun o => names.idxOf o.2.2
theorem extract_drop (s : ByteArray) (k : Nat) : (s.extract k s.size).data.toList = s.data.toList.drop k := by
  rw [ByteArray.data_extract, Array.toList_extract, List.extract_eq_take_drop]
  refine List.take_of_length_le ?_
  rw [List.length_drop]
  have : s.data.toList.length = s.size := rfl
  omega

theorem own_ne_ {w : World} {B : Nat} {e1 e2 : TypeId} {s1 s2 : Nat} {v1 v2 : Value} {n1 n2 : Nat} {xs1 xs2 : List Value} (h1 : w.ownsRow B e1 s1 v1 n1 xs1) (h2 : w.ownsRow B e2 s2 v2 n2 xs2) (hne : e1 ≠ e2) : v1.ownBlock = none ∨ v1.ownBlock ≠ v2.ownBlock := by
  rcases h1.2 with ⟨rfl, _⟩ | ⟨g, cap, cur, rfl, _, hg, _⟩
  · exact .inl rfl
  · refine .inr fun h => ?_
    rcases h2.2 with ⟨rfl, _⟩ | ⟨g', cap', cur', rfl, _, hg', _⟩
    · cases h
    · have hgg : g = g' := by simpa [Value.ownBlock] using h
      subst hgg
      rw [hg] at hg'
      injection hg' with hg'
      injection hg' with _ h3
      exact hne h3

def RFindP (b : List UInt8) (names : List (List UInt8)) (w : World) (e : Ending) (w' : World) : Prop :=
  ∃ v1 v2, e = .returned (.tuple #[v1, v2]) ∧ Ranges w' v1 (rangesOf (occs names b 0)) ∧ Ints w' v2 (whichOf names (occs names b 0)) ∧ Below w.heap.size w w'

set_option maxHeartbeats 2000000 in
set_option maxRecDepth 100000 in
theorem refFind_any (s : ByteArray) (l : List ByteArray) (v : Value) (w : World) (hn : Strs w v l) (hs : s.size ≤ 100000) (hl : l.length ≤ 1000) (hsz : ∀ t ∈ l, t.size ≤ 100000) (hlet : ∀ nm ∈ namesL l, ∀ c ∈ nm, letterB c.toNat = true) :
    Calls Try.prog 24 #[.string s, v] w (RFindP s.data.toList (namesL l) w) := by
  have HN := Lib.hid hn
  have HS := Lib.hid hsz
  have HLE := Lib.hid hlet
  obtain ⟨A, c, rfl, hc, hm, -⟩ := hn
  clear hsz hlet
  go_enter Try.func24, Try.ntmps24
  go_wp2
  go_loopw [6, 7, 8] (fun r1 r2 i wr => ∃ (k : Nat) (pre : List Occ), k ≤ s.size ∧ i = .int .i64 k ∧ occs (namesL l) s.data.toList 0 = pre ++ occs (namesL l) s.data.toList k ∧
      wr.ownsRow w.heap.size 41 2 r1 pre.length (rangeCells (rangesOf pre)) ∧ wr.ownsRow w.heap.size 3 1 r2 pre.length ((whichOf (namesL l) pre).map fun (n : Nat) => .int .i64 n) ∧ Below w.heap.size w wr) (fun _ _ i _ => s.size - (intOf i).toNat)
  case atStart => exact ⟨0, [], Nat.zero_le _, rfl, rfl, World.ownsRow_nil _ _ _ _, World.ownsRow_nil _ _ _ _, Below.refl _ _⟩
  case round =>
    obtain ⟨k, pre, hk, rfl, hocc, hown1, hown2, hbl⟩ := hrel
    have HO := Lib.hid hocc
    have hpl : pre.length ≤ s.size := by
      have := occs_length (namesL l) s.data.toList 0
      rw [hocc, List.length_append] at this
      have h2 : s.data.toList.length = s.size := rfl
      omega
    clear hocc
    by_cases hlt : k < s.size
    · have hlt' : k < s.data.toList.length := hlt
      have hsz1 : (s.extract k s.size).size ≤ 1000000 := by
        have : (s.extract k s.size).size = (s.extract k s.size).data.toList.length := rfl
        rw [this, extract_drop, List.length_drop]
        have : s.data.toList.length = s.size := rfl
        omega
      have HC := Lib.hid (begins_any (s.extract k s.size) l _ wr (HN.out.below hbl) hsz1 hl HS.out)
      rw [extract_drop] at HC
      have hst := begL_step s.data.toList k hlt' (namesL l) 0 HLE.out
      by_cases hyes : s.data.toList[k]? = some 36 ∧ (stepAt (namesL l) s.data.toList k).isSome = true
      · obtain ⟨h36, hsome⟩ := hyes
        obtain ⟨e, he⟩ := Option.isSome_iff_exists.1 hsome
        have hbd := stepAt_bd he
        rw [if_pos h36, he] at hst
        simp only [Nat.zero_add] at hst
        have hnx := occs_some (namesL l) s.data.toList k e hlt' h36 he
        have HNX := Lib.hid hnx
        have HST := Lib.hid hst
        obtain ⟨d, hd⟩ : ∃ d, e = k + d + 1 := ⟨e - k - 1, by omega⟩
        have hdl : k + d + 1 ≤ s.size := by have h2 : s.data.toList.length = s.size := rfl; omega
        subst hd
        clear hst hnx he hsome h36 hbd
        go_wp2_with fail
        refine HC.out.mono ?_
        unfold BegP
        rw [HST.out]
        simp only
        rw [show k + d + 1 - k = d + 1 by omega]
        rintro e w' ⟨rfl, rfl⟩
        have hd1 : (((d : Int) + 1) == 0) = false := by simp; omega
        obtain ⟨ix, hix⟩ : ∃ ix, (namesL l).idxOf (nameAt s.data.toList k) = ix := ⟨_, rfl⟩
        rw [hix]
        have HIX := Lib.hid hix
        clear hix
        go_wp2_with (at_builtin; refine stop_here ?_)
        refine Lib.hid ?_
        refine wpList_app rfl rfl rangeElem (hown1.alloc _) rfl (row_new _ [.int .i64 (k : Int), .int .i64 ((k : Int) + ((d : Int) + 1) - 1)] _ 2 1 rfl (by decide) _ rfl) rfl (by simp [Value.oneCell']) (by omega) (by unfold maxLen; omega) (by have := hbl.size; simp; omega) ?_
        intro A5 c5 w5 hown3 hg3 _
        have hown4 := (hown2.alloc (.cells #[.int .i64 (k : Int), .int .i64 ((k : Int) + ((d : Int) + 1) - 1)] 41)).kept hg3 (own_ne_ hown2 hown1 (by decide))
        have hbl5 := grown_below (hbl.alloc hbl.size (.cells #[.int .i64 (k : Int), .int .i64 ((k : Int) + ((d : Int) + 1) - 1)] 41)) (hown1.alloc _) (by have := hbl.size; simp; omega) hg3
        have H3 := Lib.hid hown3
        clear hown3 hg3
        go_wp2_with (at_builtin; refine stop_here ?_)
        refine Lib.hid ?_
        refine wpList_app rfl rfl intElem (hown4.alloc _) rfl (row_new _ [.int .i64 (ix : Int)] _ 1 1 rfl (by decide) _ rfl) rfl (by simp [Value.oneCell']) (by omega) (by unfold maxLen; omega) (by have := hbl5.size; simp; omega) ?_
        intro A6 c6 w6 hown5 hg5 _
        have hown6 := (H3.out.alloc (.cells #[.int .i64 (ix : Int)] 3)).kept hg5 (own_ne_ H3.out hown4 (by decide))
        have hbl6 := grown_below (hbl5.alloc hbl5.size (.cells #[.int .i64 (ix : Int)] 3)) (hown4.alloc _) (by have := hbl5.size; simp; omega) hg5
        clear hg5
        go_wp2
        go_roundw
        case rel =>
          refine ⟨k + d + 1, pre ++ [(k, k + d, nameAt s.data.toList k)], by omega, by go_num, ?_, ?_, ?_, hbl6⟩
          · rw [HO.out, HNX.out, List.append_assoc]; rfl
          · rw [List.length_append, show rangeCells (rangesOf (pre ++ [(k, k + d, nameAt s.data.toList k)])) = rangeCells (rangesOf pre) ++ [.int .i64 (k : Int), .int .i64 ((k : Int) + ((d : Int) + 1) - 1)] by simp [rangeCells, rangesOf, List.flatMap_append]; omega]
            exact hown6
          · rw [List.length_append, show (whichOf (namesL l) (pre ++ [(k, k + d, nameAt s.data.toList k)])).map (fun (n : Nat) => Value.int .i64 n) = (whichOf (namesL l) pre).map (fun (n : Nat) => Value.int .i64 n) ++ [.int .i64 (ix : Int)] by simp [whichOf, HIX.out]]
            exact hown5
        case measure => simp [intOf]; omega
      · have h0 : begL (s.data.toList.drop k) (namesL l) 0 = (0, 0) := by
          rw [hst]
          by_cases h36 : s.data.toList[k]? = some 36
          · rw [if_pos h36]
            cases hq : stepAt (namesL l) s.data.toList k with
            | none => rfl
            | some e => exact absurd ⟨h36, by rw [hq]; rfl⟩ hyes
          · rw [if_neg h36]
        have hnx : occs (namesL l) s.data.toList k = occs (namesL l) s.data.toList (k + 1) := by
          by_cases h36 : s.data.toList[k]? = some 36
          · refine occs_none _ _ _ hlt' h36 ?_
            cases hq : stepAt (namesL l) s.data.toList k with
            | none => rfl
            | some e => exact absurd ⟨h36, by rw [hq]; rfl⟩ hyes
          · exact occs_no _ _ _ hlt' h36
        have HNX := Lib.hid hnx
        have H0 := Lib.hid h0
        clear hst hnx h0 hyes
        go_wp2_with fail
        refine HC.out.mono ?_
        unfold BegP
        rw [H0.out]
        rintro e w' ⟨rfl, rfl⟩
        go_wp2
        go_roundw
        case rel => exact ⟨k + 1, pre, by omega, by go_num, by rw [HO.out, HNX.out], hown1, hown2, hbl⟩
        case measure => simp [intOf]; omega
    · go_wp2
      go_ret2
      have hfin : occs (namesL l) s.data.toList 0 = pre := by rw [HO.out, occs_end _ _ _ hlt, List.append_nil]
      refine ⟨_, _, rfl, ?_, ?_, hbl⟩
      · rw [hfin]; unfold Ranges; rw [show (rangesOf pre).length = pre.length by simp [rangesOf]]; exact Row.of_own hown1
      · rw [hfin]; unfold Ints; rw [show (whichOf (namesL l) pre).length = pre.length by simp [whichOf]]; exact Row.of_own hown2

end Go.Proofs.Ytajlckioogalbaa
