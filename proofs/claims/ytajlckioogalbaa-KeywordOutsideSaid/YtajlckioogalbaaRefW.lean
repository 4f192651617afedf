/- The contracts of the reference's begins and Find. -/
import Derived.Test.YtajlckioogalbaaRefP
import Derived.Test.YtajlckioogalbaaRepl
namespace Go.Proofs.Ytajlckioogalbaa
open Go.RowKit

/-- What the reference makes of the rest behind the name. -/
def oneR (r : List UInt8) (n : Nat) : Nat :=
  if r[0]? = some 36 then n + 2 else if r[0]? = some 58 then (if r[(r.takeWhile (fun c => c.toNat != 36 && c.toNat != 10)).length]? = some 36 then 1 + n + (r.takeWhile (fun c => c.toNat != 36 && c.toNat != 10)).length + 1 else 0) else 0
theorem one_yes {s nm : List UInt8} (h : (36 :: nm).isPrefixOf s = true) : one s nm = oneR (s.drop (nm.length + 1)) nm.length := by
  unfold one oneR
  rw [if_pos h]
  simp only [List.getElem?_drop, Nat.add_zero]
theorem one_no {s nm : List UInt8} (h : (36 :: nm).isPrefixOf s = false) : one s nm = 0 := by unfold one; rw [if_neg (by simp [h])]

def namesL (l : List ByteArray) : List (List UInt8) := l.map fun s => s.data.toList
theorem begL_skip (s : List UInt8) (l : List ByteArray) (k : Nat) (h : k < l.length) (h0 : one s l[k].data.toList = 0) : begL s ((namesL l).drop k) k = begL s ((namesL l).drop (k + 1)) (k + 1) := by
  have hd : (namesL l).drop k = l[k].data.toList :: (namesL l).drop (k + 1) := by
    rw [List.drop_eq_getElem_cons (by simpa [namesL] using h)]; simp [namesL]
  rw [hd, begL, if_pos h0]
theorem begL_hit (s : List UInt8) (l : List ByteArray) (k : Nat) (h : k < l.length) (n : Nat) (h0 : one s l[k].data.toList = n) (hn : n ≠ 0) : begL s ((namesL l).drop k) k = (n, k) := by
  have hd : (namesL l).drop k = l[k].data.toList :: (namesL l).drop (k + 1) := by
    rw [List.drop_eq_getElem_cons (by simpa [namesL] using h)]; simp [namesL]
  rw [hd, begL, h0, if_neg hn]
theorem begL_end (s : List UInt8) (l : List ByteArray) (k : Nat) (h : ¬ k < l.length) : begL s ((namesL l).drop k) k = (0, 0) := by
  rw [List.drop_of_length_le (by simp [namesL]; omega)]; rfl

def BegP (s : List UInt8) (l : List ByteArray) (w : World) (e : Ending) (w' : World) : Prop :=
  e = .returned (.tuple #[.int .i64 ((begL s (namesL l) 0).1 : Nat), .int .i64 ((begL s (namesL l) 0).2 : Nat)]) ∧ w = w'
theorem begP_of {s : List UInt8} {l : List ByteArray} {w : World} {n k : Nat} {a b : Int} (h : begL s (namesL l) 0 = (n, k)) (ha : a = n) (hb : b = k) : BegP s l w (.returned (.tuple #[.int .i64 a, .int .i64 b])) w := by
  unfold BegP; rw [h, ha, hb]; exact ⟨rfl, rfl⟩

theorem get0 {R : ByteArray} (h : 0 < R.size) : R.data.toList[0]? = some R[0] := by
  rw [List.getElem?_eq_getElem (by simpa using h)]; rfl
theorem getI {R : ByteArray} {i : Nat} (h : i < R.size) : R.data.toList[i]? = some R[i] := by
  rw [List.getElem?_eq_getElem (by simpa using h)]; rfl
theorem u8_eq {a : UInt8} {n : Nat} (hn : n < 256) (h : ((a.toNat : Int) == (n : Int)) = true) : a = UInt8.ofNat n := by
  apply UInt8.toNat.inj
  simp at h
  simp [UInt8.toNat_ofNat', Nat.mod_eq_of_lt hn]
  omega
theorem u8_ne {a : UInt8} {n : Nat} (hn : n < 256) (h : ((a.toNat : Int) == (n : Int)) = false) : a ≠ UInt8.ofNat n := by
  rintro rfl
  simp [UInt8.toNat_ofNat', Nat.mod_eq_of_lt hn] at h

theorem oneR_colon {r : List UInt8} {n : Nat} (h0 : r[0]? = some 58) : oneR r n = if r[skipL r 0]? = some 36 then 1 + n + skipL r 0 + 1 else 0 := by
  unfold oneR
  rw [h0, if_neg (by decide), if_pos rfl]
  have : skipL r 0 = (r.takeWhile (fun c => c.toNat != 36 && c.toNat != 10)).length := by unfold skipL; simp
  rw [this]
theorem skipL_pos {r : List UInt8} (h0 : r[0]? = some 58) : 0 < skipL r 0 := by
  cases r with
  | nil => simp at h0
  | cons c r =>
    simp at h0
    subst h0
    unfold skipL
    rw [List.drop_zero, List.takeWhile_cons, if_pos (by decide)]
    simp

set_option maxHeartbeats 2000000 in
set_option maxRecDepth 100000 in
theorem begins_any (s : ByteArray) (l : List ByteArray) (v : Value) (w : World) (hn : Strs w v l) (hs : s.size ≤ 1000000) (hl : l.length ≤ 1000) (hsz : ∀ t ∈ l, t.size ≤ 100000) :
    Calls Try.prog 33 #[.string s, v] w (BegP s.data.toList l w) := by
  have HN := Lib.hid hn
  have HS := Lib.hid hsz
  obtain ⟨A, c, rfl, hc, hm, -⟩ := hn
  clear hsz
  go_enter Try.func33, Try.ntmps33
  go_wp2
  go_loop [13] (fun i => ∃ k : Nat, k ≤ l.length ∧ i = .int .i64 k ∧ begL s.data.toList ((namesL l).drop k) k = begL s.data.toList (namesL l) 0) (fun i => l.length - (intOf i).toNat)
  case atStart => exact ⟨0, Nat.zero_le _, rfl, rfl⟩
  case round =>
    obtain ⟨k, hk, rfl, hbeg⟩ := hrel
    have HBG := Lib.hid hbeg
    clear hbeg
    by_cases hlt : k < l.length
    · obtain ⟨ad, rfl, -, hcell⟩ := HN.out.at_ hlt
      have hsk := HS.out l[k] (by simp)
      have hskip : one s.data.toList l[k].data.toList = 0 → begL s.data.toList ((namesL l).drop (k + 1)) (k + 1) = begL s.data.toList (namesL l) 0 := fun h => by rw [← begL_skip _ l k hlt h]; exact HBG.out
      have HSK := Lib.hid hskip
      have hhit : ∀ n, one s.data.toList l[k].data.toList = n → n ≠ 0 → begL s.data.toList (namesL l) 0 = (n, k) := fun n h h' => by rw [← HBG.out]; exact begL_hit _ l k hlt n h h'
      have HHT := Lib.hid hhit
      clear hskip hhit
      have hpd : (ByteArray.mk #[36] ++ l[k]).data.toList = 36 :: l[k].data.toList := by simp
      have HPD := Lib.hid hpd
      clear hpd
      go_wp2_with fail
      refine (Try.strings_CutPrefix _ _ _).mono ?_
      rw [HPD.out]
      cases hok : (36 :: l[k].data.toList).isPrefixOf s.data.toList
      · have h1 := HSK.out (one_no hok)
        have H1 := Lib.hid h1
        have hok' : Lib.hasPrefix s.data.toList (36 :: l[k].data.toList) = false := hok
        rw [hok']
        clear h1 hok hok'
        rintro e w' ⟨rfl, rfl⟩
        go_wp2
        go_round
        case rel => exact ⟨k + 1, by omega, by go_num, H1.out⟩
        case measure => simp [intOf]; omega
      · have hok' : Lib.hasPrefix s.data.toList (36 :: l[k].data.toList) = true := hok
        have htrim : Lib.trimPrefix s.data.toList (36 :: l[k].data.toList) = s.data.toList.drop (l[k].data.toList.length + 1) := by unfold Lib.trimPrefix; rw [hok']; rfl
        rw [hok', htrim]
        obtain ⟨R, hR⟩ : ∃ R : ByteArray, R = ⟨(s.data.toList.drop (l[k].data.toList.length + 1)).toArray⟩ := ⟨_, rfl⟩
        have hRl : R.data.toList = s.data.toList.drop (l[k].data.toList.length + 1) := by rw [hR]
        have hRs : R.size ≤ 1000000 := by
          have : R.size = R.data.toList.length := rfl
          rw [this, hRl, List.length_drop]
          have : s.data.toList.length = s.size := rfl
          omega
        have hone := one_yes hok
        rw [← hRl] at hone
        have HO := Lib.hid hone
        rw [← hR]
        clear hok hok' htrim hR hRl hone
        rintro e w' ⟨rfl, rfl⟩
        by_cases hR0 : R.size = 0
        · have hRe : R.toList = [] := by rw [ByteArray.toList_eq]; exact List.eq_nil_of_length_eq_zero hR0
          have h1 := HSK.out (by rw [HO.out]; unfold oneR; rw [← ByteArray.toList_eq, hRe]; rfl)
          have H1 := Lib.hid h1
          clear h1
          go_wp2
          go_round
          case rel => exact ⟨k + 1, by omega, by go_num, H1.out⟩
          case measure => simp [intOf]; omega
        · have hRp : 0 < R.size := by omega
          have hRe : ¬ R.toList = [] := by
            rw [ByteArray.toList_eq]; intro h
            have : R.data.toList.length = 0 := by rw [h]; rfl
            exact hR0 this
          have hRe' : R.toList.isEmpty = false := by simp [hRe]
          clear hRe
          cases h36 : ((R[0].toNat : Int) == 36)
          · cases h58 : ((R[0].toNat : Int) != 58)
            · -- a colon: look for the end
              have h58' : R[0] = 58 := u8_eq (n := 58) (by decide) (by simpa using h58)
              have hr0 : R.data.toList[0]? = some 58 := by rw [get0 hRp, h58']
              have hpos := skipL_pos hr0
              have HOC : Hid (one s.data.toList l[k].data.toList = if R.data.toList[skipL R.data.toList 0]? = some 36 then 1 + l[k].data.toList.length + skipL R.data.toList 0 + 1 else 0) := Lib.hid (by rw [HO.out, oneR_colon hr0])
              clear h58' hr0
              go_wp2
              go_loop [10] (fun i => ∃ j : Nat, j ≤ R.size ∧ i = .int .i64 j ∧ skipL R.data.toList j = skipL R.data.toList 0) (fun i => R.size - (intOf i).toNat)
              case atStart => exact ⟨0, Nat.zero_le _, rfl, rfl⟩
              case round =>
                obtain ⟨j, hj, rfl, hjs⟩ := hrel
                have HJS := Lib.hid hjs
                clear hjs
                by_cases hjl : j < R.size
                · have hgj := getI hjl
                  have HGJ := Lib.hid hgj
                  clear hgj
                  cases j36 : ((R[j].toNat : Int) != 36)
                  · -- the closing dollar sign
                    have hstop : skipL R.data.toList 0 = j := by
                      rw [← HJS.out]; exact skipL_stop _ _ hjl (.inl (by simp at j36; exact Int.ofNat.inj j36))
                    have hjp : 0 < j := by omega
                    have j36' : ((R[j].toNat : Int) == 36) = true := by simpa using j36
                    have h1 := HHT.out (1 + l[k].data.toList.length + j + 1) (by
                      rw [HOC.out, hstop, HGJ.out, if_pos (by rw [u8_eq (n := 36) (by decide) j36']; rfl)]) (by omega)
                    have H1 := Lib.hid h1
                    clear h1 hstop hpos
                    go_wp2
                    go_ret2
                    exact begP_of H1.out (by have : l[k].data.toList.length = l[k].size := rfl; omega) rfl
                  · cases j10 : ((R[j].toNat : Int) != 10)
                    · have hstop : skipL R.data.toList 0 = j := by
                        rw [← HJS.out]; exact skipL_stop _ _ hjl (.inr (by simp at j10; exact Int.ofNat.inj j10))
                      have hjp : 0 < j := by omega
                      have j36' : ((R[j].toNat : Int) == 36) = false := by simpa using j36
                      have h1 := HSK.out (by
                        rw [HOC.out, hstop, HGJ.out, if_neg]
                        intro h; injection h with h; exact u8_ne (n := 36) (by decide) j36' h)
                      have H1 := Lib.hid h1
                      clear h1 hstop hpos
                      go_wp2
                      go_round
                      case rel => exact ⟨k + 1, by omega, by go_num, H1.out⟩
                      case measure => simp [intOf]; omega
                    · have hnx : skipL R.data.toList (j + 1) = skipL R.data.toList 0 := by
                        rw [← HJS.out]
                        refine skipL_step _ _ hjl ?_ ?_
                        · simp at j36; exact fun h => j36 (by show ((R.data.toList[j].toNat : Nat) : Int) = 36; rw [h]; rfl)
                        · simp at j10; exact fun h => j10 (by show ((R.data.toList[j].toNat : Nat) : Int) = 10; rw [h]; rfl)
                      have HNX := Lib.hid hnx
                      clear hnx
                      go_wp2
                      go_round
                      case rel => exact ⟨j + 1, by omega, by go_num, HNX.out⟩
                      case measure => simp [intOf]; omega
                · have hstop : skipL R.data.toList 0 = j := by
                    rw [← HJS.out]; exact skipL_end _ _ (by have : R.data.toList.length = R.size := rfl; omega)
                  have hjp : 0 < j := by omega
                  have h1 := HSK.out (by
                    rw [HOC.out, hstop, List.getElem?_eq_none (by have : R.data.toList.length = R.size := rfl; omega)]; rfl)
                  have H1 := Lib.hid h1
                  clear h1 hstop hpos
                  go_wp2
                  go_round
                  case rel => exact ⟨k + 1, by omega, by go_num, H1.out⟩
                  case measure => simp [intOf]; omega
            · have h1 := HSK.out (by
                rw [HO.out]; unfold oneR
                rw [get0 hRp, if_neg, if_neg]
                · intro h; injection h with h; exact u8_ne (n := 58) (by decide) (by simpa using h58) h
                · intro h; injection h with h; exact u8_ne (n := 36) (by decide) h36 h)
              have H1 := Lib.hid h1
              clear h1
              go_wp2
              go_round
              case rel => exact ⟨k + 1, by omega, by go_num, H1.out⟩
              case measure => simp [intOf]; omega
          · have h1 := HHT.out (l[k].data.toList.length + 2) (by
              rw [HO.out]; unfold oneR
              rw [get0 hRp, if_pos (by rw [u8_eq (n := 36) (by decide) h36]; rfl)]) (by omega)
            have H1 := Lib.hid h1
            clear h1
            go_wp2
            go_ret2
            exact begP_of H1.out (by show ((l[k].size : Int)) + 2 = _; have : l[k].data.toList.length = l[k].size := rfl; omega) rfl
    · go_wp2
      go_ret2
      exact begP_of (n := 0) (k := 0) (by rw [← HBG.out, begL_end _ l k hlt]) rfl rfl

end Go.Proofs.Ytajlckioogalbaa
