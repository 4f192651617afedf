/- filetype.Format. -/
import Derived.Test.YtfifalpacagacaaDoorTypeR
import Derived.Test.YtfifalpacagacaaDoorMapR
namespace Go.Proofs.YtfifalpacagacaaDoor
open Go.RowKit
set_option linter.unusedVariables false

set_option maxHeartbeats 2000000 in
theorem format_bad (b : Int) (k l x : Bool) (w : World) (h : tyOk b k x = false) :
    Calls Tryd.prog 25 #[.agg #[.int .i64 b, .bool k, .bool l, .bool x]] w fun e w' => e = .returned (.tuple #[.string ⟨#[]⟩, .int .i64 90]) ∧ Below w.heap.size w w' := by
  have H := Lib.hid (fun W => check_any b k l x W)
  rw [h] at H
  clear h
  go_enter Tryd.func25, Tryd.ntmps25
  go_wp2_with fail
  refine (H.out _).mono ?_
  rintro e w1 ⟨rfl, hb1⟩
  go_wp2_with fail
  go_ret2
  exact ⟨rfl, ((Below.refl _ _).alloc (Nat.le_refl _) _).trans (hb1.mono (by simp))⟩

/-- The text and the separator after so many of the three marks. -/
def fmtSt (b : Int) (k l x : Bool) : Nat → List UInt8 × List UInt8
  | 0 => (baseText b, [43])
  | 1 => if k then (baseText b ++ [43, 107], []) else (baseText b, [43])
  | 2 => match k, l with
    | true, true => (baseText b ++ [43, 107, 108], [])
    | true, false => (baseText b ++ [43, 107], [])
    | false, true => (baseText b ++ [43, 108], [])
    | false, false => (baseText b, [43])
  | _ => (textT ⟨b, k, l, x⟩, if markText k l x = [] then [43] else [])
theorem baseText_len (b : Int) : (baseText b).length ≤ 6 := by unfold baseText; split <;> (try split) <;> decide
theorem fmt_size (b : Int) (h : (baseText b).length ≤ 6) {k l x : Bool} {w wr : World} {g : Nat} {e : TypeId} (hT : Blk wr g e [.int .i64 b, .bool k, .bool l, .bool x]) (hb : Below g w wr) (j : Nat) :
    (baL (fmtSt b k l x j).1).size ≤ 20 ∧ (baL (fmtSt b k l x j).2).size ≤ 1 := by
  rw [baL_size, baL_size]
  have hj : j = 0 ∨ j = 1 ∨ j = 2 ∨ 3 ≤ j := by omega
  rcases hj with rfl | rfl | rfl | hj
  · exact ⟨by simp [fmtSt]; omega, by simp [fmtSt]⟩
  · cases k <;> exact ⟨by simp [fmtSt]; omega, by simp [fmtSt]⟩
  · cases k <;> cases l <;> exact ⟨by simp [fmtSt]; omega, by simp [fmtSt]⟩
  · obtain ⟨i, rfl⟩ : ∃ i, j = i + 3 := ⟨j - 3, by omega⟩
    cases k <;> cases l <;> cases x <;> exact ⟨by simp [fmtSt, textT, markText]; omega, by simp [fmtSt, markText]⟩
/-- What the loop over the names of bases has found. -/
def Found (b : Int) (left : List (ByteArray × Value)) (v : Value) : Prop := (∀ p ∈ left, p ∈ baseMap) ∧ ((v = .string ⟨#[]⟩ ∧ ∃ p ∈ left, p.2 = .int .i64 b) ∨ v = .string (baL (baseText b)))
theorem Found.start {b : Int} (h : 1 ≤ b ∧ b ≤ 3) : Found b baseMap (.string ⟨#[]⟩) := by
  refine ⟨fun p hp => hp, .inl ⟨rfl, ?_⟩⟩
  have hb : b = 1 ∨ b = 2 ∨ b = 3 := by omega
  rcases hb with rfl | rfl | rfl
  · exact ⟨(textB, .int .i64 1), by simp [baseMap], rfl⟩
  · exact ⟨(binB, .int .i64 2), by simp [baseMap], rfl⟩
  · exact ⟨(linkB, .int .i64 3), by simp [baseMap], rfl⟩
theorem Found.fin {b : Int} {v : Value} (h : Found b [] v) : v = .string (baL (baseText b)) := by
  rcases h.2 with ⟨-, p, hp, -⟩ | h
  · simp at hp
  · exact h
theorem Found.entry {b : Int} {a c : List (ByteArray × Value)} {p : ByteArray × Value} {v : Value} (h : Found b (a ++ p :: c) v) : ∃ n : Int, p = (baL (baseText n), .int .i64 n) := by
  have hp := h.1 p (by simp)
  simp only [baseMap, List.mem_cons, List.not_mem_nil, or_false] at hp
  rcases hp with rfl | rfl | rfl
  · exact ⟨1, rfl⟩
  · exact ⟨2, rfl⟩
  · exact ⟨3, rfl⟩
theorem Found.hit {b : Int} {a c : List (ByteArray × Value)} {p : ByteArray × Value} {v : Value} (h : Found b (a ++ p :: c) v) : Found b (a ++ c) (.string (baL (baseText b))) :=
  ⟨fun q hq => h.1 q (by rcases List.mem_append.1 hq with hq | hq <;> simp [hq]), .inr rfl⟩
theorem Found.miss {b n : Int} {a c : List (ByteArray × Value)} {s : ByteArray} {v : Value} (h : Found b (a ++ (s, .int .i64 n) :: c) v) (hn : n ≠ b) : Found b (a ++ c) v := by
  refine ⟨fun q hq => h.1 q (by rcases List.mem_append.1 hq with hq | hq <;> simp [hq]), ?_⟩
  rcases h.2 with ⟨e, p, hp, h2⟩ | h2
  · refine .inl ⟨e, p, ?_, h2⟩
    rcases List.mem_append.1 hp with hp | hp
    · simp [hp]
    · rcases List.mem_cons.1 hp with rfl | hp
      · exact absurd (by injection h2) hn
      · simp [hp]
  · exact .inr h2

set_option maxRecDepth 100000 in
set_option maxHeartbeats 2000000 in
theorem format_ok (b : Int) (k l x : Bool) (w : World) (h : tyOk b k x = true) :
    Calls Tryd.prog 25 #[.agg #[.int .i64 b, .bool k, .bool l, .bool x]] w fun e w' => e = .returned (.tuple #[.string (baL (textT ⟨b, k, l, x⟩)), .int .i64 0]) ∧ Below w.heap.size w w' := by
  have H := Lib.hid (fun W => check_any b k l x W)
  rw [h] at H
  have HOK := Lib.hid h
  clear h
  go_enter Tryd.func25, Tryd.ntmps25
  go_wp2_with fail
  refine (H.out _).mono ?_
  rintro e w1 ⟨rfl, hb1⟩
  have hT1 := (blk_new w [.int .i64 b, .bool k, .bool l, .bool x] 27).below hb1 (by simp)
  have hbw1 : Below w.heap.size w w1 := ((Below.refl _ _).alloc (Nat.le_refl _) _).trans (hb1.mono (by simp))
  clear hb1
  go_wp2_with fail
  refine (bases_any _).mono ?_
  rintro e w2 ⟨rfl, hm, hb2⟩
  have hlt1 := hT1.lt
  have hT2 := hT1.below hb2 hlt1
  have hbw2 : Below w.heap.size w w2 := below_next hbw1 hb2
  have hle12 := hb2.size
  obtain ⟨w3, hrg, hR3, hb3, hs3⟩ := hm.range (P := Tryd.prog) Tryd.underlying63
  have hT3 := hT2.below hb3 hT2.lt
  have hbw3 : Below w.heap.size w w3 := below_next hbw2 hb3
  have HM := Lib.hid hm
  have hbr := (ty_ok_mem b k l x HOK.out).1
  have HR3 := Lib.hid hR3
  clear hm hR3
  go_wp2_with fail
  clear hrg
  go_loopg [5] 3 (fun g v wr => ∃ left, left.length = g ∧ Ranging Value.string wr w2.heap.size w1.heap.size left ∧ Found b left v ∧ Blk wr w.heap.size 27 [.int .i64 b, .bool k, .bool l, .bool x] ∧ Below w.heap.size w wr)
  case atStart => exact ⟨baseMap, rfl, HR3.out, Found.start hbr, hT3, hbw3⟩
  case round =>
    obtain ⟨left, hlen, hrn, hfd, hT, hb⟩ := hrel
    obtain ⟨y0, y1, y2, y3, z0, z1, z2, z3⟩ := box4 hT
    have hlr := hrn.lt
    rcases hrn.next (P := Tryd.prog) 0 with ⟨rfl, hnx⟩ | ⟨a, p, c, w4, rfl, hnx, hrn4, hen, hg4, hs4⟩
    · obtain rfl := hfd.fin
      have hlT := hT.lt
      have hbl := baseText_len b
      go_wp2_with fail
      refine (marks_any _ _).mono ?_
      rintro e w5 ⟨rfl, hb5⟩
      have hT5 := hT.below hb5 hlT
      have hbw5 := below_next hb hb5
      clear y0 y1 y2 y3 z0 z1 z2 z3 hnx HM HR3 hfd hrn hT3 hT2 hT1 hT hb hbw3 hbw2 hbw1 hb3 hb2 hb5
      have hsz : (baL (baseText b)).size ≤ 6 := by rw [baL_size]; exact hbl
      have HBL := Lib.hid hbl
      clear hbl
      go_wp2_with fail
      go_loopw [5, 8, 29] (fun v q i wr => ∃ j : Nat, j ≤ 3 ∧ i = .int .i64 j ∧ v = .string (baL (fmtSt b k l x j).1) ∧ q = .string (baL (fmtSt b k l x j).2) ∧ Blk wr w.heap.size 27 [.int .i64 b, .bool k, .bool l, .bool x] ∧ Below w.heap.size w wr) (fun _ _ i _ => 3 - (intOf i).toNat)
      case atStart => exact ⟨0, by omega, rfl, rfl, rfl, hT5, hbw5⟩
      case round =>
        clear hT5 hbw5
        obtain ⟨j, hj, rfl, rfl, rfl, hT, hb⟩ := hrel
        have hk' : j = 0 ∨ j = 1 ∨ j = 2 ∨ j = 3 := by omega
        rcases hk' with rfl | rfl | rfl | rfl
        · have i0 := idx0 w.heap.size
          unfold marksV at i0
          cases k
          all_goals
            obtain ⟨y0, y1, y2, y3, z0, z1, z2, z3⟩ := box4 hT
            have hs1 := fmt_size b HBL.out hT hb 0
            obtain ⟨hs1, hs2⟩ := hs1
            have hl := hT.lt
            go_wp2_with fail
            refine ⟨⟨1, by omega, rfl, ?_, ?_, hT.alloc _, hb.alloc hb.size _⟩, by decide⟩
            · exact congrArg Value.string (ba_ext (by first | rfl | simp [fmtSt, textT, markText, baL, ByteArray.data_append]))
            · exact congrArg Value.string (ba_ext rfl)
        · have i0 := idx1 w.heap.size
          unfold marksV at i0
          cases k <;> cases l
          all_goals
            obtain ⟨y0, y1, y2, y3, z0, z1, z2, z3⟩ := box4 hT
            have hs1 := fmt_size b HBL.out hT hb 1
            obtain ⟨hs1, hs2⟩ := hs1
            have hl := hT.lt
            go_wp2_with fail
            refine ⟨⟨2, by omega, rfl, ?_, ?_, hT.alloc _, hb.alloc hb.size _⟩, by decide⟩
            · exact congrArg Value.string (ba_ext (by first | rfl | simp [fmtSt, textT, markText, baL, ByteArray.data_append]))
            · exact congrArg Value.string (ba_ext rfl)
        · have i0 := idx2 w.heap.size
          unfold marksV at i0
          cases k <;> cases l <;> cases x
          all_goals
            obtain ⟨y0, y1, y2, y3, z0, z1, z2, z3⟩ := box4 hT
            have hs1 := fmt_size b HBL.out hT hb 2
            obtain ⟨hs1, hs2⟩ := hs1
            have hl := hT.lt
            go_wp2_with fail
            refine ⟨⟨3, by omega, rfl, ?_, ?_, hT.alloc _, hb.alloc hb.size _⟩, by decide⟩
            · exact congrArg Value.string (ba_ext (by first | rfl | simp [fmtSt, textT, markText, baL, ByteArray.data_append]))
            · exact congrArg Value.string (ba_ext rfl)
        · go_wp2_with fail
          go_ret2
          exact ⟨rfl, hb⟩
    · obtain ⟨n, rfl⟩ := hfd.entry
      have HFD := Lib.hid hfd
      have HRN := Lib.hid hrn4
      have hT4 : Blk w4 w.heap.size 27 [.int .i64 b, .bool k, .bool l, .bool x] := hT.grown hg4 (by intro e; injection e with e; omega)
      have hb4 : Below w.heap.size w w4 := hb.trans (below_of_grown hg4 (by omega) hb.size)
      clear hfd hrn4 hrn
      clear y0 y1 y2 y3 z0 z1 z2 z3
      obtain ⟨y0, y1, y2, y3, z0, z1, z2, z3⟩ := box4 hT4
      simp only [List.length_append, List.length_cons] at hlen
      by_cases hn : n = b
      · subst hn
        have hq : (n == n) = true := by simp
        go_wp2_with fail
        go_roundg (gk - 1)
        case measure => omega
        case rel => exact ⟨a ++ c, by simp; omega, HRN.out, HFD.out.hit, hT4, hb4⟩
      · have hq : (n == b) = false := by simpa using hn
        go_wp2_with fail
        go_roundg (gk - 1)
        case measure => omega
        case rel => exact ⟨a ++ c, by simp; omega, HRN.out, HFD.out.miss hn, hT4, hb4⟩

theorem format_any (b : Int) (k l x : Bool) (w : World) :
    Calls Tryd.prog 25 #[.agg #[.int .i64 b, .bool k, .bool l, .bool x]] w fun e w' => e = .returned (.tuple #[.string (if tyOk b k x = true then baL (textT ⟨b, k, l, x⟩) else ⟨#[]⟩), .int .i64 (errOf 90 (tyOk b k x))]) ∧ Below w.heap.size w w' := by
  cases h : tyOk b k x
  · exact format_bad b k l x w h
  · exact format_ok b k l x w h

end Go.Proofs.YtfifalpacagacaaDoor
