/- checkBytes, translate, Canon, Local; the reference's Ready, Canon, Local. -/
import Derived.Test.YtfifalpacagacaaDoorRepl
import Derived.Test.YtfifalpacagacaaDoorLines
import Derived.Test.YtfifalpacagacaaDoorTarget2
import Derived.Test.YtfifalpacagacaaDoorTy
import Derived.Test.YtfifalpacagacaaDoorBase
namespace Go.Proofs.YtfifalpacagacaaDoor
open Go.RowKit
set_option linter.unusedVariables false
set_option linter.unusedSimpArgs false

/-- The error with which bytes are refused. -/
def readyE (b : Int) (k x : Bool) (l : List UInt8) (ending : Int) : Int :=
  if tyOk b k x = false then 90 else if ending ≠ 1 ∧ ending ≠ 2 then 93 else if b = 3 ∧ targetB (baL l) = false then 91 else 0
theorem ready_bad {b : Int} {k x : Bool} {l : List UInt8} {ending : Int} (h : tyOk b k x = false) : readyE b k x l ending = 90 := if_pos h
theorem ready_end {b : Int} {k x : Bool} {l : List UInt8} {ending : Int} (h : tyOk b k x = true) (he : ending ≠ 1 ∧ ending ≠ 2) : readyE b k x l ending = 93 := by
  unfold readyE; rw [if_neg (by rw [h]; decide), if_pos he]
theorem ready_link {k x : Bool} {l : List UInt8} {ending : Int} (h : tyOk 3 k x = true) (he : ending = 1 ∨ ending = 2) (ht : targetB (baL l) = false) : readyE 3 k x l ending = 91 := by
  unfold readyE; rw [if_neg (by rw [h]; decide), if_neg (by omega), if_pos ⟨rfl, ht⟩]
theorem ready_ok {b : Int} {k x : Bool} {l : List UInt8} {ending : Int} (h : tyOk b k x = true) (he : ending = 1 ∨ ending = 2) (ht : b ≠ 3 ∨ targetB (baL l) = true) : readyE b k x l ending = 0 := by
  unfold readyE; rw [if_neg (by rw [h]; decide), if_neg (by omega), if_neg]
  rintro ⟨h1, h2⟩
  rcases ht with ht | ht
  · exact ht h1
  · rw [h2] at ht; cases ht

theorem str_run {w : World} {v : Value} {l : List UInt8} (h : Bytes w v l) : (convert 22 9 v).run Tryd.prog w = .ok (.string (baL l)) w := run_str h 22 9 5 Tryd.underlying22 Tryd.underlying5 Tryd.underlying9

set_option maxRecDepth 100000 in
set_option maxHeartbeats 4000000 in
theorem checkBytes_any (b : Int) (k l x : Bool) (bs : List UInt8) (v : Value) (ending : Int) (w : World) (hb : Bytes w v bs) (hl : bs.length ≤ 100000) :
    Calls Tryd.prog 61 #[.agg #[.int .i64 b, .bool k, .bool l, .bool x], v, .int .i64 ending] w fun e w' => e = .returned (.int .i64 (readyE b k x bs ending)) ∧ Below w.heap.size w w' := by
  have HC := Lib.hid (fun W => check_any b k l x W)
  have hA0 : Below w.heap.size w (w.alloc (.cells #[.int .i64 b, .bool k, .bool l, .bool x] 27)) := (Below.refl _ _).alloc (Nat.le_refl _) _
  obtain ⟨A, c, rfl, -⟩ := id hb
  cases hok : tyOk b k x
  · rw [hok] at HC
    have HR := Lib.hid (ready_bad (l := bs) (ending := ending) hok)
    clear hok
    go_enter Tryd.func61, Tryd.ntmps61
    go_wp2_with fail
    refine (HC.out _).mono ?_
    rintro e w1 ⟨rfl, hb1⟩
    go_wp2_with fail
    go_ret
    exact ⟨ret_int HR.out.symm, hA0.trans (hb1.mono (by simp))⟩
  · rw [hok] at HC
    by_cases hend : ending = 1 ∨ ending = 2
    · by_cases h3 : b = 3
      · subst h3
        cases ht : targetB (baL bs)
        · have HR := Lib.hid (ready_link hok hend ht)
          have HT := Lib.hid (fun W => isTarget_any (baL bs) W (by rw [baL_size]; unfold maxLen; omega))
          rw [ht] at HT
          have HB := Lib.hid hb
          clear hok ht hb
          rcases hend with rfl | rfl
          all_goals
            go_enter Tryd.func61, Tryd.ntmps61
            go_wp2_with fail
            refine (HC.out _).mono ?_
            rintro e w1 ⟨rfl, hb1⟩
            have hT1 := (blk_new w [.int .i64 3, .bool k, .bool l, .bool x] 27).below hb1 (by simp)
            have hbw1 : Below w.heap.size w w1 := hA0.trans (hb1.mono (by simp))
            obtain ⟨y0, y1, y2, y3, z0, z1, z2, z3⟩ := box4 hT1
            have hstr := str_run (HB.out.below hbw1)
            go_wp2_with fail
            refine (HT.out _).mono ?_
            rintro e w2 ⟨rfl, hb2⟩
            go_wp2_with fail
            go_ret
            exact ⟨ret_int HR.out.symm, below_next hbw1 hb2⟩
        · have HR := Lib.hid (ready_ok (l := bs) hok hend (.inr ht))
          have HT := Lib.hid (fun W => isTarget_any (baL bs) W (by rw [baL_size]; unfold maxLen; omega))
          rw [ht] at HT
          have HB := Lib.hid hb
          clear hok ht hb
          rcases hend with rfl | rfl
          all_goals
            go_enter Tryd.func61, Tryd.ntmps61
            go_wp2_with fail
            refine (HC.out _).mono ?_
            rintro e w1 ⟨rfl, hb1⟩
            have hT1 := (blk_new w [.int .i64 3, .bool k, .bool l, .bool x] 27).below hb1 (by simp)
            have hbw1 : Below w.heap.size w w1 := hA0.trans (hb1.mono (by simp))
            obtain ⟨y0, y1, y2, y3, z0, z1, z2, z3⟩ := box4 hT1
            have hstr := str_run (HB.out.below hbw1)
            go_wp2_with fail
            refine (HT.out _).mono ?_
            rintro e w2 ⟨rfl, hb2⟩
            go_wp2_with fail
            go_ret
            exact ⟨ret_int HR.out.symm, below_next hbw1 hb2⟩
      · have HR := Lib.hid (ready_ok (l := bs) hok hend (.inl h3))
        have q3 : (b == 3) = false := by simpa using h3
        clear hok h3
        rcases hend with rfl | rfl
        all_goals
          go_enter Tryd.func61, Tryd.ntmps61
          go_wp2_with fail
          refine (HC.out _).mono ?_
          rintro e w1 ⟨rfl, hb1⟩
          have hT1 := (blk_new w [.int .i64 b, .bool k, .bool l, .bool x] 27).below hb1 (by simp)
          have hbw1 : Below w.heap.size w w1 := hA0.trans (hb1.mono (by simp))
          obtain ⟨y0, y1, y2, y3, z0, z1, z2, z3⟩ := box4 hT1
          go_wp2_with fail
          go_ret
          exact ⟨ret_int HR.out.symm, hbw1⟩
    · have HR := Lib.hid (ready_end (l := bs) hok (by omega : ending ≠ 1 ∧ ending ≠ 2))
      have q1 : (ending == 1) = false := by rw [beq_eq_false_iff_ne]; omega
      have q2 : (ending == 2) = false := by rw [beq_eq_false_iff_ne]; omega
      have q3 : (ending != 1) = true := by rw [bne_iff_ne]; omega
      have q4 : (ending != 2) = true := by rw [bne_iff_ne]; omega
      clear hok hend
      go_enter Tryd.func61, Tryd.ntmps61
      go_wp2_with fail
      refine (HC.out _).mono ?_
      rintro e w1 ⟨rfl, hb1⟩
      have hbw1 : Below w.heap.size w w1 := hA0.trans (hb1.mono (by simp))
      go_wp2_with fail
      go_ret
      exact ⟨ret_int HR.out.symm, hbw1⟩

/-- What the translation makes of bytes. -/
def transL (b ending : Int) (o nw l : List UInt8) : List UInt8 := if b = 1 ∧ ending = 2 then replR o nw l else l

set_option maxRecDepth 100000 in
set_option maxHeartbeats 4000000 in
theorem translate_err (b : Int) (k l x : Bool) (bs : List UInt8) (v : Value) (ending : Int) (f t : ByteArray) (w : World) (hb : Bytes w v bs) (hl : bs.length ≤ 100000) (h : readyE b k x bs ending ≠ 0) :
    Calls Tryd.prog 41 #[.agg #[.int .i64 b, .bool k, .bool l, .bool x], v, .int .i64 ending, .string f, .string t] w fun e w' => e = .returned (.tuple #[.slice none 0 0, .int .i64 (readyE b k x bs ending)]) ∧ Below w.heap.size w w' := by
  have hA0 : Below w.heap.size w (w.alloc (.cells #[.int .i64 b, .bool k, .bool l, .bool x] 27)) := (Below.refl _ _).alloc (Nat.le_refl _) _
  have HC := Lib.hid (checkBytes_any b k l x bs v ending _ (hb.below hA0) hl)
  obtain ⟨A, c, rfl, -⟩ := id hb
  have q1 : (readyE b k x bs ending == 0) = false := by simpa using h
  have q2 : (readyE b k x bs ending != 0) = true := by simpa using h
  generalize readyE b k x bs ending = r at *
  clear hb h
  go_enter Tryd.func41, Tryd.ntmps41
  go_wp2_with fail
  refine HC.out.mono ?_
  rintro e w1 ⟨rfl, hb1⟩
  go_wp2_with fail
  go_ret2
  exact ⟨rfl, hA0.trans (hb1.mono (by simp))⟩

set_option maxRecDepth 100000 in
set_option maxHeartbeats 4000000 in
theorem translate_same (b : Int) (k l x : Bool) (bs : List UInt8) (v : Value) (ending : Int) (f t : ByteArray) (w : World) (hb : Bytes w v bs) (hl : bs.length ≤ 100000) (h : readyE b k x bs ending = 0) (hn : ¬ (b = 1 ∧ ending = 2)) :
    Calls Tryd.prog 41 #[.agg #[.int .i64 b, .bool k, .bool l, .bool x], v, .int .i64 ending, .string f, .string t] w fun e w' => ∃ v', e = .returned (.tuple #[v', .int .i64 0]) ∧ Bytes w' v' bs ∧ Below w.heap.size w w' := by
  have hA0 : Below w.heap.size w (w.alloc (.cells #[.int .i64 b, .bool k, .bool l, .bool x] 27)) := (Below.refl _ _).alloc (Nat.le_refl _) _
  have HC := checkBytes_any b k l x bs v ending _ (hb.below hA0) hl
  rw [h] at HC
  have HHC := Lib.hid HC
  have HB := Lib.hid hb
  obtain ⟨A, c, rfl, -⟩ := id hb
  clear hb h HC
  have hcl := Lib.hid (fun W hW => clone_bytes bs (.slice A bs.length c) W hW (by omega))
  by_cases h1 : b = 1
  · have q1 : (b == 1) = true := by simpa using h1
    have q2 : (b != 1) = false := by simpa using h1
    have q3 : (ending == 2) = false := by rw [beq_eq_false_iff_ne]; intro e; exact hn ⟨h1, e⟩
    have q4 : (ending != 2) = true := by rw [bne_iff_ne]; intro e; exact hn ⟨h1, e⟩
    clear hn h1
    go_enter Tryd.func41, Tryd.ntmps41
    go_wp2_with fail
    refine HHC.out.mono ?_
    rintro e w1 ⟨rfl, hb1⟩
    have hT1 := (blk_new w [.int .i64 b, .bool k, .bool l, .bool x] 27).below hb1 (by simp)
    have hbw1 : Below w.heap.size w w1 := hA0.trans (hb1.mono (by simp))
    obtain ⟨y0, y1, y2, y3, z0, z1, z2, z3⟩ := box4 hT1
    go_wp2_with fail
    refine (hcl.out _ (HB.out.below hbw1)).mono ?_
    rintro e w2 ⟨v', rfl, hv', hb2⟩
    go_wp2_with fail
    go_ret2
    exact ⟨_, rfl, hv', below_next hbw1 hb2⟩
  · have q1 : (b == 1) = false := by simpa using h1
    have q2 : (b != 1) = true := by simpa using h1
    clear hn h1
    go_enter Tryd.func41, Tryd.ntmps41
    go_wp2_with fail
    refine HHC.out.mono ?_
    rintro e w1 ⟨rfl, hb1⟩
    have hT1 := (blk_new w [.int .i64 b, .bool k, .bool l, .bool x] 27).below hb1 (by simp)
    have hbw1 : Below w.heap.size w w1 := hA0.trans (hb1.mono (by simp))
    obtain ⟨y0, y1, y2, y3, z0, z1, z2, z3⟩ := box4 hT1
    go_wp2_with fail
    refine (hcl.out _ (HB.out.below hbw1)).mono ?_
    rintro e w2 ⟨v', rfl, hv', hb2⟩
    go_wp2_with fail
    go_ret2
    exact ⟨_, rfl, hv', below_next hbw1 hb2⟩

set_option maxRecDepth 100000 in
set_option maxHeartbeats 4000000 in
theorem translate_repl (k l x : Bool) (bs : List UInt8) (v : Value) (f t : ByteArray) (w : World) (he : Env w) (hb : Bytes w v bs) (hl : bs.length ≤ 100000) (h : readyE 1 k x bs 2 = 0) (hf1 : 1 ≤ f.size) (hf2 : f.size ≤ 2) (ht1 : 1 ≤ t.size) (ht2 : t.size ≤ 2) :
    Calls Tryd.prog 41 #[.agg #[.int .i64 1, .bool k, .bool l, .bool x], v, .int .i64 2, .string f, .string t] w fun e w' => ∃ v', e = .returned (.tuple #[v', .int .i64 0]) ∧ Bytes w' v' (replR f.data.toList t.data.toList bs) ∧ Below w.heap.size w w' := by
  have hA0 : Below w.heap.size w (w.alloc (.cells #[.int .i64 1, .bool k, .bool l, .bool x] 27)) := (Below.refl _ _).alloc (Nat.le_refl _) _
  have HC := checkBytes_any 1 k l x bs v 2 _ (hb.below hA0) hl
  rw [h] at HC
  have HHC := Lib.hid HC
  have HB := Lib.hid hb
  obtain ⟨A, c, rfl, -⟩ := id hb
  have hcvf := fun W => run_cvt (P := Tryd.prog) W 9 22 5 f Tryd.underlying9 Tryd.underlying22 Tryd.underlying5
  have hcvt := fun W => run_cvt (P := Tryd.prog) W 9 22 5 t Tryd.underlying9 Tryd.underlying22 Tryd.underlying5
  clear hb h HC
  go_enter Tryd.func41, Tryd.ntmps41
  go_wp2_with fail
  refine HHC.out.mono ?_
  rintro e w1 ⟨rfl, hb1⟩
  have hT1 := (blk_new w [.int .i64 1, .bool k, .bool l, .bool x] 27).below hb1 (by simp)
  have hbw1 : Below w.heap.size w w1 := hA0.trans (hb1.mono (by simp))
  obtain ⟨y0, y1, y2, y3, z0, z1, z2, z3⟩ := box4 hT1
  go_wp2_with fail
  have hw2 := cvt_below w1 f 5
  have hw3 := cvt_below (cvtW w1 f 5) t 5
  have hbF : Bytes (cvtW w1 f 5) (.slice (some ⟨w1.heap.size, 0, none⟩) f.size (cvtCap w1 f 5)) f.data.toList := cvt_bytes w1 f 5 (by unfold maxLen; omega)
  have hbT : Bytes (cvtW (cvtW w1 f 5) t 5) (.slice (some ⟨(cvtW w1 f 5).heap.size, 0, none⟩) t.size (cvtCap (cvtW w1 f 5) t 5)) t.data.toList := cvt_bytes (cvtW w1 f 5) t 5 (by unfold maxLen; omega)
  have hbF2 := (BytesAt.of_bytes hbF).below hw3
  have hbT2 := BytesAt.of_bytes hbT
  have hbl3 : Below w.heap.size w (cvtW (cvtW w1 f 5) t 5) := below_next (below_next hbw1 hw2) hw3
  have HR := Lib.hid (replaceAll_any bs f.data.toList t.data.toList (.slice A bs.length c) w1.heap.size (cvtCap w1 f 5) (cvtW w1 f 5).heap.size (cvtCap (cvtW w1 f 5) t 5) (cvtW (cvtW w1 f 5) t 5) (he.below hbl3) (HB.out.below hbl3) hbF2 hbT2 hf1 hl hf2 ht2 ht1)
  refine HR.out.mono ?_
  rintro e w4 ⟨v', rfl, hv', hb4⟩
  go_wp2_with fail
  go_ret2
  exact ⟨_, rfl, hv', below_next hbl3 hb4⟩

def transR (b : Int) (k x : Bool) (ending : Int) (o nw l : List UInt8) : List UInt8 := if readyE b k x l ending = 0 then transL b ending o nw l else []
/-- What a translation returns. -/
def TransP (b : Int) (k x : Bool) (ending : Int) (o nw l : List UInt8) (w : World) (e : Ending) (w' : World) : Prop :=
  ∃ v', e = .returned (.tuple #[v', .int .i64 (readyE b k x l ending)]) ∧ Bytes w' v' (transR b k x ending o nw l) ∧ Below w.heap.size w w'
theorem translate_any (b : Int) (k l x : Bool) (bs : List UInt8) (v : Value) (ending : Int) (f t : ByteArray) (w : World) (he : Env w) (hb : Bytes w v bs) (hl : bs.length ≤ 100000) (hf1 : 1 ≤ f.size) (hf2 : f.size ≤ 2) (ht1 : 1 ≤ t.size) (ht2 : t.size ≤ 2) :
    Calls Tryd.prog 41 #[.agg #[.int .i64 b, .bool k, .bool l, .bool x], v, .int .i64 ending, .string f, .string t] w (TransP b k x ending f.data.toList t.data.toList bs w) := by
  by_cases h : readyE b k x bs ending = 0
  · have hR : transR b k x ending f.data.toList t.data.toList bs = transL b ending f.data.toList t.data.toList bs := if_pos h
    by_cases hn : b = 1 ∧ ending = 2
    · obtain ⟨rfl, rfl⟩ := hn
      refine (translate_repl k l x bs v f t w he hb hl h hf1 hf2 ht1 ht2).mono ?_
      rintro e w' ⟨v', rfl, h1, h2⟩
      exact ⟨v', by rw [h], by rw [hR]; unfold transL; rw [if_pos ⟨rfl, rfl⟩]; exact h1, h2⟩
    · refine (translate_same b k l x bs v ending f t w hb hl h hn).mono ?_
      rintro e w' ⟨v', rfl, h1, h2⟩
      exact ⟨v', by rw [h], by rw [hR]; unfold transL; rw [if_neg hn]; exact h1, h2⟩
  · refine (translate_err b k l x bs v ending f t w hb hl h).mono ?_
    rintro e w' ⟨rfl, h2⟩
    refine ⟨_, rfl, ?_, h2⟩
    have hR : transR b k x ending f.data.toList t.data.toList bs = [] := if_neg h
    rw [hR]; exact Row.nil_ _ _

theorem canon_any (b : Int) (k l x : Bool) (bs : List UInt8) (v : Value) (ending : Int) (w : World) (he : Env w) (hb : Bytes w v bs) (hl : bs.length ≤ 100000) :
    Calls Tryd.prog 17 #[.agg #[.int .i64 b, .bool k, .bool l, .bool x], v, .int .i64 ending] w (TransP b k x ending [13, 10] [10] bs w) := by
  have hA0 : Below w.heap.size w (w.alloc (.cells #[.int .i64 b, .bool k, .bool l, .bool x] 27)) := (Below.refl _ _).alloc (Nat.le_refl _) _
  have H := Lib.hid (translate_any b k l x bs v ending ⟨#[13, 10]⟩ ⟨#[10]⟩ _ (he.below hA0) (hb.below hA0) hl (by decide) (by decide) (by decide) (by decide))
  obtain ⟨A, c, rfl, -⟩ := id hb
  clear hb he
  go_enter Tryd.func17, Tryd.ntmps17
  go_wp2_with fail
  refine H.out.mono ?_
  rintro e w1 ⟨v', rfl, h1, h2⟩
  go_wp2_with fail
  go_ret2
  exact ⟨v', rfl, h1, hA0.trans (h2.mono (by simp))⟩
theorem local_any (b : Int) (k l x : Bool) (bs : List UInt8) (v : Value) (ending : Int) (w : World) (he : Env w) (hb : Bytes w v bs) (hl : bs.length ≤ 100000) :
    Calls Tryd.prog 32 #[.agg #[.int .i64 b, .bool k, .bool l, .bool x], v, .int .i64 ending] w (TransP b k x ending [10] [13, 10] bs w) := by
  have hA0 : Below w.heap.size w (w.alloc (.cells #[.int .i64 b, .bool k, .bool l, .bool x] 27)) := (Below.refl _ _).alloc (Nat.le_refl _) _
  have H := Lib.hid (translate_any b k l x bs v ending ⟨#[10]⟩ ⟨#[13, 10]⟩ _ (he.below hA0) (hb.below hA0) hl (by decide) (by decide) (by decide) (by decide))
  obtain ⟨A, c, rfl, -⟩ := id hb
  clear hb he
  go_enter Tryd.func32, Tryd.ntmps32
  go_wp2_with fail
  refine H.out.mono ?_
  rintro e w1 ⟨v', rfl, h1, h2⟩
  go_wp2_with fail
  go_ret2
  exact ⟨v', rfl, h1, hA0.trans (h2.mono (by simp))⟩

end Go.Proofs.YtfifalpacagacaaDoor
