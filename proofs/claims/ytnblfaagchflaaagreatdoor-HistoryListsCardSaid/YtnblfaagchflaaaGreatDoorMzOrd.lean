/- The reference's Compare, Order, Before: the walks. -/
import Derived.Test.YtnblfaagchflaaaGreatDoorMgw4
import Derived.Test.YtnblfaagchflaaaGreatDoorMgw14
import Derived.Test.YtnblfaagchflaaaGreatDoorMgw9
import Derived.StillTailTactics
import Derived.IntWalk
namespace Go.Proofs.YtnblfaagchflaaaGreatDoor
open Go.RowKit
set_option linter.unusedVariables false
set_option linter.unusedSimpArgs false

theorem strCmp (a b : ByteArray) (w : World) : Calls Tryz.prog 98 #[.string a, .string b] w fun e w' => e = .returned (.int .i64 (Lib.compareBytes a.data.toList b.data.toList)) ∧ w = w' :=
  (Tryz.strings_Compare a b w).mono fun e w' ⟨h1, h2⟩ => ⟨h1, h2.symm⟩
/-- Of both lists the first k agree. -/
def agree (ps qs : List (List UInt8)) (k : Nat) : Prop := cmpC (ps.drop k) (qs.drop k) = cmpC ps qs
theorem agree_next {ps qs : List (List UInt8)} {k : Nat} (h1 : k < ps.length) (h2 : k < qs.length) (h : agree ps qs k) : (Lib.compareBytes ps[k] qs[k] = 0 → agree ps qs (k + 1)) ∧ (Lib.compareBytes ps[k] qs[k] ≠ 0 → cmpC ps qs = Lib.compareBytes ps[k] qs[k]) := by
  unfold agree at h ⊢
  rw [List.drop_eq_getElem_cons h1, List.drop_eq_getElem_cons h2, cmpC] at h
  refine ⟨fun h0 => ?_, fun h0 => ?_⟩
  · rw [if_pos h0] at h; exact h
  · rw [if_neg h0] at h; exact h.symm
theorem agree_end {ps qs : List (List UInt8)} {k : Nat} (h : agree ps qs k) (hk : k ≤ ps.length) (hk2 : k ≤ qs.length) (he : k = ps.length ∨ k = qs.length) : cmpC ps qs = if ps.length < qs.length then -1 else if qs.length < ps.length then 1 else 0 := by
  unfold agree at h
  rw [← h]
  rcases he with rfl | rfl
  · rw [List.drop_length]
    by_cases hq : ps.length < qs.length
    · rw [if_pos hq, List.drop_eq_getElem_cons hq]; rfl
    · have : ps.length = qs.length := by omega
      rw [if_neg hq, if_neg (by omega), this, List.drop_length]; rfl
  · rw [List.drop_length]
    by_cases hq : qs.length < ps.length
    · rw [if_neg (by omega), if_pos hq, List.drop_eq_getElem_cons hq]; rfl
    · have : ps.length = qs.length := by omega
      rw [if_neg (by omega), if_neg hq, ← this, List.drop_length]; rfl

set_option maxRecDepth 100000 in
set_option maxHeartbeats 4000000 in
theorem compare_parts (ps qs : List (List UInt8)) (g1 g2 : Nat) (w : World) (hp : StrsAt w g1 0 ps) (hq : StrsAt w g2 0 qs) (h1 : ps.length ≤ 2000001) (h2 : qs.length ≤ 2000001) :
    Calls Tryz.prog 99 #[.slice (some ⟨g1, 0, none⟩) ps.length ps.length, .slice (some ⟨g2, 0, none⟩) qs.length qs.length] w fun e w' => e = .returned (.int .i64 (cmpC ps qs)) ∧ Below w.heap.size w w' := by
  have HP := Lib.hid hp
  have HQ := Lib.hid hq
  have HC := Lib.hid (fun a b X => strCmp a b X)
  clear hp hq
  go_enter Tryz.func99, Tryz.ntmps99
  go_wp2_with fail
  go_loopw [5] (fun s wr => ∃ k : Nat, s = .int .i64 k ∧ k ≤ ps.length ∧ k ≤ qs.length ∧ Hid (agree ps qs k ∧ Below w.heap.size w wr)) (fun s _ => ps.length - (intOf s).toNat)
  case atStart => exact ⟨0, rfl, Nat.zero_le _, Nat.zero_le _, rfl, Below.refl _ _⟩
  case round =>
    obtain ⟨k, rfl, hk, hk2, HI⟩ := hrel
    by_cases hlt : k < ps.length
    · by_cases hlt2 : k < qs.length
      · have hx : wr.cell? ⟨g1, k, none⟩ = some (.string (baL ps[k])) := by
          have h := HP.out k hlt
          rw [Nat.zero_add] at h
          exact cell_below h HI.out.2 (cell_lt h)
        have hy : wr.cell? ⟨g2, k, none⟩ = some (.string (baL qs[k])) := by
          have h := HQ.out k hlt2
          rw [Nat.zero_add] at h
          exact cell_below h HI.out.2 (cell_lt h)
        have HN := Lib.hid (agree_next hlt hlt2 HI.out.1)
        have z1 : (k : Int) < (ps.length : Int) := by omega
        have z2 : (k : Int) < (qs.length : Int) := by omega
        have d1 : decide (k < ps.length) = true := by simp; omega
        have d2 : decide (k < qs.length) = true := by simp; omega
        generalize ps[k] = x at hx HN
        generalize qs[k] = y at hy HN
        go_wp2_with fail
        go_quiet ((go_at_call 98; exact quiet_left (strCmp _ _ _)))
        clear hx hy d1 d2
        have HB : Hid (Below w.heap.size w (wr.drewN nq)) := Lib.hid (below_dN HI.out.2 nq)
        generalize wr.drewN nq = wz at HB ⊢
        rw [baL_data, baL_data]
        by_cases h0 : Lib.compareBytes x y = 0
        · have HA := Lib.hid (HN.out.1 h0)
          rw [h0]
          clear h0 HN
          go_wp2_with fail
          go_roundw
          case rel => exact ⟨k + 1, by go_num, by omega, by omega, HA.out, HB.out⟩
          case measure => simp [intOf]; omega
        · have HA := Lib.hid (HN.out.2 h0)
          have q : (Lib.compareBytes x y != 0) = true := by simpa using h0
          generalize Lib.compareBytes x y = c at HA q
          clear h0 HN
          go_wp2_with fail
          go_ret
          exact ⟨by rw [HA.out]; rfl, HB.out⟩
      · have d1 : decide (k < ps.length) = true := by simp; omega
        have d2 : decide (k < qs.length) = false := by simp; omega
        have HA := Lib.hid (agree_end HI.out.1 hk hk2 (.inr (by omega)))
        have d3 : decide (ps.length < qs.length) = false := by simp; omega
        have d4 : decide (qs.length < ps.length) = true := by simp; omega
        have HV : Hid ((if ps.length < qs.length then (-1 : Int) else if qs.length < ps.length then 1 else 0) = 1) := Lib.hid (by rw [if_neg (by omega), if_pos (by omega)])
        go_wp2_with fail
        go_ret
        exact ⟨by rw [HA.out, HV.out]; rfl, HI.out.2⟩
    · have d1 : decide (k < ps.length) = false := by simp; omega
      have HA := Lib.hid (agree_end HI.out.1 hk hk2 (.inl (by omega)))
      by_cases hq : ps.length < qs.length
      · have d3 : decide (ps.length < qs.length) = true := by simp; omega
        have HV : Hid ((if ps.length < qs.length then (-1 : Int) else if qs.length < ps.length then 1 else 0) = -1) := Lib.hid (by rw [if_pos (by omega)])
        go_wp2_with fail
        go_ret
        exact ⟨by rw [HA.out, HV.out]; rfl, HI.out.2⟩
      · have d3 : decide (ps.length < qs.length) = false := by simp; omega
        have d4 : decide (qs.length < ps.length) = false := by simp; omega
        have HV : Hid ((if ps.length < qs.length then (-1 : Int) else if qs.length < ps.length then 1 else 0) = 0) := Lib.hid (by rw [if_neg (by omega), if_neg (by omega)])
        go_wp2_with fail
        go_ret
        exact ⟨by rw [HA.out, HV.out]; rfl, HI.out.2⟩

/-- What Order leaves: for two paths the program's own order. -/
def OrdPost (w : World) (a b : ByteArray) (e : Ending) (w' : World) : Prop := ∃ n : Int, e = .returned (.int .i64 n) ∧ Below w.heap.size w w' ∧ (validS a = true → validS b = true → n = cmpP a b)
theorem valid_none {a : ByteArray} (h : dirL a.data.toList 2 = none) : validS a = false := by unfold validS validB; rw [h]; rfl
/-- What Order says of any two texts. -/
def ordF (a b : ByteArray) : Int := match dirL a.data.toList 2, dirL b.data.toList 2 with
  | none, none => Lib.compareBytes a.data.toList b.data.toList
  | none, some _ => -1
  | some _, none => 1
  | some ps, some qs => cmpC ps qs
theorem ordF_valid {a b : ByteArray} (ha : validS a = true) (hb : validS b = true) : ordF a b = cmpP a b := by
  unfold ordF
  cases hda : dirL a.data.toList 2 with
  | none => rw [valid_none hda] at ha; cases ha
  | some ps =>
    cases hdb : dirL b.data.toList 2 with
    | none => rw [valid_none hdb] at hb; cases hb
    | some qs => exact (cmpP_comps hda hdb).symm
set_option maxRecDepth 100000 in
set_option maxHeartbeats 4000000 in
theorem order_det (a b : ByteArray) (w : World) (he : Env w) (ha : a.size ≤ 2000000) (hb : b.size ≤ 2000000) :
    Calls Tryz.prog 63 #[.string a, .string b] w fun e w' => e = .returned (.int .i64 (ordF a b)) ∧ Below w.heap.size w w' := by
  have HE := Lib.hid he
  clear he
  have HC := Lib.hid (fun a b X => strCmp a b X)
  cases hda : dirL a.data.toList 2 with
  | none =>
    have HVA := Lib.hid (valid_none hda)
    have HA := Lib.hid (refPath_none a w HE.out ha hda)
    cases hdb : dirL b.data.toList 2 with
    | none =>
      have HB := Lib.hid (fun X (hX : Below w.heap.size w X) => refPath_none b X (HE.out.below hX) hb hdb)
      have HF : Hid (ordF a b = Lib.compareBytes a.data.toList b.data.toList) := Lib.hid (by unfold ordF; rw [hda, hdb])
      clear hda hdb
      go_enter Tryz.func63, Tryz.ntmps63
      go_wp2_with fail
      refine HA.out.mono ?_
      rintro e w1 ⟨rfl, hb1⟩
      have HB1 := Lib.hid (HB.out w1 hb1)
      have H1 := Lib.hid hb1
      clear hb1
      go_wp2_with fail
      refine HB1.out.mono ?_
      rintro e w2 ⟨rfl, hb2⟩
      have H2 := Lib.hid hb2
      clear hb2
      go_wp2_with fail
      refine (HC.out a b w2).mono ?_
      rintro e w3 ⟨rfl, rfl⟩
      go_wp2_with fail
      go_ret
      exact ⟨ret_int HF.out.symm, below_next H1.out H2.out⟩
    | some qs =>
      have HB := Lib.hid (fun X (hX : Below w.heap.size w X) => refPath_some b qs X (HE.out.below hX) hb hdb)
      have HF : Hid (ordF a b = -1) := Lib.hid (by unfold ordF; rw [hda, hdb])
      clear hda hdb
      go_enter Tryz.func63, Tryz.ntmps63
      go_wp2_with fail
      refine HA.out.mono ?_
      rintro e w1 ⟨rfl, hb1⟩
      have HB1 := Lib.hid (HB.out w1 hb1)
      have H1 := Lib.hid hb1
      clear hb1
      go_wp2_with fail
      refine HB1.out.mono ?_
      rintro e w2 ⟨rfl, rfl⟩
      have H2 : Hid (Below w1.heap.size w1 (w1.alloc (.cells (strCells qs).toArray 9))) := Lib.hid ((Below.refl _ _).alloc (Nat.le_refl _) _)
      generalize w1.alloc (.cells (strCells qs).toArray 9) = w2 at H2 ⊢
      go_wp2_with fail
      go_ret
      exact ⟨ret_int HF.out.symm, below_next H1.out H2.out⟩
  | some ps =>
    have HA := Lib.hid (refPath_some a ps w HE.out ha hda)
    have hA1 : Below w.heap.size w (w.alloc (.cells (strCells ps).toArray 9)) := (Below.refl _ _).alloc (Nat.le_refl _) _
    have hS1 := StrsAt.of_blk (blk_new w (strCells ps) 9)
    cases hdb : dirL b.data.toList 2 with
    | none =>
      have HVB := Lib.hid (valid_none hdb)
      have HB := Lib.hid (fun X (hX : Below w.heap.size w X) => refPath_none b X (HE.out.below hX) hb hdb)
      have HF : Hid (ordF a b = 1) := Lib.hid (by unfold ordF; rw [hda, hdb])
      clear hda hdb
      go_enter Tryz.func63, Tryz.ntmps63
      go_wp2_with fail
      refine HA.out.mono ?_
      rintro e w1 ⟨rfl, rfl⟩
      have HB1 := Lib.hid (HB.out _ hA1)
      have H1 := Lib.hid hA1
      clear hA1 hS1
      generalize w.alloc (.cells (strCells ps).toArray 9) = w1 at HB1 H1 ⊢
      go_wp2_with fail
      refine HB1.out.mono ?_
      rintro e w2 ⟨rfl, hb2⟩
      have H2 := Lib.hid hb2
      clear hb2
      go_wp2_with fail
      go_ret
      exact ⟨ret_int HF.out.symm, below_next H1.out H2.out⟩
    | some qs =>
      have HB := Lib.hid (fun X (hX : Below w.heap.size w X) => refPath_some b qs X (HE.out.below hX) hb hdb)
      have HCM := Lib.hid (cmpP_comps hda hdb)
      have hlp : ps.length ≤ 2000001 ∧ qs.length ≤ 2000001 := by
        have k1 : ps = splitL (a.data.toList.drop 2) := by unfold dirL at hda; split at hda; (injection hda with h; exact h.symm); cases hda
        have k2 : qs = splitL (b.data.toList.drop 2) := by unfold dirL at hdb; split at hdb; (injection hdb with h; exact h.symm); cases hdb
        rw [k1, k2]
        exact ⟨(split_bounds a 2 ha).1, (split_bounds b 2 hb).1⟩
      have HLP := Lib.hid hlp
      have HF : Hid (ordF a b = cmpC ps qs) := Lib.hid (by unfold ordF; rw [hda, hdb])
      clear hda hdb hlp
      go_enter Tryz.func63, Tryz.ntmps63
      go_wp2_with fail
      refine HA.out.mono ?_
      rintro e w1 ⟨rfl, rfl⟩
      have HB1 := Lib.hid (HB.out _ hA1)
      have H1 := Lib.hid hA1
      have HS1 := Lib.hid hS1
      clear hA1 hS1
      generalize w.alloc (.cells (strCells ps).toArray 9) = w1 at HB1 H1 HS1 ⊢
      go_wp2_with fail
      refine HB1.out.mono ?_
      rintro e w2 ⟨rfl, rfl⟩
      have hA2 : Below w1.heap.size w1 (w1.alloc (.cells (strCells qs).toArray 9)) := (Below.refl _ _).alloc (Nat.le_refl _) _
      have HS2 := Lib.hid (StrsAt.of_blk (blk_new w1 (strCells qs) 9))
      have HS3 := Lib.hid (HS1.out.below hA2)
      have H2 := Lib.hid hA2
      clear hA2
      generalize w1.alloc (.cells (strCells qs).toArray 9) = w2 at HS2 HS3 H2 ⊢
      have HCP := Lib.hid (compare_parts ps qs w.heap.size w1.heap.size w2 HS3.out HS2.out HLP.out.1 HLP.out.2)
      go_wp2_with fail
      refine HCP.out.mono ?_
      rintro e w3 ⟨rfl, hb3⟩
      have H3 := Lib.hid hb3
      clear hb3
      go_wp2_with fail
      go_ret
      exact ⟨ret_int HF.out.symm, below_next H1.out (below_next H2.out H3.out)⟩
theorem order_any (a b : ByteArray) (w : World) (he : Env w) (ha : a.size ≤ 2000000) (hb : b.size ≤ 2000000) :
    Calls Tryz.prog 63 #[.string a, .string b] w (OrdPost w a b) :=
  (order_det a b w he ha hb).mono fun e w' ⟨h1, h2⟩ => ⟨_, h1, h2, fun h3 h4 => ordF_valid h3 h4⟩

/-- What Before leaves: for records of paths whether the one comes ahead. -/
def BefPost (w : World) (a b : Rcd) (e : Ending) (w' : World) : Prop := ∃ v : Bool, e = .returned (.bool v) ∧ Below w.heap.size w w' ∧ (a.val_ → b.val_ → v = decide (cmpR a b < 0))
theorem cmpI_lt {a b : Int} (h : a ≠ b) : (cmpI a b < 0 ↔ a < b) ∧ cmpI a b ≠ 0 := by
  unfold cmpI; split
  · exact ⟨by constructor <;> intro <;> omega, by decide⟩
  · split
    · exact ⟨by constructor <;> intro <;> omega, by decide⟩
    · omega
theorem bef1 {a b : Rcd} {n : Int} (h : n ≠ 0) (hn : n = cmpP a.to b.to) : decide (n < 0) = decide (cmpR a b < 0) := by
  unfold cmpR orI; rw [← hn, if_neg h]
theorem bef2 {a b : Rcd} (h : cmpP a.to b.to = 0) (hn : a.num ≠ b.num) : decide (a.num < b.num) = decide (cmpR a b < 0) := by
  obtain ⟨h1, h2⟩ := cmpI_lt hn
  unfold cmpR orI; rw [if_pos h, if_neg h2]
  rw [decide_eq_decide]; exact h1.symm
theorem cmpI_eq {a b : Int} (h : a = b) : cmpI a b = 0 := by subst h; unfold cmpI; simp
theorem bef3 {a b : Rcd} {n : Int} (h : cmpP a.to b.to = 0) (he : a.num = b.num) (hz : n ≠ 0) (hn : n = cmpP a.frm b.frm) : decide (n < 0) = decide (cmpR a b < 0) := by
  unfold cmpR orI; rw [if_pos h, if_pos (cmpI_eq he), ← hn, if_neg hz]
theorem bef4 {a b : Rcd} (h : cmpP a.to b.to = 0) (he : a.num = b.num) (hn : cmpP a.frm b.frm = 0) : decide (a.first < b.first) = decide (cmpR a b < 0) := by
  unfold cmpR orI; rw [if_pos h, if_pos (cmpI_eq he), if_pos hn]
  rw [decide_eq_decide]
  unfold cmpI
  constructor
  · intro hh; rw [if_pos hh]; decide
  · intro hh; split at hh
    · assumption
    · split at hh <;> omega
/-- What Before says of any two records. -/
def befF (a b : Rcd) : Bool := if ordF a.to b.to ≠ 0 then decide (ordF a.to b.to < 0) else if a.num ≠ b.num then decide (a.num < b.num) else if ordF a.frm b.frm ≠ 0 then decide (ordF a.frm b.frm < 0) else decide (a.first < b.first)
theorem befF_valid {a b : Rcd} (ha : a.val_) (hb : b.val_) : befF a b = decide (cmpR a b < 0) := by
  unfold befF
  rw [ordF_valid ha.2 hb.2, ordF_valid ha.1 hb.1]
  split
  · rename_i h; exact bef1 h rfl
  · rename_i h
    rw [Decidable.not_not] at h
    split
    · rename_i h2; exact bef2 h h2
    · rename_i h2
      rw [Decidable.not_not] at h2
      split
      · rename_i h3; exact bef3 h h2 h3 rfl
      · rename_i h3; rw [Decidable.not_not] at h3; exact bef4 h h2 h3
set_option maxRecDepth 100000 in
set_option maxHeartbeats 4000000 in
theorem before_det (a b : Rcd) (w : World) (he : Env w) (h1 : a.to.size ≤ 2000000) (h2 : b.to.size ≤ 2000000) (h3 : a.frm.size ≤ 2000000) (h4 : b.frm.size ≤ 2000000) :
    Calls Tryz.prog 97 #[.agg #[.string a.frm, .int .i64 a.first, .int .i64 a.last, .string a.to, .int .i64 a.num, .int .i64 a.how], .agg #[.string b.frm, .int .i64 b.first, .int .i64 b.last, .string b.to, .int .i64 b.num, .int .i64 b.how]] w fun e w' => e = .returned (.bool (befF a b)) ∧ Below w.heap.size w w' := by
  have hb0 : Below w.heap.size w ((w.alloc (.cells #[.string a.frm, .int .i64 a.first, .int .i64 a.last, .string a.to, .int .i64 a.num, .int .i64 a.how] 57)).alloc (.cells #[.string b.frm, .int .i64 b.first, .int .i64 b.last, .string b.to, .int .i64 b.num, .int .i64 b.how] 57)) := ((Below.refl _ _).alloc (Nat.le_refl _) _).alloc (by simp) _
  have hA : Blk ((w.alloc (.cells #[.string a.frm, .int .i64 a.first, .int .i64 a.last, .string a.to, .int .i64 a.num, .int .i64 a.how] 57)).alloc (.cells #[.string b.frm, .int .i64 b.first, .int .i64 b.last, .string b.to, .int .i64 b.num, .int .i64 b.how] 57)) w.heap.size 57 [.string a.frm, .int .i64 a.first, .int .i64 a.last, .string a.to, .int .i64 a.num, .int .i64 a.how] := (blk_new w _ _).alloc _
  have hB : Blk ((w.alloc (.cells #[.string a.frm, .int .i64 a.first, .int .i64 a.last, .string a.to, .int .i64 a.num, .int .i64 a.how] 57)).alloc (.cells #[.string b.frm, .int .i64 b.first, .int .i64 b.last, .string b.to, .int .i64 b.num, .int .i64 b.how] 57)) (w.heap.size + 1) 57 [.string b.frm, .int .i64 b.first, .int .i64 b.last, .string b.to, .int .i64 b.num, .int .i64 b.how] := by
    have k := blk_new (w.alloc (.cells #[.string a.frm, .int .i64 a.first, .int .i64 a.last, .string a.to, .int .i64 a.num, .int .i64 a.how] 57)) [.string b.frm, .int .i64 b.first, .int .i64 b.last, .string b.to, .int .i64 b.num, .int .i64 b.how] 57
    simp only [World.size_alloc] at k
    exact k
  have HO := Lib.hid (fun p q X (hX : Below w.heap.size w X) (hp : p.size ≤ 2000000) (hq : q.size ≤ 2000000) => order_det p q X (he.below hX) hp hq)
  have HZ := Lib.hid (show a.frm.size ≤ 2000000 ∧ b.frm.size ≤ 2000000 from ⟨h3, h4⟩)
  have HO1 := Lib.hid (HO.out a.to b.to _ hb0 h1 h2)
  clear he h1 h2 h3 h4
  go_enter Tryz.func97, Tryz.ntmps97
  go_upto_region 1 with fail
  generalize (w.alloc (.cells #[.string a.frm, .int .i64 a.first, .int .i64 a.last, .string a.to, .int .i64 a.num, .int .i64 a.how] 57)).alloc (.cells #[.string b.frm, .int .i64 b.first, .int .i64 b.last, .string b.to, .int .i64 b.num, .int .i64 b.how] 57) = W1 at hb0 hA hB HO1 ⊢
  obtain ⟨a0, a1, a2, a3, a4, a5⟩ := box6 hA
  obtain ⟨b0, b1, b2, b3, b4, b5⟩ := box6 hB
  have HA := Lib.hid hA
  have HB := Lib.hid hB
  have Hb0 := Lib.hid hb0
  clear hA hB hb0
  go_wp2_with fail
  refine HO1.out.mono ?_
  rintro e w2 ⟨rfl, hb2⟩
  have HV : Hid (befF a b = if ordF a.to b.to ≠ 0 then decide (ordF a.to b.to < 0) else if a.num ≠ b.num then decide (a.num < b.num) else if ordF a.frm b.frm ≠ 0 then decide (ordF a.frm b.frm < 0) else decide (a.first < b.first)) := Lib.hid rfl
  generalize ordF a.to b.to = n1 at HV ⊢
  clear a0 a1 a2 a3 a4 a5 b0 b1 b2 b3 b4 b5
  have HB2 := Lib.hid hb2
  clear hb2
  by_cases z1 : n1 = 0
  · subst z1
    have HV1 : Hid (befF a b = if a.num ≠ b.num then decide (a.num < b.num) else if ordF a.frm b.frm ≠ 0 then decide (ordF a.frm b.frm < 0) else decide (a.first < b.first)) := Lib.hid (by rw [HV.out, if_neg (by simp)])
    clear HV
    obtain ⟨a0, a1, a2, a3, a4, a5⟩ := box6 (HA.out.below HB2.out HA.out.lt)
    obtain ⟨b0, b1, b2, b3, b4, b5⟩ := box6 (HB.out.below HB2.out HB.out.lt)
    by_cases e2 : a.num = b.num
    · have q2 : (a.num != b.num) = false := by simpa using e2
      have HE2 := Lib.hid e2
      have HO2 := Lib.hid (HO.out a.frm b.frm w2 (below_next Hb0.out HB2.out) HZ.out.1 HZ.out.2)
      clear e2
      go_wp2_with fail
      refine HO2.out.mono ?_
      rintro e w3 ⟨rfl, hb3⟩
      have HV2 : Hid (befF a b = if ordF a.frm b.frm ≠ 0 then decide (ordF a.frm b.frm < 0) else decide (a.first < b.first)) := Lib.hid (by rw [HV1.out, if_neg (by rw [HE2.out]; simp)])
      generalize ordF a.frm b.frm = n2 at HV2 ⊢
      clear HV1
      clear a0 a1 a2 a3 a4 a5 b0 b1 b2 b3 b4 b5
      have HB3 := Lib.hid hb3
      clear hb3
      by_cases z2 : n2 = 0
      · subst z2
        have HF : Hid (befF a b = decide (a.first < b.first)) := Lib.hid (by rw [HV2.out, if_neg (by simp)])
        obtain ⟨a0, a1, a2, a3, a4, a5⟩ := box6 (HA.out.below (below_next HB2.out HB3.out) HA.out.lt)
        obtain ⟨b0, b1, b2, b3, b4, b5⟩ := box6 (HB.out.below (below_next HB2.out HB3.out) HB.out.lt)
        go_wp2_with fail
        go_ret
        exact ⟨ret_bool HF.out.symm, below_next Hb0.out (below_next HB2.out HB3.out)⟩
      · have q3 : (n2 != 0) = true := by simpa using z2
        have HF : Hid (befF a b = decide (n2 < 0)) := Lib.hid (by rw [HV2.out, if_pos z2])
        clear z2
        go_wp2_with fail
        go_ret
        exact ⟨ret_bool HF.out.symm, below_next Hb0.out (below_next HB2.out HB3.out)⟩
    · have q2 : (a.num != b.num) = true := by simpa using e2
      have HF : Hid (befF a b = decide (a.num < b.num)) := Lib.hid (by rw [HV1.out, if_pos e2])
      clear e2
      go_wp2_with fail
      go_ret
      exact ⟨ret_bool HF.out.symm, below_next Hb0.out HB2.out⟩
  · have q1 : (n1 != 0) = true := by simpa using z1
    have HF : Hid (befF a b = decide (n1 < 0)) := Lib.hid (by rw [HV.out, if_pos z1])
    clear z1
    go_wp2_with fail
    go_ret
    exact ⟨ret_bool HF.out.symm, below_next Hb0.out HB2.out⟩
theorem refBefore_any (a b : Rcd) (w : World) (he : Env w) (h1 : a.to.size ≤ 2000000) (h2 : b.to.size ≤ 2000000) (h3 : a.frm.size ≤ 2000000) (h4 : b.frm.size ≤ 2000000) :
    Calls Tryz.prog 97 #[.agg #[.string a.frm, .int .i64 a.first, .int .i64 a.last, .string a.to, .int .i64 a.num, .int .i64 a.how], .agg #[.string b.frm, .int .i64 b.first, .int .i64 b.last, .string b.to, .int .i64 b.num, .int .i64 b.how]] w (BefPost w a b) :=
  (before_det a b w he h1 h2 h3 h4).mono fun e w' ⟨k1, k2⟩ => ⟨_, k1, k2, fun k3 k4 => befF_valid k3 k4⟩
end Go.Proofs.YtnblfaagchflaaaGreatDoor
