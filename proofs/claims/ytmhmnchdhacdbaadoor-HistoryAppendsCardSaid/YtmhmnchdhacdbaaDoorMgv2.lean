/- The reference's Compare, Order, Before: the walks. -/
import Derived.Test.YtmhmnchdhacdbaaDoorMgv0
import Derived.Test.YtmhmnchdhacdbaaDoorMgv1
import Derived.Test.YtmhmnchdhacdbaaDoorCmpR
import Derived.Test.YtmhmnchdhacdbaaDoorOne
import Derived.Test.YtmhmnchdhacdbaaDoorOneY
namespace Go.Proofs.YtmhmnchdhacdbaaDoor
open Go.RowKit
set_option linter.unusedVariables false
set_option linter.unusedSimpArgs false

theorem strCmp (a b : ByteArray) (w : World) : Calls Tryd.prog 74 #[.string a, .string b] w fun e w' => e = .returned (.int .i64 (Lib.compareBytes a.data.toList b.data.toList)) ∧ w = w' :=
  (Tryd.strings_Compare a b w).mono fun e w' ⟨h1, h2⟩ => ⟨h1, h2.symm⟩
/-- Of both lists the first k agree. -/
def agree (ps qs : List (List UInt8)) (k : Nat) : Prop := cmpC (ps.drop k) (qs.drop k) = cmpC ps qs
theorem agree_next {ps qs : List (List UInt8)} {k : Nat} (h1 : k < ps.length) (h2 : k < qs.length) (h : agree ps qs k) : (Lib.compareBytes ps[k] qs[k] = 0 → agree ps qs (k + 1)) ∧ (Lib.compareBytes ps[k] qs[k] ≠ 0 → cmpC ps qs = Lib.compareBytes ps[k] qs[k]) := by
  unfold agree at h ⊢
  rw [List.drop_eq_getElem_cons h1, List.drop_eq_getElem_cons h2, cmpC] at h
  refine ⟨fun h0 => ?_, fun h0 => ?_⟩
  · rw [if_pos h0] at h; exact h
  · rw [if_neg h0] at h; exact h.symm
theorem agree_end {ps qs : List (List UInt8)} {k : Nat} (h : agree ps qs k) (hk : k ≤ ps.length) (hk2 : k ≤ qs.length) (he : k = ps.length ∨ k = qs.length) : cmpC ps qs = if ps.length < qs.length then -1 else if qs.length < ps.length then 1 else 0 := by
  unfold agree at h
  rw [← h]
  rcases he with rfl | rfl
  · rw [List.drop_length]
    by_cases hq : ps.length < qs.length
    · rw [if_pos hq, List.drop_eq_getElem_cons hq]; rfl
    · have : ps.length = qs.length := by omega
      rw [if_neg hq, if_neg (by omega), this, List.drop_length]; rfl
  · rw [List.drop_length]
    by_cases hq : qs.length < ps.length
    · rw [if_neg (by omega), if_pos hq, List.drop_eq_getElem_cons hq]; rfl
    · have : ps.length = qs.length := by omega
      rw [if_neg (by omega), if_neg hq, ← this, List.drop_length]; rfl

set_option maxRecDepth 100000 in
set_option maxHeartbeats 4000000 in
theorem compare_parts (ps qs : List (List UInt8)) (g1 g2 : Nat) (w : World) (hp : StrsAt w g1 0 ps) (hq : StrsAt w g2 0 qs) (h1 : ps.length ≤ 2000001) (h2 : qs.length ≤ 2000001) :
    Calls Tryd.prog 75 #[.slice (some ⟨g1, 0, none⟩) ps.length ps.length, .slice (some ⟨g2, 0, none⟩) qs.length qs.length] w fun e w' => e = .returned (.int .i64 (cmpC ps qs)) ∧ Below w.heap.size w w' := by
  have HP := Lib.hid hp
  have HQ := Lib.hid hq
  have HC := Lib.hid (fun a b X => strCmp a b X)
  clear hp hq
  go_enter Tryd.func75, Tryd.ntmps75
  go_wp2_with fail
  go_loopw [5] (fun s wr => ∃ k : Nat, s = .int .i64 k ∧ k ≤ ps.length ∧ k ≤ qs.length ∧ Hid (agree ps qs k ∧ Below w.heap.size w wr)) (fun s _ => ps.length - (intOf s).toNat)
  case atStart => exact ⟨0, rfl, Nat.zero_le _, Nat.zero_le _, rfl, Below.refl _ _⟩
  case round =>
    obtain ⟨k, rfl, hk, hk2, HI⟩ := hrel
    by_cases hlt : k < ps.length
    · by_cases hlt2 : k < qs.length
      · have hx : wr.cell? ⟨g1, k, none⟩ = some (.string (baL ps[k])) := by
          have h := HP.out k hlt
          rw [Nat.zero_add] at h
          exact cell_below h HI.out.2 (cell_lt h)
        have hy : wr.cell? ⟨g2, k, none⟩ = some (.string (baL qs[k])) := by
          have h := HQ.out k hlt2
          rw [Nat.zero_add] at h
          exact cell_below h HI.out.2 (cell_lt h)
        have HN := Lib.hid (agree_next hlt hlt2 HI.out.1)
        have z1 : (k : Int) < (ps.length : Int) := by omega
        have z2 : (k : Int) < (qs.length : Int) := by omega
        have d1 : decide (k < ps.length) = true := by simp; omega
        have d2 : decide (k < qs.length) = true := by simp; omega
        generalize ps[k] = x at hx HN
        generalize qs[k] = y at hy HN
        go_wp2_with fail
        go_quiet ((go_at_call 74; exact quiet_left (strCmp _ _ _)))
        clear hx hy d1 d2
        have HB : Hid (Below w.heap.size w (wr.drewN nq)) := Lib.hid (below_dN HI.out.2 nq)
        generalize wr.drewN nq = wz at HB ⊢
        rw [baL_data, baL_data]
        by_cases h0 : Lib.compareBytes x y = 0
        · have HA := Lib.hid (HN.out.1 h0)
          rw [h0]
          clear h0 HN
          go_wp2_with fail
          go_roundw
          case rel => exact ⟨k + 1, by go_num, by omega, by omega, HA.out, HB.out⟩
          case measure => simp [intOf]; omega
        · have HA := Lib.hid (HN.out.2 h0)
          have q : (Lib.compareBytes x y != 0) = true := by simpa using h0
          generalize Lib.compareBytes x y = c at HA q
          clear h0 HN
          go_wp2_with fail
          go_ret
          exact ⟨by rw [HA.out]; rfl, HB.out⟩
      · have d1 : decide (k < ps.length) = true := by simp; omega
        have d2 : decide (k < qs.length) = false := by simp; omega
        have HA := Lib.hid (agree_end HI.out.1 hk hk2 (.inr (by omega)))
        have d3 : decide (ps.length < qs.length) = false := by simp; omega
        have d4 : decide (qs.length < ps.length) = true := by simp; omega
        have HV : Hid ((if ps.length < qs.length then (-1 : Int) else if qs.length < ps.length then 1 else 0) = 1) := Lib.hid (by rw [if_neg (by omega), if_pos (by omega)])
        go_wp2_with fail
        go_ret
        exact ⟨by rw [HA.out, HV.out]; rfl, HI.out.2⟩
    · have d1 : decide (k < ps.length) = false := by simp; omega
      have HA := Lib.hid (agree_end HI.out.1 hk hk2 (.inl (by omega)))
      by_cases hq : ps.length < qs.length
      · have d3 : decide (ps.length < qs.length) = true := by simp; omega
        have HV : Hid ((if ps.length < qs.length then (-1 : Int) else if qs.length < ps.length then 1 else 0) = -1) := Lib.hid (by rw [if_pos (by omega)])
        go_wp2_with fail
        go_ret
        exact ⟨by rw [HA.out, HV.out]; rfl, HI.out.2⟩
      · have d3 : decide (ps.length < qs.length) = false := by simp; omega
        have d4 : decide (qs.length < ps.length) = false := by simp; omega
        have HV : Hid ((if ps.length < qs.length then (-1 : Int) else if qs.length < ps.length then 1 else 0) = 0) := Lib.hid (by rw [if_neg (by omega), if_neg (by omega)])
        go_wp2_with fail
        go_ret
        exact ⟨by rw [HA.out, HV.out]; rfl, HI.out.2⟩

/-- What Order leaves: for two paths the program's own order. -/
def OrdPost (w : World) (a b : ByteArray) (e : Ending) (w' : World) : Prop := ∃ n : Int, e = .returned (.int .i64 n) ∧ Below w.heap.size w w' ∧ (validS a = true → validS b = true → n = cmpP a b)
theorem valid_none {a : ByteArray} (h : dirL a.data.toList 2 = none) : validS a = false := by unfold validS validB; rw [h]; rfl
/-- What Order says of any two texts. -/
def ordF (a b : ByteArray) : Int := match dirL a.data.toList 2, dirL b.data.toList 2 with
  | none, none => Lib.compareBytes a.data.toList b.data.toList
  | none, some _ => -1
  | some _, none => 1
  | some ps, some qs => cmpC ps qs
theorem ordF_valid {a b : ByteArray} (ha : validS a = true) (hb : validS b = true) : ordF a b = cmpP a b := by
  unfold ordF
  cases hda : dirL a.data.toList 2 with
  | none => rw [valid_none hda] at ha; cases ha
  | some ps =>
    cases hdb : dirL b.data.toList 2 with
    | none => rw [valid_none hdb] at hb; cases hb
    | some qs => exact (cmpP_comps hda hdb).symm
set_option maxRecDepth 100000 in
set_option maxHeartbeats 4000000 in
theorem order_det (a b : ByteArray) (w : World) (he : Env w) (ha : a.size ≤ 2000000) (hb : b.size ≤ 2000000) :
    Calls Tryd.prog 56 #[.string a, .string b] w fun e w' => e = .returned (.int .i64 (ordF a b)) ∧ Below w.heap.size w w' := by
  have HE := Lib.hid he
  clear he
  have HC := Lib.hid (fun a b X => strCmp a b X)
  cases hda : dirL a.data.toList 2 with
  | none =>
    have HVA := Lib.hid (valid_none hda)
    have HA := Lib.hid (refPath_none a w HE.out ha hda)
    cases hdb : dirL b.data.toList 2 with
    | none =>
      have HB := Lib.hid (fun X (hX : Below w.heap.size w X) => refPath_none b X (HE.out.below hX) hb hdb)
      have HF : Hid (ordF a b = Lib.compareBytes a.data.toList b.data.toList) := Lib.hid (by unfold ordF; rw [hda, hdb])
      clear hda hdb
      go_enter Tryd.func56, Tryd.ntmps56
      go_wp2_with fail
      refine HA.out.mono ?_
      rintro e w1 ⟨rfl, hb1⟩
      have HB1 := Lib.hid (HB.out w1 hb1)
      have H1 := Lib.hid hb1
      clear hb1
      go_wp2_with fail
      refine HB1.out.mono ?_
      rintro e w2 ⟨rfl, hb2⟩
      have H2 := Lib.hid hb2
      clear hb2
      go_wp2_with fail
      refine (HC.out a b w2).mono ?_
      rintro e w3 ⟨rfl, rfl⟩
      go_wp2_with fail
      go_ret
      exact ⟨ret_int HF.out.symm, below_next H1.out H2.out⟩
    | some qs =>
      have HB := Lib.hid (fun X (hX : Below w.heap.size w X) => refPath_some b qs X (HE.out.below hX) hb hdb)
      have HF : Hid (ordF a b = -1) := Lib.hid (by unfold ordF; rw [hda, hdb])
      clear hda hdb
      go_enter Tryd.func56, Tryd.ntmps56
      go_wp2_with fail
      refine HA.out.mono ?_
      rintro e w1 ⟨rfl, hb1⟩
      have HB1 := Lib.hid (HB.out w1 hb1)
      have H1 := Lib.hid hb1
      clear hb1
      go_wp2_with fail
      refine HB1.out.mono ?_
      rintro e w2 ⟨rfl, rfl⟩
      have H2 : Hid (Below w1.heap.size w1 (w1.alloc (.cells (strCells qs).toArray 9))) := Lib.hid ((Below.refl _ _).alloc (Nat.le_refl _) _)
      generalize w1.alloc (.cells (strCells qs).toArray 9) = w2 at H2 ⊢
      go_wp2_with fail
      go_ret
      exact ⟨ret_int HF.out.symm, below_next H1.out H2.out⟩
  | some ps =>
    have HA := Lib.hid (refPath_some a ps w HE.out ha hda)
    have hA1 : Below w.heap.size w (w.alloc (.cells (strCells ps).toArray 9)) := (Below.refl _ _).alloc (Nat.le_refl _) _
    have hS1 := StrsAt.of_blk (blk_new w (strCells ps) 9)
    cases hdb : dirL b.data.toList 2 with
    | none =>
      have HVB := Lib.hid (valid_none hdb)
      have HB := Lib.hid (fun X (hX : Below w.heap.size w X) => refPath_none b X (HE.out.below hX) hb hdb)
      have HF : Hid (ordF a b = 1) := Lib.hid (by unfold ordF; rw [hda, hdb])
      clear hda hdb
      go_enter Tryd.func56, Tryd.ntmps56
      go_wp2_with fail
      refine HA.out.mono ?_
      rintro e w1 ⟨rfl, rfl⟩
      have HB1 := Lib.hid (HB.out _ hA1)
      have H1 := Lib.hid hA1
      clear hA1 hS1
      generalize w.alloc (.cells (strCells ps).toArray 9) = w1 at HB1 H1 ⊢
      go_wp2_with fail
      refine HB1.out.mono ?_
      rintro e w2 ⟨rfl, hb2⟩
      have H2 := Lib.hid hb2
      clear hb2
      go_wp2_with fail
      go_ret
      exact ⟨ret_int HF.out.symm, below_next H1.out H2.out⟩
    | some qs =>
      have HB := Lib.hid (fun X (hX : Below w.heap.size w X) => refPath_some b qs X (HE.out.below hX) hb hdb)
      have HCM := Lib.hid (cmpP_comps hda hdb)
      have hlp : ps.length ≤ 2000001 ∧ qs.length ≤ 2000001 := by
        have k1 : ps = splitL (a.data.toList.drop 2) := by unfold dirL at hda; split at hda; (injection hda with h; exact h.symm); cases hda
        have k2 : qs = splitL (b.data.toList.drop 2) := by unfold dirL at hdb; split at hdb; (injection hdb with h; exact h.symm); cases hdb
        rw [k1, k2]
        exact ⟨(split_bounds a 2 ha).1, (split_bounds b 2 hb).1⟩
      have HLP := Lib.hid hlp
      have HF : Hid (ordF a b = cmpC ps qs) := Lib.hid (by unfold ordF; rw [hda, hdb])
      clear hda hdb hlp
      go_enter Tryd.func56, Tryd.ntmps56
      go_wp2_with fail
      refine HA.out.mono ?_
      rintro e w1 ⟨rfl, rfl⟩
      have HB1 := Lib.hid (HB.out _ hA1)
      have H1 := Lib.hid hA1
      have HS1 := Lib.hid hS1
      clear hA1 hS1
      generalize w.alloc (.cells (strCells ps).toArray 9) = w1 at HB1 H1 HS1 ⊢
      go_wp2_with fail
      refine HB1.out.mono ?_
      rintro e w2 ⟨rfl, rfl⟩
      have hA2 : Below w1.heap.size w1 (w1.alloc (.cells (strCells qs).toArray 9)) := (Below.refl _ _).alloc (Nat.le_refl _) _
      have HS2 := Lib.hid (StrsAt.of_blk (blk_new w1 (strCells qs) 9))
      have HS3 := Lib.hid (HS1.out.below hA2)
      have H2 := Lib.hid hA2
      clear hA2
      generalize w1.alloc (.cells (strCells qs).toArray 9) = w2 at HS2 HS3 H2 ⊢
      have HCP := Lib.hid (compare_parts ps qs w.heap.size w1.heap.size w2 HS3.out HS2.out HLP.out.1 HLP.out.2)
      go_wp2_with fail
      refine HCP.out.mono ?_
      rintro e w3 ⟨rfl, hb3⟩
      have H3 := Lib.hid hb3
      clear hb3
      go_wp2_with fail
      go_ret
      exact ⟨ret_int HF.out.symm, below_next H1.out (below_next H2.out H3.out)⟩
theorem order_any (a b : ByteArray) (w : World) (he : Env w) (ha : a.size ≤ 2000000) (hb : b.size ≤ 2000000) :
    Calls Tryd.prog 56 #[.string a, .string b] w (OrdPost w a b) :=
  (order_det a b w he ha hb).mono fun e w' ⟨h1, h2⟩ => ⟨_, h1, h2, fun h3 h4 => ordF_valid h3 h4⟩

/-- What Before leaves: for records of paths whether the one comes ahead. -/
def BefPost (w : World) (a b : Rcd) (e : Ending) (w' : World) : Prop := ∃ v : Bool, e = .returned (.bool v) ∧ Below w.heap.size w w' ∧ (a.val_ → b.val_ → v = decide (cmpR a b < 0))
theorem cmpI_lt {a b : Int} (h : a ≠ b) : (cmpI a b < 0 ↔ a < b) ∧ cmpI a b ≠ 0 := by
  unfold cmpI; split
  · exact ⟨by constructor <;> intro <;> omega, by decide⟩
  · split
    · exact ⟨by constructor <;> intro <;> omega, by decide⟩
    · omega
theorem bef1 {a b : Rcd} {n : Int} (h : n ≠ 0) (hn : n = cmpP a.to b.to) : decide (n < 0) = decide (cmpR a b < 0) := by
  unfold cmpR orI; rw [← hn, if_neg h]
theorem bef2 {a b : Rcd} (h : cmpP a.to b.to = 0) (hn : a.num ≠ b.num) : decide (a.num < b.num) = decide (cmpR a b < 0) := by
  obtain ⟨h1, h2⟩ := cmpI_lt hn
  unfold cmpR orI; rw [if_pos h, if_neg h2]
  rw [decide_eq_decide]; exact h1.symm
theorem cmpI_eq {a b : Int} (h : a = b) : cmpI a b = 0 := by subst h; unfold cmpI; simp
theorem bef3 {a b : Rcd} {n : Int} (h : cmpP a.to b.to = 0) (he : a.num = b.num) (hz : n ≠ 0) (hn : n = cmpP a.frm b.frm) : decide (n < 0) = decide (cmpR a b < 0) := by
  unfold cmpR orI; rw [if_pos h, if_pos (cmpI_eq he), ← hn, if_neg hz]
theorem bef4 {a b : Rcd} (h : cmpP a.to b.to = 0) (he : a.num = b.num) (hn : cmpP a.frm b.frm = 0) : decide (a.first < b.first) = decide (cmpR a b < 0) := by
  unfold cmpR orI; rw [if_pos h, if_pos (cmpI_eq he), if_pos hn]
  rw [decide_eq_decide]
  unfold cmpI
  constructor
  · intro hh; rw [if_pos hh]; decide
  · intro hh; split at hh
    · assumption
    · split at hh <;> omega
/-- What Before says of any two records. -/
def befF (a b : Rcd) : Bool := if ordF a.to b.to ≠ 0 then decide (ordF a.to b.to < 0) else if a.num ≠ b.num then decide (a.num < b.num) else if ordF a.frm b.frm ≠ 0 then decide (ordF a.frm b.frm < 0) else decide (a.first < b.first)
theorem befF_valid {a b : Rcd} (ha : a.val_) (hb : b.val_) : befF a b = decide (cmpR a b < 0) := by
  unfold befF
  rw [ordF_valid ha.2 hb.2, ordF_valid ha.1 hb.1]
  split
  · rename_i h; exact bef1 h rfl
  · rename_i h
    rw [Decidable.not_not] at h
    split
    · rename_i h2; exact bef2 h h2
    · rename_i h2
      rw [Decidable.not_not] at h2
      split
      · rename_i h3; exact bef3 h h2 h3 rfl
      · rename_i h3; rw [Decidable.not_not] at h3; exact bef4 h h2 h3
set_option maxRecDepth 100000 in
set_option maxHeartbeats 4000000 in
theorem before_det (a b : Rcd) (w : World) (he : Env w) (h1 : a.to.size ≤ 2000000) (h2 : b.to.size ≤ 2000000) (h3 : a.frm.size ≤ 2000000) (h4 : b.frm.size ≤ 2000000) :
    Calls Tryd.prog 46 #[.agg #[.string a.frm, .int .i64 a.first, .int .i64 a.last, .string a.to, .int .i64 a.num, .int .i64 a.how], .agg #[.string b.frm, .int .i64 b.first, .int .i64 b.last, .string b.to, .int .i64 b.num, .int .i64 b.how]] w fun e w' => e = .returned (.bool (befF a b)) ∧ Below w.heap.size w w' := by
  have hb0 : Below w.heap.size w ((w.alloc (.cells #[.string a.frm, .int .i64 a.first, .int .i64 a.last, .string a.to, .int .i64 a.num, .int .i64 a.how] 50)).alloc (.cells #[.string b.frm, .int .i64 b.first, .int .i64 b.last, .string b.to, .int .i64 b.num, .int .i64 b.how] 50)) := ((Below.refl _ _).alloc (Nat.le_refl _) _).alloc (by simp) _
  have hA : Blk ((w.alloc (.cells #[.string a.frm, .int .i64 a.first, .int .i64 a.last, .string a.to, .int .i64 a.num, .int .i64 a.how] 50)).alloc (.cells #[.string b.frm, .int .i64 b.first, .int .i64 b.last, .string b.to, .int .i64 b.num, .int .i64 b.how] 50)) w.heap.size 50 [.string a.frm, .int .i64 a.first, .int .i64 a.last, .string a.to, .int .i64 a.num, .int .i64 a.how] := (blk_new w _ _).alloc _
  have hB : Blk ((w.alloc (.cells #[.string a.frm, .int .i64 a.first, .int .i64 a.last, .string a.to, .int .i64 a.num, .int .i64 a.how] 50)).alloc (.cells #[.string b.frm, .int .i64 b.first, .int .i64 b.last, .string b.to, .int .i64 b.num, .int .i64 b.how] 50)) (w.heap.size + 1) 50 [.string b.frm, .int .i64 b.first, .int .i64 b.last, .string b.to, .int .i64 b.num, .int .i64 b.how] := by
    have k := blk_new (w.alloc (.cells #[.string a.frm, .int .i64 a.first, .int .i64 a.last, .string a.to, .int .i64 a.num, .int .i64 a.how] 50)) [.string b.frm, .int .i64 b.first, .int .i64 b.last, .string b.to, .int .i64 b.num, .int .i64 b.how] 50
    simp only [World.size_alloc] at k
    exact k
  have HO := Lib.hid (fun p q X (hX : Below w.heap.size w X) (hp : p.size ≤ 2000000) (hq : q.size ≤ 2000000) => order_det p q X (he.below hX) hp hq)
  have HZ := Lib.hid (show a.frm.size ≤ 2000000 ∧ b.frm.size ≤ 2000000 from ⟨h3, h4⟩)
  have HO1 := Lib.hid (HO.out a.to b.to _ hb0 h1 h2)
  clear he h1 h2 h3 h4
  go_enter Tryd.func46, Tryd.ntmps46
  go_upto_region 1 with fail
  generalize (w.alloc (.cells #[.string a.frm, .int .i64 a.first, .int .i64 a.last, .string a.to, .int .i64 a.num, .int .i64 a.how] 50)).alloc (.cells #[.string b.frm, .int .i64 b.first, .int .i64 b.last, .string b.to, .int .i64 b.num, .int .i64 b.how] 50) = W1 at hb0 hA hB HO1 ⊢
  obtain ⟨a0, a1, a2, a3, a4, a5⟩ := box6 hA
  obtain ⟨b0, b1, b2, b3, b4, b5⟩ := box6 hB
  have HA := Lib.hid hA
  have HB := Lib.hid hB
  have Hb0 := Lib.hid hb0
  clear hA hB hb0
  go_wp2_with fail
  refine HO1.out.mono ?_
  rintro e w2 ⟨rfl, hb2⟩
  have HV : Hid (befF a b = if ordF a.to b.to ≠ 0 then decide (ordF a.to b.to < 0) else if a.num ≠ b.num then decide (a.num < b.num) else if ordF a.frm b.frm ≠ 0 then decide (ordF a.frm b.frm < 0) else decide (a.first < b.first)) := Lib.hid rfl
  generalize ordF a.to b.to = n1 at HV ⊢
  clear a0 a1 a2 a3 a4 a5 b0 b1 b2 b3 b4 b5
  have HB2 := Lib.hid hb2
  clear hb2
  by_cases z1 : n1 = 0
  · subst z1
    have HV1 : Hid (befF a b = if a.num ≠ b.num then decide (a.num < b.num) else if ordF a.frm b.frm ≠ 0 then decide (ordF a.frm b.frm < 0) else decide (a.first < b.first)) := Lib.hid (by rw [HV.out, if_neg (by simp)])
    clear HV
    obtain ⟨a0, a1, a2, a3, a4, a5⟩ := box6 (HA.out.below HB2.out HA.out.lt)
    obtain ⟨b0, b1, b2, b3, b4, b5⟩ := box6 (HB.out.below HB2.out HB.out.lt)
    by_cases e2 : a.num = b.num
    · have q2 : (a.num != b.num) = false := by simpa using e2
      have HE2 := Lib.hid e2
      have HO2 := Lib.hid (HO.out a.frm b.frm w2 (below_next Hb0.out HB2.out) HZ.out.1 HZ.out.2)
      clear e2
      go_wp2_with fail
      refine HO2.out.mono ?_
      rintro e w3 ⟨rfl, hb3⟩
      have HV2 : Hid (befF a b = if ordF a.frm b.frm ≠ 0 then decide (ordF a.frm b.frm < 0) else decide (a.first < b.first)) := Lib.hid (by rw [HV1.out, if_neg (by rw [HE2.out]; simp)])
      generalize ordF a.frm b.frm = n2 at HV2 ⊢
      clear HV1
      clear a0 a1 a2 a3 a4 a5 b0 b1 b2 b3 b4 b5
      have HB3 := Lib.hid hb3
      clear hb3
      by_cases z2 : n2 = 0
      · subst z2
        have HF : Hid (befF a b = decide (a.first < b.first)) := Lib.hid (by rw [HV2.out, if_neg (by simp)])
        obtain ⟨a0, a1, a2, a3, a4, a5⟩ := box6 (HA.out.below (below_next HB2.out HB3.out) HA.out.lt)
        obtain ⟨b0, b1, b2, b3, b4, b5⟩ := box6 (HB.out.below (below_next HB2.out HB3.out) HB.out.lt)
        go_wp2_with fail
        go_ret
        exact ⟨ret_bool HF.out.symm, below_next Hb0.out (below_next HB2.out HB3.out)⟩
      · have q3 : (n2 != 0) = true := by simpa using z2
        have HF : Hid (befF a b = decide (n2 < 0)) := Lib.hid (by rw [HV2.out, if_pos z2])
        clear z2
        go_wp2_with fail
        go_ret
        exact ⟨ret_bool HF.out.symm, below_next Hb0.out (below_next HB2.out HB3.out)⟩
    · have q2 : (a.num != b.num) = true := by simpa using e2
      have HF : Hid (befF a b = decide (a.num < b.num)) := Lib.hid (by rw [HV1.out, if_pos e2])
      clear e2
      go_wp2_with fail
      go_ret
      exact ⟨ret_bool HF.out.symm, below_next Hb0.out HB2.out⟩
  · have q1 : (n1 != 0) = true := by simpa using z1
    have HF : Hid (befF a b = decide (n1 < 0)) := Lib.hid (by rw [HV.out, if_pos z1])
    clear z1
    go_wp2_with fail
    go_ret
    exact ⟨ret_bool HF.out.symm, below_next Hb0.out HB2.out⟩
theorem refBefore_any (a b : Rcd) (w : World) (he : Env w) (h1 : a.to.size ≤ 2000000) (h2 : b.to.size ≤ 2000000) (h3 : a.frm.size ≤ 2000000) (h4 : b.frm.size ≤ 2000000) :
    Calls Tryd.prog 46 #[.agg #[.string a.frm, .int .i64 a.first, .int .i64 a.last, .string a.to, .int .i64 a.num, .int .i64 a.how], .agg #[.string b.frm, .int .i64 b.first, .int .i64 b.last, .string b.to, .int .i64 b.num, .int .i64 b.how]] w (BefPost w a b) :=
  (before_det a b w he h1 h2 h3 h4).mono fun e w' ⟨k1, k2⟩ => ⟨_, k1, k2, fun k3 k4 => befF_valid k3 k4⟩
end Go.Proofs.YtmhmnchdhacdbaaDoor
/- Plain: what the reference's examination of a change says is what the program's says. -/
namespace Go.Proofs.YtmhmnchdhacdbaaDoor
open Go.RowKit
set_option linter.unusedVariables false
set_option linter.unusedSimpArgs false

/-- The path of the edit ahead of the i-th, or b. -/
def aheadQ (b : ByteArray) (es : List Edt) (i : Nat) : ByteArray := if i = 0 then b else ((es[i - 1]?).getD zeroEdt).path
theorem aheadQ_cons (b : ByteArray) (e : Edt) (es : List Edt) (i : Nat) : aheadQ b (e :: es) (i + 1) = aheadQ e.path es i := by
  unfold aheadQ
  cases i with
  | zero => simp
  | succ i => simp
theorem every_all {last : ByteArray → Option Rev} : ∀ (es : List Edt) (b : ByteArray), (∀ i (h : i < es.length), editE last (aheadQ b es i) es[i] = 0) → everyE last b es = 0
  | [], b, _ => rfl
  | e :: es, b, h => by
    have h0 : editE last b e = 0 := h 0 (by simp)
    unfold everyE
    rw [if_neg (by rw [h0]; simp)]
    exact every_all es e.path fun i hi => by
      have := h (i + 1) (by simp; omega)
      rw [aheadQ_cons] at this
      exact this
theorem every_at {last : ByteArray → Option Rev} : ∀ (es : List Edt) (b : ByteArray) (i : Nat) (hi : i < es.length), (∀ j (h : j < i), editE last (aheadQ b es j) (es[j]'(by omega)) = 0) → editE last (aheadQ b es i) es[i] ≠ 0 → everyE last b es = editE last (aheadQ b es i) es[i]
  | e :: es, b, 0, hi, _, h => by
    unfold everyE
    rw [if_pos (show editE last b e ≠ 0 from h)]
    rfl
  | e :: es, b, i + 1, hi, hz, h => by
    have h0 : editE last b e = 0 := hz 0 (by omega)
    unfold everyE
    rw [if_neg (by rw [h0]; simp)]
    rw [aheadQ_cons] at h ⊢
    exact every_at es e.path i (by simpa using hi) (fun j hj => by have := hz (j + 1) (by omega); rw [aheadQ_cons] at this; exact this) h

theorem recsF_mk {revs : List Rev} {c : Chg} {ed : ByteArray → Option Edt} : ∀ (rs : List Rcd) (b : Option Rcd), recsF revs c ed b rs = true ↔ (∀ r ∈ rs, recOk revs c ed r = true) ∧ (∀ x, b = some x → ∀ h : 0 < rs.length, cmpR x rs[0] < 0) ∧ ∀ i (h : i + 1 < rs.length), cmpR rs[i] rs[i + 1] < 0
  | [], b => by simp [recsF]
  | r :: rs, b => by
    unfold recsF
    rw [Bool.and_eq_true, Bool.and_eq_true, recsF_mk rs (some r)]
    constructor
    · rintro ⟨⟨h1, h2⟩, h3, h4, h5⟩
      refine ⟨fun x hx => ?_, fun x hx h => ?_, fun i hi => ?_⟩
      · rcases List.mem_cons.1 hx with rfl | hx
        · exact h2
        · exact h3 x hx
      · subst hx; simpa using h1
      · cases i with
        | zero => exact h4 r rfl (by simpa using hi)
        | succ i => exact h5 i (by simpa using hi)
    · rintro ⟨h1, h2, h3⟩
      refine ⟨⟨?_, h1 r (List.mem_cons_self ..)⟩, fun x hx => h1 x (List.mem_cons_of_mem _ hx), fun x hx h => ?_, fun i hi => ?_⟩
      · cases b with
        | none => rfl
        | some x => exact decide_eq_true (h2 x rfl (by simp))
      · injection hx with hx
        subst hx
        exact h3 0 (by simpa using h)
      · exact h3 (i + 1) (by simpa using hi)
theorem rec_val {d : Dep} {c : Chg} (h : DepOk d) (h2 : everyE (lastOf d.revs) emptyS c.edits = 0) {r : Rcd} (h1 : recOk d.revs c (editsOf c.edits) r = true) : r.val_ := by
  unfold recOk at h1
  rw [Bool.and_eq_true] at h1
  obtain ⟨⟨e, he, -, hn⟩, v, hv⟩ := isRec_parts h1.1
  obtain ⟨g1, g2, -⟩ := greatest_mem hv
  obtain ⟨k1, k2⟩ := editsOf_mem _ _ _ he
  refine ⟨?_, ?_⟩
  · rw [← g2]; exact h.rec_.path v g1
  · rw [← k2]; exact ((everyE_paths h2).2 e k1).1
/-- What the reference answers to the i-th record; v: what it says of the record ahead and this one. -/
def RecB (d : Dep) (c : Chg) (i : Nat) (b : Bool) : Prop := ∃ h : i < c.recs.length, ∃ v : Bool, (∀ h0 : 0 < i, (c.recs[i - 1]'(by omega)).val_ → c.recs[i].val_ → v = decide (cmpR (c.recs[i - 1]'(by omega)) c.recs[i] < 0)) ∧ b = ((decide (i = 0) || v) && refRec d.revs c c.recs[i])
theorem recs_yes {d : Dep} {c : Chg} (h : DepOk d) (hs : ∀ r ∈ d.revs, r.chg < c.num) (h2 : everyE (lastOf d.revs) emptyS c.edits = 0) (hb : ∀ i, i < c.recs.length → RecB d c i true) : recsE d.revs c = 0 := by
  have hok : ∀ i (hi : i < c.recs.length), recOk d.revs c (editsOf c.edits) c.recs[i] = true := fun i hi => by
    obtain ⟨_, v, hv, he⟩ := hb i hi
    have := (Bool.and_eq_true _ _ ▸ he.symm)
    exact recOk_of_ref h hs h2 this.2
  have hf : recsF d.revs c (editsOf c.edits) none c.recs = true := by
    refine (recsF_mk _ _).2 ⟨fun r hr => ?_, fun x hx => (by cases hx), fun i hi => ?_⟩
    · obtain ⟨i, hi, rfl⟩ := List.mem_iff_getElem.1 hr
      exact hok i hi
    · obtain ⟨_, v, hv, he⟩ := hb (i + 1) hi
      have h3 := (Bool.and_eq_true _ _ ▸ he.symm)
      have h4 : v = true := by simpa using h3.1
      have h5 := hv (by omega) (rec_val h h2 (hok _ _)) (rec_val h h2 (hok _ _))
      rw [h4] at h5
      simpa using h5.symm
  unfold recsE
  rw [hf]; rfl
theorem recs_no {d : Dep} {c : Chg} (h : DepOk d) (hs : ∀ r ∈ d.revs, r.chg < c.num) (h2 : everyE (lastOf d.revs) emptyS c.edits = 0) {i : Nat} (hb : RecB d c i false) : recsE d.revs c = 118 := by
  unfold recsE
  cases hf : recsF d.revs c (editsOf c.edits) none c.recs with
  | false => rfl
  | true =>
    exfalso
    obtain ⟨f1, -, f3⟩ := (recsF_mk _ _).1 hf
    obtain ⟨hi, v, hv, he⟩ := hb
    rw [ref_of_recOk h hs h2 f1 (List.getElem_mem hi), Bool.and_true] at he
    have h3 := he.symm
    rw [Bool.or_eq_false_iff] at h3
    have h0 : 0 < i := by have := h3.1; simp at this; omega
    have h5 := hv h0 (rec_val h h2 (f1 _ (List.getElem_mem _))) (rec_val h h2 (f1 _ (List.getElem_mem _)))
    rw [h3.2] at h5
    obtain ⟨j, rfl⟩ : ∃ j, i = j + 1 := ⟨i - 1, by omega⟩
    have h6 := f3 j hi
    simp only [Nat.add_sub_cancel] at h5
    have := of_decide_eq_false h5.symm
    omega
theorem moves_yes {last : ByteArray → Option Rev} {es : List Edt} (h2 : everyE last emptyS es = 0) (hb : ∀ x ∈ es, movedB es x = true) : movesE es = 0 := by
  unfold movesE
  rw [if_pos]
  rw [List.all_eq_true]
  intro x hx
  rw [← moved_iff (paths_nodup (everyE_paths h2).1) hx]
  exact hb x hx
theorem moves_no {last : ByteArray → Option Rev} {es : List Edt} (h2 : everyE last emptyS es = 0) {x : Edt} (hx : x ∈ es) (hb : movedB es x = false) : movesE es = 117 := by
  unfold movesE
  rw [if_neg]
  intro hh
  rw [List.all_eq_true] at hh
  have := hh x hx
  rw [← moved_iff (paths_nodup (everyE_paths h2).1) hx, hb] at this
  cases this
/-- Both lists of records of the new depot are one. -/
theorem sorted_one {d : Dep} {c : Chg} {l m : List Rcd} (h : DepOk d) (h0 : appE d c = 0) (h1 : l.Perm (d.recs ++ c.recs)) (h2 : l.Pairwise (fun a b => 0 ≤ cmpR b a)) (h3 : m.Perm (d.recs ++ c.recs)) (h4 : m.Pairwise (fun a b => 0 ≤ cmpR b a)) : l = m :=
  strict_uniq (app_recOk h.log h.rec_ h0 h1 h2).strict (app_recOk h.log h.rec_ h0 h3 h4).strict (h1.trans h3.symm)
theorem appE_size {d : Dep} {c : Chg} (h : sizeE d.revs c ≠ 0) : appE d c = sizeE d.revs c := by unfold appE firstE; rw [if_pos h]
theorem appE_every {d : Dep} {c : Chg} (h1 : sizeE d.revs c = 0) (h : everyE (lastOf d.revs) emptyS c.edits ≠ 0) : appE d c = everyE (lastOf d.revs) emptyS c.edits := by
  unfold appE firstE; rw [if_neg (by rw [h1]; simp)]; unfold firstE; rw [if_pos h]
theorem appE_moves {d : Dep} {c : Chg} (h1 : sizeE d.revs c = 0) (h2 : everyE (lastOf d.revs) emptyS c.edits = 0) (h : movesE c.edits ≠ 0) : appE d c = movesE c.edits := by
  simp [appE, firstE, h1, h2, h]
theorem appE_recs {d : Dep} {c : Chg} (h1 : sizeE d.revs c = 0) (h2 : everyE (lastOf d.revs) emptyS c.edits = 0) (h3 : movesE c.edits = 0) (h : recsE d.revs c ≠ 0) : appE d c = recsE d.revs c := by
  simp [appE, firstE, h1, h2, h3, h]
theorem appE_room {d : Dep} {c : Chg} (h1 : sizeE d.revs c = 0) (h2 : everyE (lastOf d.revs) emptyS c.edits = 0) (h3 : movesE c.edits = 0) (h4 : recsE d.revs c = 0) : appE d c = roomE d c := by
  simp only [appE, firstE, h1, h2, h3, h4]
  by_cases h : roomE d c = 0
  · simp [h]
  · simp [h]
end Go.Proofs.YtmhmnchdhacdbaaDoor
/- The reference's examination of an edit: its words, and the rest of a function's text from a region on. -/
namespace Go.Proofs.YtmhmnchdhacdbaaDoor
open Go.RowKit
set_option linter.unusedVariables false
set_option linter.unusedSimpArgs false

def hasReg (n : Nat) : Code → Bool
  | .region i _ _ => i == n
  | .seq a b => hasReg n a || hasReg n b
  | .cond _ a b => hasReg n a || hasReg n b
  | .block _ a => hasReg n a
  | .loop a => hasReg n a
  | _ => false
/-- What is left of a function's text from the statement on that holds region n. -/
def tailAt (n : Nat) : Code → Option Code
  | .seq a b => if hasReg n a then some (.seq a b) else tailAt n b
  | c => if hasReg n c then some c else none
theorem ret_i {k : IntKind} {a b : Int} (h : a = b) : Ending.returned (.int k a) = .returned (.int k b) := by rw [h]
set_option maxHeartbeats 1000000 in
theorem refCheck_any (b : Int) (k l x : Bool) (w : World) :
    Calls Tryd.prog 58 #[.agg #[.int .i64 b, .bool k, .bool l, .bool x]] w fun e w' => e = .returned (.int .i64 (errOf 90 (tyOk b k x))) ∧ Below w.heap.size w w' := by
  by_cases h0 : 1 ≤ b ∧ b ≤ 3
  · have hb : b = 1 ∨ b = 2 ∨ b = 3 := by omega
    rcases hb with rfl | rfl | rfl <;> cases k <;> cases x
    all_goals
      go_enter Tryd.func58, Tryd.ntmps58
      go_wp2
      go_ret
      exact ⟨rfl, (Below.refl _ _).alloc (Nat.le_refl _) _⟩
  · have H : Hid (tyOk b k x = false) := Lib.hid (by
      unfold tyOk
      have h1 : (b == 1) = false := by rw [beq_eq_false_iff_ne]; omega
      have h2 : (b == 2) = false := by rw [beq_eq_false_iff_ne]; omega
      have h3 : (b == 3) = false := by rw [beq_eq_false_iff_ne]; omega
      simp [h1, h2, h3])
    by_cases hb : b < 1
    · clear h0
      go_enter Tryd.func58, Tryd.ntmps58
      go_wp2
      go_ret
      exact ⟨ret_i (by rw [H.out]; rfl), (Below.refl _ _).alloc (Nat.le_refl _) _⟩
    · have hb3 : 3 < b := by omega
      clear h0
      go_enter Tryd.func58, Tryd.ntmps58
      go_wp2
      go_ret
      exact ⟨ret_i (by rw [H.out]; rfl), (Below.refl _ _).alloc (Nat.le_refl _) _⟩
/-! What editE answers. -/
section
variable {f : ByteArray → Option Rev} {b : ByteArray} {x : Edt}
theorem ed111 (h : validS x.path = false ∨ 200 < x.path.size) : editE f b x = 111 := by unfold editE; rw [if_pos h]
theorem ed112 (h1 : ¬ (validS x.path = false ∨ 200 < x.path.size)) (h : b ≠ emptyS ∧ 0 ≤ cmpP b x.path) : editE f b x = 112 := by unfold editE; rw [if_neg h1, if_pos h]
theorem edOne (h1 : ¬ (validS x.path = false ∨ 200 < x.path.size)) (h : ¬ (b ≠ emptyS ∧ 0 ≤ cmpP b x.path)) : editE f b x = oneE f x := by unfold editE; rw [if_neg h1, if_neg h]
theorem one113 (h : actE f x ≠ 0) : oneE f x = 113 := by
  unfold oneE; rw [if_pos h]
  unfold actE at h ⊢
  split
  · split
    · rfl
    · rename_i h1 h2; rw [if_pos h1, if_neg h2] at h; exact absurd rfl h
  · split
    · split
      · rename_i h1 h2 h3; rw [if_neg h1, if_pos h2, if_pos h3] at h; exact absurd rfl h
      · rfl
    · rfl
theorem act_bad1 (h : x.act < 1 ∨ 5 < x.act) : actE f x ≠ 0 := fun e => by have := acts_ok e; omega
theorem act_bad2 (h : addA x.act = isLast f x.path) : actE f x ≠ 0 := fun e => by
  have := actE_zero e
  rw [h] at this
  cases isLast f x.path <;> simp at this
theorem act_good (h1 : 1 ≤ x.act ∧ x.act ≤ 5) (h : addA x.act = !isLast f x.path) : actE f x = 0 := by
  unfold actE
  by_cases ha : x.act = 1 ∨ x.act = 4
  · have : addA x.act = true := by unfold addA; rcases ha with h | h <;> rw [h] <;> rfl
    rw [this] at h
    rw [if_pos ha, if_neg (by intro hh; rw [hh] at h; cases h)]
  · have : addA x.act = false := by unfold addA; simp; omega
    rw [this] at h
    rw [if_neg ha, if_pos (by omega), if_pos (by cases hh : isLast f x.path; rw [hh] at h; cases h; rfl)]
end
theorem add_cases (a : Int) : ((a == 1) = true ∧ (a == 4) = false ∧ addA a = true) ∨ ((a == 1) = false ∧ (a == 4) = true ∧ addA a = true) ∨ ((a == 1) = false ∧ (a == 4) = false ∧ addA a = false) := by
  unfold addA
  by_cases h1 : a = 1
  · subst h1; exact .inl ⟨rfl, rfl, rfl⟩
  · by_cases h4 : a = 4
    · subst h4; exact .inr (.inl ⟨rfl, rfl, rfl⟩)
    · refine .inr (.inr ⟨by simpa using h1, by simpa using h4, by simp [h1, h4]⟩)
theorem rLiveB_last {revs : List Rev} (hl : ∀ p, LogOk revs p) (p : ByteArray) : rLiveB revs p = isLast (lastOf revs) p := by
  unfold rLiveB isLast; rw [(hl p).rlast]; cases lastOf revs p <;> rfl
theorem someR_last {revs : List Rev} (hl : ∀ p, LogOk revs p) (p : ByteArray) : someR (rLast revs p) = lastR (lastOf revs) p := by
  unfold someR lastR; rw [(hl p).rlast]

end Go.Proofs.YtmhmnchdhacdbaaDoor
/- The reference's record: the last part (ignored; the copy). -/
namespace Go.Proofs.YtmhmnchdhacdbaaDoor
open Go.RowKit
set_option linter.unusedVariables false
set_option linter.unusedSimpArgs false

theorem refIgn_val (D : List Rev) (rs : List Rcd) (t : Edt) (x : Rcd) : refIgn D rs t x = if ignB rs x then (decide (t.act = 2) && (decide (t.ty = (someR (rGet D x.to t.base)).ty) && (decide (t.sum = (someR (rGet D x.to t.base)).sum) && decide (t.size = (someR (rGet D x.to t.base)).size)))) else true := by
  unfold refIgn atR someR; simp only [Bool.and_assoc]
theorem refCopy_val (D : List Rev) (t : Edt) (x : Rcd) {s : Rev} (h : atR D x.frm x.last = s) : refCopy D t x = if x.how = 1 then (decide (s.act = 3) == decide (t.act = 3)) && (decide (s.act = 3) || (decide (s.ty = t.ty) && (decide (s.sum = t.sum) && decide (s.size = t.size)))) else true := by
  subst h; unfold refCopy; simp only [Bool.and_assoc]
set_option maxRecDepth 100000 in
set_option maxHeartbeats 8000000 in
theorem rcT35 (T : Code) (hT : Tryd.f45.body.bind (tailAt 35) = some T) (R : Ending → World → Prop) (revs : List Rev) (rs : List Rcd) (x : Rcd) (t : Edt) (Ar : Option Addr) (dr : Value) (cr g3 g7 g8 : Nat) (w : World)
    (hR : Revs w (.slice Ar revs.length cr) revs) (hl : revs.length ≤ 100000) (hD : Blk w g3 31 [.slice Ar revs.length cr, dr])
    (hX : Blk w g7 50 [.string x.frm, .int .i64 x.first, .int .i64 x.last, .string x.to, .int .i64 x.num, .int .i64 x.how])
    (hE : Blk w g8 48 [.string t.path, .int .i64 t.act, .int .i64 t.ty.base, .bool t.ty.k, .bool t.ty.l, .bool t.ty.x, .int .u64 t.sum, .int .i64 t.size, .int .i64 t.base, .string t.frm, .int .i64 t.fnum, .int .i64 t.fence])
    (hRR : ∀ (b : Bool) (w' : World), b = refIgn revs rs t x → Below w.heap.size w w' → R (.returned (.bool b)) w')
    (u0 u1 u2 u4 u5 u6 u10 u11 u12 u13 u14 u15 u16 u17 u18 u19 u20 u21 u22 u23 u24 u25 u26 u27 u28 u29 u30 u31 u32 u33 u34 u35 u36 u37 u38 u39 u40 u41 u42 u43 u44 u45 u46 u47 u48 u49 u50 u51 u52 u53 u54 u55 u56 u57 u58 u59 u60 u61 u62 u63 u64 u65 u66 u67 u68 u69 u70 u71 u72 u73 u74 u75 u76 u77 u78 u79 u80 u81 u82 u83 u84 u85 u86 u87 u88 u89 u90 u91 u92 u93 u94 u95 u96 u97 u98 u99 u100 u101 u102 u103 u104 u105 u106 u107 u108 u109 u110 u111 u112 u113 u114 u115 u116 u117 u118 u119 u120 u121 u122 u123 u124 u125 u126 u127 u128 u129 u130 u131 u132 u133 u134 u135 u136 u137 u138 u139 u140 u141 u142 u143 u144 u145 u146 u147 u148 u149 u150 u151 u152 u153 u154 u155 u156 u157 u158 u159 u160 u161 u162 u163 u164 u165 u166 u167 u168 u169 u170 u171 u172 u173 u174 u175 u176 u177 u178 u179 u180 u181 u182 u183 u184 u185 u186 u187 u188 u189 u190 u191 u192 u193 u194 u195 u196 u197 u198 u199 u200 u201 u202 u203 u204 u205 u206 u207 u208 u209 u210 u211 u212 u213 u214 u215 u216 u217 u218 u219 u220 u221 u222 u223 u224 u225 u226 u227 u228 u229 u230 u231 u232 u233 u234 u235 u236 u237 u238 u239 u240 u241 u242 : Value) :
    T.wp Tryd.prog (bodyPost Tryd.prog Tryd.f45 R) ⟨#[u0, u1, u2, .pointer (some ⟨g3, 0, none⟩), u4, u5, u6, .pointer (some ⟨g7, 0, none⟩), .pointer (some ⟨g8, 0, none⟩), .bool (ignB rs x), u10, u11, u12, u13, u14, u15, u16, u17, u18, u19, u20, u21, u22, u23, u24, u25, u26, u27, u28, u29, u30, u31, u32, u33, u34, u35, u36, u37, u38, u39, u40, u41, u42, u43, u44, u45, u46, u47, u48, u49, u50, u51, u52, u53, u54, u55, u56, u57, u58, u59, u60, u61, u62, u63, u64, u65, u66, u67, u68, u69, u70, u71, u72, u73, u74, u75, u76, u77, u78, u79, u80, u81, u82, u83, u84, u85, u86, u87, u88, u89, u90, u91, u92, u93, u94, u95, u96, u97, u98, u99, u100, u101, u102, u103, u104, u105, u106, u107, u108, u109, u110, u111, u112, u113, u114, u115, u116, u117, u118, u119, u120, u121, u122, u123, u124, u125, u126, u127, u128, u129, u130, u131, u132, u133, u134, u135, u136, u137, u138, u139, u140, u141, u142, u143, u144, u145, u146, u147, u148, u149, u150, u151, u152, u153, u154, u155, u156, u157, u158, u159, u160, u161, u162, u163, u164, u165, u166, u167, u168, u169, u170, u171, u172, u173, u174, u175, u176, u177, u178, u179, u180, u181, u182, u183, u184, u185, u186, u187, u188, u189, u190, u191, u192, u193, u194, u195, u196, u197, u198, u199, u200, u201, u202, u203, u204, u205, u206, u207, u208, u209, u210, u211, u212, u213, u214, u215, u216, u217, u218, u219, u220, u221, u222, u223, u224, u225, u226, u227, u228, u229, u230, u231, u232, u233, u234, u235, u236, u237, u238, u239, u240, u241, u242], []⟩ w := by
  simp only [Tryd.f45, Option.bind_some, tailAt, hasReg] at hT
  simp at hT
  subst hT
  have HRR := Lib.hid hRR
  have HR := Lib.hid hR
  clear hRR hR
  have HD := Lib.hid hD
  have HX := Lib.hid hX
  have HE := Lib.hid hE
  have HV := Lib.hid (refIgn_val revs rs t x)
  clear hD hX hE
  generalize refIgn revs rs t x = V at HRR HV
  cases hig : ignB rs x with
  | false =>
    have HF : Hid (true = V) := Lib.hid (by rw [HV.out, hig]; rfl)
    clear hig
    go_wp2_with fail
    exact HRR.out _ _ HF.out (Below.refl _ _)
  | true =>
    have HW : Hid (V = (decide (t.act = 2) && (decide (t.ty = (someR (rGet revs x.to t.base)).ty) && (decide (t.sum = (someR (rGet revs x.to t.base)).sum) && decide (t.size = (someR (rGet revs x.to t.base)).size))))) := Lib.hid (by rw [HV.out, if_pos hig])
    clear hig HV
    obtain ⟨d0, d1, -, -⟩ := box2 HD.out
    obtain ⟨x0, x1, x2, x3, x4, x5⟩ := box6 HX.out
    obtain ⟨c0, c1, c2, c3, c4, c5, c6, c7, c8, c9, c10, c11⟩ := box12 HE.out
    have HG := Lib.hid (refGet_any revs x.to t.base (.slice Ar revs.length cr) dr w HR.out (by omega))
    go_wp2_with fail
    refine HG.out.mono ?_
    rintro e w2 ⟨rfl, hb2⟩
    generalize someR (rGet revs x.to t.base) = u at HW ⊢
    generalize (rGet revs x.to t.base).isSome = ok
    have hY := blk_new w2 [.string u.path, .int .i64 u.num, .int .i64 u.chg, .int .i64 u.act, .int .i64 u.ty.base, .bool u.ty.k, .bool u.ty.l, .bool u.ty.x, .int .u64 u.sum, .int .i64 u.size, .string u.frm, .int .i64 u.fnum] 45
    have hA : Below w.heap.size w (w2.alloc (.cells #[.string u.path, .int .i64 u.num, .int .i64 u.chg, .int .i64 u.act, .int .i64 u.ty.base, .bool u.ty.k, .bool u.ty.l, .bool u.ty.x, .int .u64 u.sum, .int .i64 u.size, .string u.frm, .int .i64 u.fnum] 45)) := below_alloc' hb2 _
    clear hb2 d0 d1 x0 x1 x2 x3 x4 x5 c0 c1 c2 c3 c4 c5 c6 c7 c8 c9 c10 c11
    go_upto_region 37 with fail
    generalize w2.alloc (.cells #[.string u.path, .int .i64 u.num, .int .i64 u.chg, .int .i64 u.act, .int .i64 u.ty.base, .bool u.ty.k, .bool u.ty.l, .bool u.ty.x, .int .u64 u.sum, .int .i64 u.size, .string u.frm, .int .i64 u.fnum] 45) = w3 at hY hA ⊢
    generalize w2.heap.size = g23 at hY ⊢
    obtain ⟨c0, c1, c2, c3, c4, c5, c6, c7, c8, c9, c10, c11⟩ := box12 (HE.out.below hA HE.out.lt)
    obtain ⟨b0, b1, b2, b3, b4, b5, b6, b7, b8, b9, b10, b11⟩ := box12 hY
    have HB := Lib.hid hA
    clear hA hY
    have hty := run_eql_ty t.ty u.ty
    have hcn := run_eql_con t.sum t.size u.sum u.size
    generalize (decide (t.sum = u.sum) && decide (t.size = u.size)) = bc at hcn HW
    generalize decide (t.ty = u.ty) = bt at hty HW
    by_cases h2 : t.act = 2
    · have q2 : (t.act == 2) = true := by simpa using h2
      rw [decide_eq_true h2] at HW
      clear h2
      cases bt <;> cases bc
      all_goals
        go_wp2_with fail
        exact HRR.out _ _ HW.out.symm HB.out
    · have q2 : (t.act == 2) = false := by simpa using h2
      rw [decide_eq_false h2] at HW
      clear h2
      go_wp2_with fail
      exact HRR.out _ _ HW.out.symm HB.out
set_option maxRecDepth 100000 in
set_option maxHeartbeats 8000000 in
theorem rcT31 (T : Code) (hT : Tryd.f45.body.bind (tailAt 31) = some T) (R : Ending → World → Prop) (revs : List Rev) (rs : List Rcd) (x : Rcd) (t : Edt) (s : Rev) (Ar : Option Addr) (dr : Value) (cr g3 g7 g8 g14 : Nat) (w : World)
    (hR : Revs w (.slice Ar revs.length cr) revs) (hl : revs.length ≤ 100000) (hs : atR revs x.frm x.last = s) (hD : Blk w g3 31 [.slice Ar revs.length cr, dr])
    (hX : Blk w g7 50 [.string x.frm, .int .i64 x.first, .int .i64 x.last, .string x.to, .int .i64 x.num, .int .i64 x.how])
    (hE : Blk w g8 48 [.string t.path, .int .i64 t.act, .int .i64 t.ty.base, .bool t.ty.k, .bool t.ty.l, .bool t.ty.x, .int .u64 t.sum, .int .i64 t.size, .int .i64 t.base, .string t.frm, .int .i64 t.fnum, .int .i64 t.fence])
    (hS : Blk w g14 45 [.string s.path, .int .i64 s.num, .int .i64 s.chg, .int .i64 s.act, .int .i64 s.ty.base, .bool s.ty.k, .bool s.ty.l, .bool s.ty.x, .int .u64 s.sum, .int .i64 s.size, .string s.frm, .int .i64 s.fnum])
    (hRR : ∀ (b : Bool) (w' : World), b = (refCopy revs t x && refIgn revs rs t x) → Below w.heap.size w w' → R (.returned (.bool b)) w')
    (u0 u1 u2 u4 u5 u6 u10 u11 u12 u13 u15 u16 u17 u18 u19 u20 u21 u22 u23 u24 u25 u26 u27 u28 u29 u30 u31 u32 u33 u34 u35 u36 u37 u38 u39 u40 u41 u42 u43 u44 u45 u46 u47 u48 u49 u50 u51 u52 u53 u54 u55 u56 u57 u58 u59 u60 u61 u62 u63 u64 u65 u66 u67 u68 u69 u70 u71 u72 u73 u74 u75 u76 u77 u78 u79 u80 u81 u82 u83 u84 u85 u86 u87 u88 u89 u90 u91 u92 u93 u94 u95 u96 u97 u98 u99 u100 u101 u102 u103 u104 u105 u106 u107 u108 u109 u110 u111 u112 u113 u114 u115 u116 u117 u118 u119 u120 u121 u122 u123 u124 u125 u126 u127 u128 u129 u130 u131 u132 u133 u134 u135 u136 u137 u138 u139 u140 u141 u142 u143 u144 u145 u146 u147 u148 u149 u150 u151 u152 u153 u154 u155 u156 u157 u158 u159 u160 u161 u162 u163 u164 u165 u166 u167 u168 u169 u170 u171 u172 u173 u174 u175 u176 u177 u178 u179 u180 u181 u182 u183 u184 u185 u186 u187 u188 u189 u190 u191 u192 u193 u194 u195 u196 u197 u198 u199 u200 u201 u202 u203 u204 u205 u206 u207 u208 u209 u210 u211 u212 u213 u214 u215 u216 u217 u218 u219 u220 u221 u222 u223 u224 u225 u226 u227 u228 u229 u230 u231 u232 u233 u234 u235 u236 u237 u238 u239 u240 u241 u242 : Value) :
    T.wp Tryd.prog (bodyPost Tryd.prog Tryd.f45 R) ⟨#[u0, u1, u2, .pointer (some ⟨g3, 0, none⟩), u4, u5, u6, .pointer (some ⟨g7, 0, none⟩), .pointer (some ⟨g8, 0, none⟩), .bool (ignB rs x), u10, u11, u12, u13, .pointer (some ⟨g14, 0, none⟩), u15, u16, u17, u18, u19, u20, u21, u22, u23, u24, u25, u26, u27, u28, u29, u30, u31, u32, u33, u34, u35, u36, u37, u38, u39, u40, u41, u42, u43, u44, u45, u46, u47, u48, u49, u50, u51, u52, u53, u54, u55, u56, u57, u58, u59, u60, u61, u62, u63, u64, u65, u66, u67, u68, u69, u70, u71, u72, u73, u74, u75, u76, u77, u78, u79, u80, u81, u82, u83, u84, u85, u86, u87, u88, u89, u90, u91, u92, u93, u94, u95, u96, u97, u98, u99, u100, u101, u102, u103, u104, u105, u106, u107, u108, u109, u110, u111, u112, u113, u114, u115, u116, u117, u118, u119, u120, u121, u122, u123, u124, u125, u126, u127, u128, u129, u130, u131, u132, u133, u134, u135, u136, u137, u138, u139, u140, u141, u142, u143, u144, u145, u146, u147, u148, u149, u150, u151, u152, u153, u154, u155, u156, u157, u158, u159, u160, u161, u162, u163, u164, u165, u166, u167, u168, u169, u170, u171, u172, u173, u174, u175, u176, u177, u178, u179, u180, u181, u182, u183, u184, u185, u186, u187, u188, u189, u190, u191, u192, u193, u194, u195, u196, u197, u198, u199, u200, u201, u202, u203, u204, u205, u206, u207, u208, u209, u210, u211, u212, u213, u214, u215, u216, u217, u218, u219, u220, u221, u222, u223, u224, u225, u226, u227, u228, u229, u230, u231, u232, u233, u234, u235, u236, u237, u238, u239, u240, u241, u242], []⟩ w := by
  simp only [Tryd.f45, Option.bind_some, tailAt, hasReg] at hT
  simp at hT
  subst hT
  have HRR := Lib.hid hRR
  have HR := Lib.hid hR
  clear hRR hR
  have HX := Lib.hid hX
  have HE := Lib.hid hE
  have HS := Lib.hid hS
  have HV := Lib.hid (refCopy_val revs t x hs)
  have HT := Lib.hid (fun T hT R hRR => rcT35 T hT R revs rs x t Ar dr cr g3 g7 g8 w HR.out hl hD hX hE hRR)
  clear hD hX hE hS hs HR
  generalize refCopy revs t x = V at HRR HV
  obtain ⟨x0, x1, x2, x3, x4, x5⟩ := box6 HX.out
  go_upto_if 189 with fail
  go_cut [] (fun wx => Hid (wx = w ∧ V = true))
  case first =>
    by_cases h1 : x.how = 1
    · have q1 : (x.how == 1) = true := by simpa using h1
      have HW : Hid (V = ((decide (s.act = 3) == decide (t.act = 3)) && (decide (s.act = 3) || (decide (s.ty = t.ty) && (decide (s.sum = t.sum) && decide (s.size = t.size)))))) := Lib.hid (by rw [HV.out, if_pos h1])
      clear h1 HV
      obtain ⟨c0, c1, c2, c3, c4, c5, c6, c7, c8, c9, c10, c11⟩ := box12 HE.out
      obtain ⟨b0, b1, b2, b3, b4, b5, b6, b7, b8, b9, b10, b11⟩ := box12 HS.out
      have hty := run_neq_ty s.ty t.ty
      have hcn := run_neq_con s.sum s.size t.sum t.size
      generalize (decide (s.sum = t.sum) && decide (s.size = t.size)) = bc at hcn HW
      generalize decide (s.ty = t.ty) = bt at hty HW
      have HQ3 : Hid ((s.act == 3) = decide (s.act = 3) ∧ (t.act == 3) = decide (t.act = 3)) := Lib.hid ⟨by rw [Bool.eq_iff_iff]; simp, by rw [Bool.eq_iff_iff]; simp⟩
      have qs := HQ3.out.1
      have qt := HQ3.out.2
      generalize decide (s.act = 3) = bs at qs HW
      generalize decide (t.act = 3) = bd at qt HW
      clear HQ3
      cases bs <;> cases bd <;> cases bt <;> cases bc
      all_goals
        go_wp2_with fail
        first
          | (exact HRR.out _ _ (by rw [HW.out]; rfl) (Below.refl _ _))
          | (go_meet
             exact ⟨rfl, HW.out⟩)
    · have q1 : (x.how == 1) = false := by simpa using h1
      have HW : Hid (V = true) := Lib.hid (by rw [HV.out, if_neg h1])
      clear h1 HV
      go_wp2_with fail
      go_meet
      exact ⟨rfl, HW.out⟩
  case rest =>
    obtain rfl : wc = w := hcut.out.1
    have HW : Hid (V = true) := Lib.hid hcut.out.2
    clear hcut
    have hk := ‹∀ (a : Act) (w : World), Code.wp _ _ _ a w → _›
    exact hk _ _ (HT.out _ (by kernel_rfl) _ (fun b w' hb hw => HRR.out b w' (by rw [HW.out, hb]; rfl) hw) _ _ _ _ _ _ _ _ _ _ _ _ _ _ _ _ _ _ _ _ _ _ _ _ _ _ _ _ _ _ _ _ _ _ _ _ _ _ _ _ _ _ _ _ _ _ _ _ _ _ _ _ _ _ _ _ _ _ _ _ _ _ _ _ _ _ _ _ _ _ _ _ _ _ _ _ _ _ _ _ _ _ _ _ _ _ _ _ _ _ _ _ _ _ _ _ _ _ _ _ _ _ _ _ _ _ _ _ _ _ _ _ _ _ _ _ _ _ _ _ _ _ _ _ _ _ _ _ _ _ _ _ _ _ _ _ _ _ _ _ _ _ _ _ _ _ _ _ _ _ _ _ _ _ _ _ _ _ _ _ _ _ _ _ _ _ _ _ _ _ _ _ _ _ _ _ _ _ _ _ _ _ _ _ _ _ _ _ _ _ _ _ _ _ _ _ _ _ _ _ _ _ _ _ _ _ _ _ _ _ _ _ _ _ _ _ _ _ _ _ _ _ _ _ _ _ _ _ _ _ _ _ _ _ _ _ _ _ _)
end Go.Proofs.YtmhmnchdhacdbaaDoor
