/- bytes.Replace, all instances. -/
import Derived.Test.YtfifalpacagacaaDoorBytesF
import Derived.Lib.ReplaceLaws
import Derived.Laws.CopyOwn
import Derived.Deep.RegionLaw
import Derived.StillTailTactics
import Derived.RegionTactic
import Derived.IntWalk
namespace Go.Proofs.YtfifalpacagacaaDoor
open Go.RowKit
set_option linter.unusedVariables false
set_option linter.unusedSimpArgs false

/-! Plain. -/
theorem replaceK_len {old new : List UInt8} (ho : old ≠ []) : ∀ (k : Nat) (s : List UInt8), k ≤ Lib.count s old → (Lib.replaceK old new k s).length + k * old.length = s.length + k * new.length := by
  intro k
  induction k with
  | zero => intro s _; simp [Lib.replaceK]
  | succ k ih =>
    intro s hk
    obtain ⟨i, hi⟩ := Lib.index_of_count (by omega : 0 < Lib.count s old)
    rw [Lib.replaceK_hit old new k s i hi]
    have hc := Lib.count_hit (by cases old <;> simp_all) hi
    have hroom := Lib.index_room s old (by omega)
    rw [hi] at hroom
    have := ih (s.drop (i + old.length)) (by omega)
    simp only [List.length_append, List.length_take, List.length_drop] at this ⊢
    rw [Nat.succ_mul, Nat.succ_mul]
    omega

/-- What holds at the head of each round: 'out' is written, the rest of s is from 'start' on. -/
structure RState (s old new : List UInt8) (n k start : Nat) (out : List UInt8) : Prop where
  le : k ≤ n
  stle : start ≤ s.length
  cnt : Lib.count (s.drop start) old = n - k
  eq : out ++ Lib.replaceK old new (n - k) (s.drop start) = Lib.replaceK old new n s

theorem RState.init {s old new : List UInt8} {n : Nat} (h : Lib.count s old = n) : RState s old new n 0 0 [] := ⟨by omega, by omega, by simpa using h, by simp⟩
theorem RState.next {s old new : List UInt8} {n k start : Nat} {out : List UInt8} (ho : old ≠ []) (h : RState s old new n k start out) (hk : k < n) :
    ∃ i : Nat, Lib.index (s.drop start) old = i ∧ start + i + old.length ≤ s.length ∧ RState s old new n (k + 1) (start + i + old.length) (out ++ (s.drop start).take i ++ new) := by
  obtain ⟨i, hi⟩ := Lib.index_of_count (by rw [h.cnt]; omega : 0 < Lib.count (s.drop start) old)
  have hc := Lib.count_hit (by cases old <;> simp_all) hi
  have hroom := Lib.index_room (s.drop start) old (by omega)
  rw [hi, List.length_drop] at hroom
  have hst := h.stle
  refine ⟨i, hi, by omega, by omega, by omega, ?_, ?_⟩
  · have := h.cnt
    rw [hc, List.drop_drop] at this
    rw [show start + i + old.length = start + (i + old.length) by omega]
    omega
  · rw [← h.eq, show n - k = (n - (k + 1)) + 1 by omega, Lib.replaceK_hit old new _ _ i hi, List.drop_drop]
    rw [show start + i + old.length = start + (i + old.length) by omega]
    simp [List.append_assoc]
theorem RState.fin {s old new : List UInt8} {n start : Nat} {out : List UInt8} (h : RState s old new n n start out) : out ++ s.drop start = Lib.replaceK old new n s := by
  have := h.eq
  rw [Nat.sub_self] at this
  exact this
theorem RState.len {s old new : List UInt8} {n k start : Nat} {out : List UInt8} (h : RState s old new n k start out) : out.length ≤ (Lib.replaceK old new n s).length := by
  rw [← h.eq]; simp
theorem RState.len2 {s old new : List UInt8} {n k start : Nat} {out : List UInt8} (ho : old ≠ []) (h : RState s old new n k start out) (hk : k < n) {i : Nat} (hi : Lib.index (s.drop start) old = i) : out.length + i + new.length ≤ (Lib.replaceK old new n s).length := by
  obtain ⟨j, hj, h1, h2⟩ := h.next ho hk
  rw [hi] at hj
  have hij : i = j := by omega
  subst hij
  have hl := h2.len
  have := h.stle
  simp only [List.length_append, List.length_take, List.length_drop] at hl
  omega
theorem replaceAll_eq {s old new : List UInt8} (hne : old ≠ new) : Lib.replaceAll s old new = Lib.replaceK old new (Lib.count s old) s := by
  unfold Lib.replaceAll Lib.replace
  rw [if_neg (by simpa using hne)]
  unfold Lib.replaceNum
  rw [if_pos (.inl (by decide))]

/-! The walk. -/
theorem below_of_grown_ {w w' : World} {B g : Nat} (h : w.grownBy w' (some g)) (hg : B ≤ g) (hB : B ≤ w.heap.size) : Below B w w' := ⟨h.os, h.tape, h.output, h.size, fun k hk => h.block k (by omega) (by intro e; injection e with e; omega)⟩
theorem byteInfo5 : (Tryd.prog.info? 5).map (fun i => (i.zero, i.size, i.bytes)) = some (some (.int .u8 0), 1, 1) := by kernel_rfl
theorem byteElem5 : ElemOk Tryd.prog 22 5 1 1 := elemOk_of Tryd.underlying22 byteInfo5 rfl (by decide)

set_option maxHeartbeats 4000000 in
theorem replace_none (l o nw : List UInt8) (v : Value) (g1 d1 g2 d2 : Nat) (w : World) (he : Env w) (hb : Bytes w v l) (ho : BytesAt w g1 o) (h1 : 1 ≤ o.length) (hl : l.length ≤ 100000) (hol : o.length ≤ 2) (hnl : nw.length ≤ 2) (h0 : Lib.count l o = 0) :
    Calls Tryd.prog 81 #[v, .slice (some ⟨g1, 0, none⟩) o.length d1, .slice (some ⟨g2, 0, none⟩) nw.length d2, .int .i64 (-1)] w fun e w' => ∃ v', e = .returned v' ∧ Bytes w' v' l ∧ Below w.heap.size w w' := by
  have HC := count_bytes l o v g1 d1 w he hb ho h1 (by omega) (by omega)
  rw [h0] at HC
  have HHC := Lib.hid HC
  have HB := Lib.hid hb
  obtain ⟨A, c, rfl, hc, hm, -⟩ := id hb
  clear HC hb h0
  go_enter Tryd.func81, Tryd.ntmps81
  go_wp2_with fail
  refine HHC.out.mono ?_
  rintro e w1 ⟨rfl, q, rfl⟩
  go_wp2_with (at_builtin; refine wpList_app (base := w.heap.size) (n := 0) (xs := []) rfl rfl byteElem5 (World.ownsRow_nil _ _ _ _) rfl (HB.out.drewN q) rfl (byteCells_one l) (by omega) (by unfold maxLen; omega) (Nat.le_refl _) ?_; intro A' c' w2 hown hg _)
  go_ret
  simp only [Nat.zero_add, List.nil_append] at hown
  have hbl : Below w.heap.size w w2 := ⟨hg.os, hg.tape, hg.output, hg.size, fun k hk => hg.block k hk (by simp [Value.ownBlock])⟩
  refine ⟨.slice A' l.length c', ?_, Row.of_own hown, hbl⟩
  simp

theorem repl_size {l o nw : List UInt8} (ho : o ≠ []) : ((l.length : Int) + (Lib.count l o : Int) * ((nw.length : Int) - (o.length : Int))) = ((Lib.replaceK o nw (Lib.count l o) l).length : Int) := by
  have h := replaceK_len (new := nw) ho (Lib.count l o) l (Nat.le_refl _)
  rw [Int.mul_sub]
  have h' : ((Lib.replaceK o nw (Lib.count l o) l).length : Int) + (Lib.count l o : Int) * (o.length : Int) = (l.length : Int) + (Lib.count l o : Int) * (nw.length : Int) := by
    rw [← Int.natCast_mul, ← Int.natCast_mul, ← Int.natCast_add, ← Int.natCast_add, h]
  omega
theorem count_le_len {l o : List UInt8} (ho : o ≠ []) : Lib.count l o ≤ l.length := by
  have h := replaceK_len (new := []) ho (Lib.count l o) l (Nat.le_refl _)
  simp only [List.length_nil, Nat.mul_zero, Nat.add_zero] at h
  have : Lib.count l o * 1 ≤ Lib.count l o * o.length := Nat.mul_le_mul_left _ (by cases o <;> simp_all)
  omega

/-- 'copy' into a block that is known whole. -/
theorem run_copy_into {P : Program} {W : World} {t e ty : TypeId} {T off dLen dCap m sCap : Nat} {ad : Addr} {cur cs : List Value} (ht : P.underlying t = some (.slice e)) (hsz : (P.info? e).map (·.size) = some 1) (h : Blk W T e cur)
    (hm : cs.length = m) (hd : m ≤ dLen) (hsrc : ∀ j v, cs[j]? = some v → W.cell? (ad.add j) = some v) (hfit : off + m ≤ cur.length) (h1 : ∀ v ∈ cs, v.oneCell' = true) :
    ∃ W', (Builtin.copy_ #[t, t] ty #[.slice (some ⟨T, off, none⟩) dLen dCap, .slice (some ad) m sCap]).run P W = .ok (.int .i64 m) W' ∧ Blk W' T e (splice cur off cs) ∧ W.grownBy W' (some T) ∧ W'.heap.size = W.heap.size := by
  subst hm
  have hrun := run_copy_row (P := P) W t t ty e T off dLen dCap ad cs.length sCap cur.toArray e cs ht hsz h (by simp [Nat.min_eq_left hd]) hsrc (by simpa using hfit) h1
  refine ⟨_, hrun, ?_, ?_, ?_⟩
  · have := setRow_heap W T cur.toArray (cur.take off ++ (cs ++ cur.drop (off + cs.length))).toArray e (0, 0) h
    simpa [Blk, splice] using this
  · exact ⟨rfl, rfl, rfl, by simp [World.setRow], fun k hk hne => setRow_other W T k _ (fun e => hne (by rw [e]))⟩
  · simp [World.setRow]
theorem splice_at {α : Type} (a b cs : List α) (h : cs.length ≤ b.length) : splice (a ++ b) a.length cs = (a ++ cs) ++ b.drop cs.length := by
  unfold splice
  rw [List.take_left, ← List.drop_drop, List.drop_left, List.append_assoc]

set_option maxRecDepth 100000 in
set_option maxHeartbeats 1000000 in
theorem replace_some (l o nw : List UInt8) (v : Value) (g1 d1 g2 d2 : Nat) (w : World) (he : Env w) (hb : Bytes w v l) (ho : BytesAt w g1 o) (hn : BytesAt w g2 nw) (h1 : 1 ≤ o.length) (hl : l.length ≤ 100000) (hol : o.length ≤ 2) (hnl : nw.length ≤ 2) (hn1 : 1 ≤ nw.length) (h0 : 0 < Lib.count l o) :
    Calls Tryd.prog 81 #[v, .slice (some ⟨g1, 0, none⟩) o.length d1, .slice (some ⟨g2, 0, none⟩) nw.length d2, .int .i64 (-1)] w fun e w' => ∃ v', e = .returned v' ∧ Bytes w' v' (Lib.replaceK o nw (Lib.count l o) l) ∧ Below w.heap.size w w' := by
  have hone : o ≠ [] := by intro e; subst e; simp at h1
  have HC := Lib.hid (count_bytes l o v g1 d1 w he hb ho h1 (by omega) (by omega))
  have HB := Lib.hid hb
  obtain ⟨ad, c, rfl, hc, hm, hadlt, -⟩ := Row.cells hb (by have := count_le_len (l := l) hone; omega)
  have hsz := repl_size (nw := nw) (l := l) hone
  have hcl := count_le_len (l := l) hone
  have HI := Lib.hid (RState.init (new := nw) (s := l) (old := o) rfl)
  have hrl : (Lib.replaceK o nw (Lib.count l o) l).length ≤ 300000 := by
    have h := replaceK_len (new := nw) hone (Lib.count l o) l (Nat.le_refl _)
    have : Lib.count l o * nw.length ≤ 100000 * 2 := Nat.mul_le_mul (by omega) hnl
    omega
  have hxl : ∃ X : Int, (Lib.count l o : Int) * ((nw.length : Int) - (o.length : Int)) = X := ⟨_, rfl⟩
  obtain ⟨X, hX⟩ := hxl
  rw [hX] at hsz
  generalize hR : Lib.replaceK o nw (Lib.count l o) l = R at *
  generalize hN : Lib.count l o = n at *
  have q1 : ((n : Int) == 0) = false := by rw [beq_eq_false_iff_ne]; omega
  have q2 : decide ((o.length : Int) > 0) = true := by simp; omega
  have HR := Lib.hid hR
  have HN := Lib.hid hN
  have hmk := fun kl kc => run_mk (P := Tryd.prog) Tryd.underlying22 byteInfo5 (by decide) (zs := [.int .u8 0]) rfl rfl R.length kl kc (by omega) (by omega)
  clear hb hR hN
  go_enter Tryd.func81, Tryd.ntmps81
  go_wp2_with fail
  refine HC.out.mono ?_
  rintro e w1 ⟨rfl, q, rfl⟩
  have hq3 : decide (0 < o.length) = true := by simp; omega
  go_wp2_with fail
  have hW0 : Blk ((w.drewN q).alloc (.cells (mkL [.int .u8 0] R.length).toArray 5)) w.heap.size 5 (mkL [.int .u8 0] R.length) := blk_new (w.drewN q) _ _
  have hbw0 : Below w.heap.size w ((w.drewN q).alloc (.cells (mkL [.int .u8 0] R.length).toArray 5)) := (below_dN (Below.refl _ _) q).alloc (Nat.le_refl _) _
  have hmkl : (mkL [Value.int .u8 0] R.length).length = R.length := by rw [mkL_length]; simp
  generalize mkL [Value.int .u8 0] R.length = tail0 at hW0 hbw0 hmkl ⊢
  generalize (w.drewN q).alloc (.cells tail0.toArray 5) = W0 at hW0 hbw0 ⊢
  unfold maxLen at hm
  clear hmk hX hsz
  go_loopw [11, 12, 49] (fun a b i wr => ∃ (k start : Nat) (out : List UInt8) (tail : List Value), RState l o nw n k start out ∧ i = .int .i64 k ∧ b = .int .i64 start ∧ a = .int .i64 out.length ∧ Blk wr w.heap.size 5 (byteCells out ++ tail) ∧ out.length + tail.length = R.length ∧ Below w.heap.size w wr) (fun _ _ i _ => n - (intOf i).toNat)
  case atStart => exact ⟨0, 0, [], tail0, HI.out, rfl, rfl, rfl, hW0, by simpa using hmkl, hbw0⟩
  case round =>
    obtain ⟨k, start, out, tail, hst, rfl, rfl, rfl, hblk, hlen, hbl⟩ := hrel
    have hle := hst.le
    have hstl := hst.stle
    by_cases hlt : k < n
    · obtain ⟨i, hi, hi2, hnx⟩ := hst.next hone hlt
      have hroom := hst.len2 hone hlt hi
      rw [HR.out] at hroom
      have HNX := Lib.hid hnx
      have HBK := Lib.hid hblk
      have HLN := Lib.hid hlen
      have hbs := (HB.out.below hbl)
      have HBS := Lib.hid hbs
      clear hst hnx hblk hlen hbs
      obtain ⟨c1, c2⟩ : (0 : Int) ≤ (start : Int) ∧ (start : Int) ≤ (c : Int) := ⟨by omega, by omega⟩
      have hne : ¬ c = start := by omega
      have hsub : Bytes wr (.slice (some (ad.add start)) (l.length - start) (c - start)) (l.drop start) := by
        have := HBS.out.sub (lo := start) (hi := l.length) (by omega) (Nat.le_refl _) (by omega)
        rwa [List.take_of_length_le (by rw [List.length_drop]; exact Nat.le_refl _)] at this
      have hbo := ho.below hbl
      have HIX := Lib.hid (index_bytes (l.drop start) o _ g1 d1 wr (he.below hbl) hsub hbo (by intro e; have := congrArg List.length e; rw [List.length_drop] at this; simp at this; omega) (by rw [List.length_drop]; omega) (by omega))
      rw [hi] at HIX
      clear hsub hbo
      go_wp2_with fail
      refine HIX.out.mono ?_
      rintro e w2 ⟨rfl, q2', hw2⟩
      have hbl2 : Below w.heap.size w w2 := by rw [hw2]; exact below_dN hbl _
      have HBK2 : Hid (Blk w2 w.heap.size 5 (byteCells out ++ tail)) := Lib.hid (by rw [hw2]; exact HBK.out.drewN _)
      have HBS2 : Hid (Bytes w2 (.slice (some ad) l.length c) l) := Lib.hid (by rw [hw2]; exact HBS.out.drewN _)
      clear hw2 HIX HBK HBS hbl
      have hcs1 : (byteCells ((l.drop start).take i)).length = i := by rw [byteCells_len, List.length_take, List.length_drop]; omega
      have hsrc : ∀ j v, (byteCells ((l.drop start).take i))[j]? = some v → w2.cell? ((ad.add start).add j) = some v := by
        have hb := HBS2.out.sub (lo := start) (hi := start + i) (by omega) (by omega) (by omega)
        rw [show start + i - start = i by omega] at hb
        obtain ⟨A', c', e, _, _, _, hx⟩ := hb.open_
        injection e with e1 e2 e3
        exact hx _ e1.symm
      have htl : i + nw.length ≤ tail.length := by have := HLN.out; omega
      obtain ⟨w3, hcp, hblk3, hg3, hs3⟩ := run_copy_into (P := Tryd.prog) (W := w2.drew) (ty := 3) (dLen := R.length - out.length) (dCap := R.length - out.length) (sCap := c - start) (off := out.length) (ad := ad.add start) Tryd.underlying22 (by kernel_rfl) HBK2.out hcs1 (by omega) hsrc (by rw [List.length_append, byteCells_len]; omega) (byteCells_one _)
      have hsp := splice_at (byteCells out) tail (byteCells ((l.drop start).take i)) (by omega)
      rw [byteCells_len, hcs1, ← byteCells_app] at hsp
      rw [hsp] at hblk3
      have HBK3 := Lib.hid hblk3
      have hbl3 : Below w.heap.size w w3 := hbl2.drew.trans (below_of_grown_ hg3 (Nat.le_refl _) hbl2.size)
      have hnw3 := hn.below hbl3
      have hl3 : (out ++ (l.drop start).take i).length = out.length + i := by rw [List.length_append, List.length_take, List.length_drop]; omega
      obtain ⟨w4, hcp2, hblk4, hg4, hs4⟩ := run_copy_into (P := Tryd.prog) (W := w3) (ty := 3) (dLen := R.length - (out.length + i)) (dCap := R.length - (out.length + i)) (sCap := d2) (off := out.length + i) (ad := ⟨g2, 0, none⟩) (m := nw.length) Tryd.underlying22 (by kernel_rfl) hblk3 (byteCells_len nw) (by omega)
        (fun j v hv => by
          have hadd : (⟨g2, 0, none⟩ : Addr).add j = ⟨g2, j, none⟩ := by unfold Addr.add; split <;> simp_all
          rw [hadd]; exact hnw3 j v hv) (by rw [List.length_append, byteCells_len, hl3, List.length_drop]; omega) (byteCells_one _)
      have hsp2 := splice_at (byteCells (out ++ (l.drop start).take i)) (tail.drop i) (byteCells nw) (by rw [byteCells_len, List.length_drop]; omega)
      rw [byteCells_len, byteCells_len, hl3, ← byteCells_app, List.drop_drop] at hsp2
      rw [hsp2] at hblk4
      have HBK4 := Lib.hid hblk4
      have hbl4 : Below w.heap.size w w4 := hbl3.trans (below_of_grown_ hg4 (Nat.le_refl _) hbl3.size)
      clear hcs1 hsrc hsp hsp2 hblk3 hblk4 hg3 hg4 hs3 hs4 hl3 hnw3
      go_wp2_with fail
      have b1 : (0 : Int) ≤ (out.length : Int) := by omega
      have b2 : (out.length : Int) ≤ (R.length : Int) := by omega
      have b3 : (start : Int) ≤ (start : Int) + (i : Int) := by omega
      have b4 : (start : Int) + (i : Int) ≤ (c : Int) := by omega
      have b5 : ¬ R.length = out.length := by omega
      have b6 : ((start : Int) + (i : Int)).toNat = start + i := by omega
      have b7 : (0 : Int) ≤ (start : Int) + (i : Int) := by omega
      go_region
      have b8 : ¬ R.length = out.length + i := by omega
      have b9 : ((out.length : Int) + (i : Int)).toNat = out.length + i := by omega
      go_wp2_with fail
      refine ⟨⟨k + 1, start + i + o.length, out ++ (l.drop start).take i ++ nw, tail.drop (i + nw.length), HNX.out, by go_num, ?_, ?_, HBK4.out, ?_, hbl4⟩, by simp [intOf]; omega⟩
      · exact congrArg (Value.int .i64) (by push_cast; omega)
      · exact congrArg (Value.int .i64) (by simp only [List.length_append, List.length_take, List.length_drop]; omega)
      · have := HLN.out
        simp only [List.length_append, List.length_take, List.length_drop]; omega
    · obtain rfl : k = n := by omega
      have hfin := hst.fin
      rw [HR.out] at hfin
      have hl2 := congrArg List.length hfin
      rw [List.length_append, List.length_drop] at hl2
      have HFIN := Lib.hid hfin
      have hbs := HB.out.below hbl
      have HBK := Lib.hid hblk
      have HLN := Lib.hid hlen
      clear hst hfin hblk hlen
      have c1 : (0 : Int) ≤ (start : Int) := by omega
      have c2 : (start : Int) ≤ (c : Int) := by omega
      have c3 : (0 : Int) ≤ (out.length : Int) := by omega
      have c4 : (out.length : Int) ≤ (R.length : Int) := by omega
      have c5 : ((out.length : Int) + ((l.length - start : Nat) : Int)) = (R.length : Int) := by omega
      by_cases hend : start < l.length
      · have b1 : ¬ c = start := by omega
        have b2 : ¬ R.length = out.length := by omega
        have hsub : Bytes wr (.slice (some (ad.add start)) (l.length - start) (c - start)) (l.drop start) := by
          have := hbs.sub (lo := start) (hi := l.length) (by omega) (Nat.le_refl _) (by omega)
          rwa [List.take_of_length_le (by rw [List.length_drop]; exact Nat.le_refl _)] at this
        have hsrc : ∀ j v, (byteCells (l.drop start))[j]? = some v → wr.cell? ((ad.add start).add j) = some v := by
          obtain ⟨A', c', e, _, _, _, hx⟩ := hsub.open_
          injection e with e1 e2 e3
          exact hx _ e1.symm
        obtain ⟨w3, hcp, hblk3, hg3, hs3⟩ := run_copy_into (P := Tryd.prog) (W := wr.drew) (ty := 3) (dLen := R.length - out.length) (dCap := R.length - out.length) (sCap := c - start) (off := out.length) (ad := ad.add start) (m := l.length - start) Tryd.underlying22 (by kernel_rfl) HBK.out (by rw [byteCells_len, List.length_drop]) (by omega) hsrc (by rw [List.length_append, byteCells_len, HLN.out]; omega) (byteCells_one _)
        have hsp := splice_at (byteCells out) tail (byteCells (l.drop start)) (by rw [byteCells_len, List.length_drop]; have := HLN.out; omega)
        have htn : tail.drop (l.length - start) = [] := List.drop_eq_nil_of_le (by have := HLN.out; omega)
        rw [byteCells_len, byteCells_len, ← byteCells_app, HFIN.out, List.length_drop, htn, List.append_nil] at hsp
        clear htn
        rw [hsp] at hblk3
        have hbl3 : Below w.heap.size w w3 := hbl.drew.trans (below_of_grown_ hg3 (Nat.le_refl _) hbl.size)
        have HBK3 := Lib.hid hblk3
        clear hsub hsrc hsp hblk3 hg3 hs3 hbs
        go_wp2_with fail
        go_region
        go_wp2_with fail
        go_ret
        refine ⟨_, rfl, ?_, hbl3⟩
        have := HBK3.out.row (size := 1) (n := R.length) (by rw [byteCells_len]; omega) (by unfold maxLen; omega)
        exact this
      · have hR0 : out.length = R.length := by omega
        have hs0 : start = l.length := by omega
        have hRe : out = R := by have := HFIN.out; rw [List.drop_eq_nil_of_le (by omega), List.append_nil] at this; exact this
        have htn : tail = [] := List.eq_nil_of_length_eq_zero (by have := HLN.out; omega)
        have HBK3 : Hid (Blk wr w.heap.size 5 (byteCells R)) := Lib.hid (by have := HBK.out; rw [htn, List.append_nil, hRe] at this; exact this)
        have hcp := fun (d a : Option Addr) (x y : Nat) => run_copy_none (P := Tryd.prog) wr.drew 22 22 3 5 d a 0 x 0 y Tryd.underlying22 (by kernel_rfl) rfl
        have hcp2 : goInt 0 = .int .i64 0 := rfl
        rw [hcp2] at hcp
        subst hs0
        rw [hR0]
        clear htn hRe HBK HLN HFIN hbs hend hR0 hl2 c3 c4 c5 hcp2
        have c4 : (R.length : Int) ≤ (R.length : Int) := by omega
        by_cases hcs : c = l.length
        · subst hcs
          go_wp2_with fail
          go_region
          go_wp2_with fail
          go_ret
          exact ⟨_, rfl, HBK3.out.row (size := 1) (n := R.length) (by rw [byteCells_len]; omega) (by unfold maxLen; omega), below_dN hbl 1⟩
        · go_wp2_with fail
          go_region
          go_wp2_with fail
          go_ret
          exact ⟨_, rfl, HBK3.out.row (size := 1) (n := R.length) (by rw [byteCells_len]; omega) (by unfold maxLen; omega), below_dN hbl 1⟩

theorem replaceAll_any (l o nw : List UInt8) (v : Value) (g1 d1 g2 d2 : Nat) (w : World) (he : Env w) (hb : Bytes w v l) (ho : BytesAt w g1 o) (hn : BytesAt w g2 nw) (h1 : 1 ≤ o.length) (hl : l.length ≤ 100000) (hol : o.length ≤ 2) (hnl : nw.length ≤ 2) (hn1 : 1 ≤ nw.length) :
    Calls Tryd.prog 63 #[v, .slice (some ⟨g1, 0, none⟩) o.length d1, .slice (some ⟨g2, 0, none⟩) nw.length d2] w fun e w' => ∃ v', e = .returned v' ∧ Bytes w' v' (Lib.replaceK o nw (Lib.count l o) l) ∧ Below w.heap.size w w' := by
  have H : Calls Tryd.prog 81 #[v, .slice (some ⟨g1, 0, none⟩) o.length d1, .slice (some ⟨g2, 0, none⟩) nw.length d2, .int .i64 (-1)] w fun e w' => ∃ v', e = .returned v' ∧ Bytes w' v' (Lib.replaceK o nw (Lib.count l o) l) ∧ Below w.heap.size w w' := by
    rcases Nat.eq_zero_or_pos (Lib.count l o) with h0 | h0
    · rw [h0]; exact replace_none l o nw v g1 d1 g2 d2 w he hb ho h1 hl hol hnl h0
    · exact replace_some l o nw v g1 d1 g2 d2 w he hb ho hn h1 hl hol hnl hn1 h0
  have HH := Lib.hid H
  clear H
  go_enter Tryd.func63, Tryd.ntmps63
  go_wp2_with fail
  refine HH.out.mono ?_
  rintro e w' ⟨v', rfl, hb', hbl⟩
  go_wp2_with fail
  go_ret
  exact ⟨_, rfl, hb', hbl⟩

end Go.Proofs.YtfifalpacagacaaDoor
