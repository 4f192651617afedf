/- Plain: what the reference's examination of a change says is what the program's says. -/
import Derived.Test.YtnblfaagchflaaaDoorMgw16
import Derived.Test.YtnblfaagchflaaaDoorMgw18
namespace Go.Proofs.YtnblfaagchflaaaDoor
open Go.RowKit
set_option linter.unusedVariables false
set_option linter.unusedSimpArgs false

/-- The path of the edit ahead of the i-th, or b. -/
def aheadQ (b : ByteArray) (es : List Edt) (i : Nat) : ByteArray := if i = 0 then b else ((es[i - 1]?).getD zeroEdt).path
theorem aheadQ_cons (b : ByteArray) (e : Edt) (es : List Edt) (i : Nat) : aheadQ b (e :: es) (i + 1) = aheadQ e.path es i := by
  unfold aheadQ
  cases i with
  | zero => simp
  | succ i => simp
theorem every_all {last : ByteArray → Option Rev} : ∀ (es : List Edt) (b : ByteArray), (∀ i (h : i < es.length), editE last (aheadQ b es i) es[i] = 0) → everyE last b es = 0
  | [], b, _ => rfl
  | e :: es, b, h => by
    have h0 : editE last b e = 0 := h 0 (by simp)
    unfold everyE
    rw [if_neg (by rw [h0]; simp)]
    exact every_all es e.path fun i hi => by
      have := h (i + 1) (by simp; omega)
      rw [aheadQ_cons] at this
      exact this
theorem every_at {last : ByteArray → Option Rev} : ∀ (es : List Edt) (b : ByteArray) (i : Nat) (hi : i < es.length), (∀ j (h : j < i), editE last (aheadQ b es j) (es[j]'(by omega)) = 0) → editE last (aheadQ b es i) es[i] ≠ 0 → everyE last b es = editE last (aheadQ b es i) es[i]
  | e :: es, b, 0, hi, _, h => by
    unfold everyE
    rw [if_pos (show editE last b e ≠ 0 from h)]
    rfl
  | e :: es, b, i + 1, hi, hz, h => by
    have h0 : editE last b e = 0 := hz 0 (by omega)
    unfold everyE
    rw [if_neg (by rw [h0]; simp)]
    rw [aheadQ_cons] at h ⊢
    exact every_at es e.path i (by simpa using hi) (fun j hj => by have := hz (j + 1) (by omega); rw [aheadQ_cons] at this; exact this) h

theorem recsF_mk {revs : List Rev} {c : Chg} {ed : ByteArray → Option Edt} : ∀ (rs : List Rcd) (b : Option Rcd), recsF revs c ed b rs = true ↔ (∀ r ∈ rs, recOk revs c ed r = true) ∧ (∀ x, b = some x → ∀ h : 0 < rs.length, cmpR x rs[0] < 0) ∧ ∀ i (h : i + 1 < rs.length), cmpR rs[i] rs[i + 1] < 0
  | [], b => by simp [recsF]
  | r :: rs, b => by
    unfold recsF
    rw [Bool.and_eq_true, Bool.and_eq_true, recsF_mk rs (some r)]
    constructor
    · rintro ⟨⟨h1, h2⟩, h3, h4, h5⟩
      refine ⟨fun x hx => ?_, fun x hx h => ?_, fun i hi => ?_⟩
      · rcases List.mem_cons.1 hx with rfl | hx
        · exact h2
        · exact h3 x hx
      · subst hx; simpa using h1
      · cases i with
        | zero => exact h4 r rfl (by simpa using hi)
        | succ i => exact h5 i (by simpa using hi)
    · rintro ⟨h1, h2, h3⟩
      refine ⟨⟨?_, h1 r (List.mem_cons_self ..)⟩, fun x hx => h1 x (List.mem_cons_of_mem _ hx), fun x hx h => ?_, fun i hi => ?_⟩
      · cases b with
        | none => rfl
        | some x => exact decide_eq_true (h2 x rfl (by simp))
      · injection hx with hx
        subst hx
        exact h3 0 (by simpa using h)
      · exact h3 (i + 1) (by simpa using hi)
theorem rec_val {d : Dep} {c : Chg} (h : DepOk d) (h2 : everyE (lastOf d.revs) emptyS c.edits = 0) {r : Rcd} (h1 : recOk d.revs c (editsOf c.edits) r = true) : r.val_ := by
  unfold recOk at h1
  rw [Bool.and_eq_true] at h1
  obtain ⟨⟨e, he, -, hn⟩, v, hv⟩ := isRec_parts h1.1
  obtain ⟨g1, g2, -⟩ := greatest_mem hv
  obtain ⟨k1, k2⟩ := editsOf_mem _ _ _ he
  refine ⟨?_, ?_⟩
  · rw [← g2]; exact h.rec_.path v g1
  · rw [← k2]; exact ((everyE_paths h2).2 e k1).1
/-- What the reference answers to the i-th record; v: what it says of the record ahead and this one. -/
def RecB (d : Dep) (c : Chg) (i : Nat) (b : Bool) : Prop := ∃ h : i < c.recs.length, ∃ v : Bool, (∀ h0 : 0 < i, (c.recs[i - 1]'(by omega)).val_ → c.recs[i].val_ → v = decide (cmpR (c.recs[i - 1]'(by omega)) c.recs[i] < 0)) ∧ b = ((decide (i = 0) || v) && refRec d.revs c c.recs[i])
theorem recs_yes {d : Dep} {c : Chg} (h : DepOk d) (hs : ∀ r ∈ d.revs, r.chg < c.num) (h2 : everyE (lastOf d.revs) emptyS c.edits = 0) (hb : ∀ i, i < c.recs.length → RecB d c i true) : recsE d.revs c = 0 := by
  have hok : ∀ i (hi : i < c.recs.length), recOk d.revs c (editsOf c.edits) c.recs[i] = true := fun i hi => by
    obtain ⟨_, v, hv, he⟩ := hb i hi
    have := (Bool.and_eq_true _ _ ▸ he.symm)
    exact recOk_of_ref h hs h2 this.2
  have hf : recsF d.revs c (editsOf c.edits) none c.recs = true := by
    refine (recsF_mk _ _).2 ⟨fun r hr => ?_, fun x hx => (by cases hx), fun i hi => ?_⟩
    · obtain ⟨i, hi, rfl⟩ := List.mem_iff_getElem.1 hr
      exact hok i hi
    · obtain ⟨_, v, hv, he⟩ := hb (i + 1) hi
      have h3 := (Bool.and_eq_true _ _ ▸ he.symm)
      have h4 : v = true := by simpa using h3.1
      have h5 := hv (by omega) (rec_val h h2 (hok _ _)) (rec_val h h2 (hok _ _))
      rw [h4] at h5
      simpa using h5.symm
  unfold recsE
  rw [hf]; rfl
theorem recs_no {d : Dep} {c : Chg} (h : DepOk d) (hs : ∀ r ∈ d.revs, r.chg < c.num) (h2 : everyE (lastOf d.revs) emptyS c.edits = 0) {i : Nat} (hb : RecB d c i false) : recsE d.revs c = 118 := by
  unfold recsE
  cases hf : recsF d.revs c (editsOf c.edits) none c.recs with
  | false => rfl
  | true =>
    exfalso
    obtain ⟨f1, -, f3⟩ := (recsF_mk _ _).1 hf
    obtain ⟨hi, v, hv, he⟩ := hb
    rw [ref_of_recOk h hs h2 f1 (List.getElem_mem hi), Bool.and_true] at he
    have h3 := he.symm
    rw [Bool.or_eq_false_iff] at h3
    have h0 : 0 < i := by have := h3.1; simp at this; omega
    have h5 := hv h0 (rec_val h h2 (f1 _ (List.getElem_mem _))) (rec_val h h2 (f1 _ (List.getElem_mem _)))
    rw [h3.2] at h5
    obtain ⟨j, rfl⟩ : ∃ j, i = j + 1 := ⟨i - 1, by omega⟩
    have h6 := f3 j hi
    simp only [Nat.add_sub_cancel] at h5
    have := of_decide_eq_false h5.symm
    omega
theorem moves_yes {last : ByteArray → Option Rev} {es : List Edt} (h2 : everyE last emptyS es = 0) (hb : ∀ x ∈ es, movedB es x = true) : movesE es = 0 := by
  unfold movesE
  rw [if_pos]
  rw [List.all_eq_true]
  intro x hx
  rw [← moved_iff (paths_nodup (everyE_paths h2).1) hx]
  exact hb x hx
theorem moves_no {last : ByteArray → Option Rev} {es : List Edt} (h2 : everyE last emptyS es = 0) {x : Edt} (hx : x ∈ es) (hb : movedB es x = false) : movesE es = 117 := by
  unfold movesE
  rw [if_neg]
  intro hh
  rw [List.all_eq_true] at hh
  have := hh x hx
  rw [← moved_iff (paths_nodup (everyE_paths h2).1) hx, hb] at this
  cases this
/-- Both lists of records of the new depot are one. -/
theorem sorted_one {d : Dep} {c : Chg} {l m : List Rcd} (h : DepOk d) (h0 : appE d c = 0) (h1 : l.Perm (d.recs ++ c.recs)) (h2 : l.Pairwise (fun a b => 0 ≤ cmpR b a)) (h3 : m.Perm (d.recs ++ c.recs)) (h4 : m.Pairwise (fun a b => 0 ≤ cmpR b a)) : l = m :=
  strict_uniq (app_recOk h.log h.rec_ h0 h1 h2).strict (app_recOk h.log h.rec_ h0 h3 h4).strict (h1.trans h3.symm)
theorem appE_size {d : Dep} {c : Chg} (h : sizeE d.revs c ≠ 0) : appE d c = sizeE d.revs c := by unfold appE firstE; rw [if_pos h]
theorem appE_every {d : Dep} {c : Chg} (h1 : sizeE d.revs c = 0) (h : everyE (lastOf d.revs) emptyS c.edits ≠ 0) : appE d c = everyE (lastOf d.revs) emptyS c.edits := by
  unfold appE firstE; rw [if_neg (by rw [h1]; simp)]; unfold firstE; rw [if_pos h]
theorem appE_moves {d : Dep} {c : Chg} (h1 : sizeE d.revs c = 0) (h2 : everyE (lastOf d.revs) emptyS c.edits = 0) (h : movesE c.edits ≠ 0) : appE d c = movesE c.edits := by
  simp [appE, firstE, h1, h2, h]
theorem appE_recs {d : Dep} {c : Chg} (h1 : sizeE d.revs c = 0) (h2 : everyE (lastOf d.revs) emptyS c.edits = 0) (h3 : movesE c.edits = 0) (h : recsE d.revs c ≠ 0) : appE d c = recsE d.revs c := by
  simp [appE, firstE, h1, h2, h3, h]
theorem appE_room {d : Dep} {c : Chg} (h1 : sizeE d.revs c = 0) (h2 : everyE (lastOf d.revs) emptyS c.edits = 0) (h3 : movesE c.edits = 0) (h4 : recsE d.revs c = 0) : appE d c = roomE d c := by
  simp only [appE, firstE, h1, h2, h3, h4]
  by_cases h : roomE d c = 0
  · simp [h]
  · simp [h]
end Go.Proofs.YtnblfaagchflaaaDoor
/- The reference's Same: the walk. -/
namespace Go.Proofs.YtnblfaagchflaaaDoor
open Go.RowKit
set_option linter.unusedVariables false
set_option linter.unusedSimpArgs false

def sameD (a b : Dep) : Bool := decide (a.revs = b.revs) && decide (a.recs = b.recs)
theorem same_no1 {a b : Dep} (h : a.revs ≠ b.revs) : sameD a b = false := by unfold sameD; rw [decide_eq_false h]; rfl
theorem same_no2 {a b : Dep} (h : a.recs ≠ b.recs) : sameD a b = false := by unfold sameD; rw [decide_eq_false h]; simp
theorem same_yes {a b : Dep} (h1 : a.revs = b.revs) (h2 : a.recs = b.recs) : sameD a b = true := by unfold sameD; rw [decide_eq_true h1, decide_eq_true h2]; rfl
set_option maxRecDepth 100000 in
set_option maxHeartbeats 8000000 in
theorem refSame_any (a b : Dep) (av ar bv br : Value) (w : World) (h1 : Revs w av a.revs) (h2 : Rcds w ar a.recs) (h3 : Revs w bv b.revs) (h4 : Rcds w br b.recs) :
    Calls Tryd.prog 14 #[.agg #[av, ar], .agg #[bv, br]] w fun e w' => e = .returned (.bool (sameD a b)) ∧ Below w.heap.size w w' := by
  obtain ⟨A1, c1, rfl, hc1, hm1, -⟩ := id h1
  obtain ⟨A2, c2, rfl, hc2, hm2, -⟩ := id h2
  obtain ⟨A3, c3, rfl, hc3, hm3, -⟩ := id h3
  obtain ⟨A4, c4, rfl, hc4, hm4, -⟩ := id h4
  unfold maxLen at hm1 hm2 hm3 hm4
  have H1 := Lib.hid h1
  have H2 := Lib.hid h2
  have H3 := Lib.hid h3
  have H4 := Lib.hid h4
  clear h1 h2 h3 h4
  have hb0 : Below w.heap.size w ((w.alloc (.cells #[.slice A1 a.revs.length c1, .slice A2 a.recs.length c2] 25)).alloc (.cells #[.slice A3 b.revs.length c3, .slice A4 b.recs.length c4] 25)) := ((Below.refl _ _).alloc (Nat.le_refl _) _).alloc (by simp) _
  have hD1 : Blk ((w.alloc (.cells #[.slice A1 a.revs.length c1, .slice A2 a.recs.length c2] 25)).alloc (.cells #[.slice A3 b.revs.length c3, .slice A4 b.recs.length c4] 25)) w.heap.size 25 [.slice A1 a.revs.length c1, .slice A2 a.recs.length c2] := (blk_new w _ _).alloc _
  have hD2 : Blk ((w.alloc (.cells #[.slice A1 a.revs.length c1, .slice A2 a.recs.length c2] 25)).alloc (.cells #[.slice A3 b.revs.length c3, .slice A4 b.recs.length c4] 25)) (w.heap.size + 1) 25 [.slice A3 b.revs.length c3, .slice A4 b.recs.length c4] := by
    have h := blk_new (w.alloc (.cells #[.slice A1 a.revs.length c1, .slice A2 a.recs.length c2] 25)) [.slice A3 b.revs.length c3, .slice A4 b.recs.length c4] 25
    simp only [World.size_alloc] at h
    exact h
  go_enter Tryd.func14, Tryd.ntmps14
  go_upto_region 1 with fail
  generalize (w.alloc (.cells #[.slice A1 a.revs.length c1, .slice A2 a.recs.length c2] 25)).alloc (.cells #[.slice A3 b.revs.length c3, .slice A4 b.recs.length c4] 25) = W1 at hb0 hD1 hD2 ⊢
  have Hb0 := Lib.hid hb0
  have HD1 := Lib.hid hD1
  have HD2 := Lib.hid hD2
  obtain ⟨d0, d1, -, -⟩ := box2 hD1
  obtain ⟨e0, e1, -, -⟩ := box2 hD2
  clear hb0 hD1 hD2
  by_cases hl1 : a.revs.length = b.revs.length
  case neg =>
    have q : ((a.revs.length : Int) != (b.revs.length : Int)) = true := by rw [bne_iff_ne]; omega
    have HF := Lib.hid (same_no1 (a := a) (b := b) (fun e => hl1 (by rw [e])))
    clear hl1
    go_wp2_with fail
    go_ret
    exact ⟨ret_bool HF.out.symm, Hb0.out⟩
  have q1 : ((a.revs.length : Int) != (b.revs.length : Int)) = false := by rw [bne_eq_false_iff_eq]; omega
  have HL1 := Lib.hid hl1
  clear hl1
  by_cases hl2 : a.recs.length = b.recs.length
  case neg =>
    have q : ((a.recs.length : Int) != (b.recs.length : Int)) = true := by rw [bne_iff_ne]; omega
    have HF := Lib.hid (same_no2 (a := a) (b := b) (fun e => hl2 (by rw [e])))
    clear hl2
    go_wp2_with fail
    go_ret
    exact ⟨ret_bool HF.out.symm, Hb0.out⟩
  have q2 : ((a.recs.length : Int) != (b.recs.length : Int)) = false := by rw [bne_eq_false_iff_eq]; omega
  have HL2 := Lib.hid hl2
  clear hl2
  go_wp2_with fail
  clear q1 q2 d0 d1 e0 e1
  go_loopw [28] (fun s wr => ∃ k : Nat, s = .int .i64 k ∧ k ≤ a.revs.length ∧ Hid (a.revs.take k = b.revs.take k ∧ Below W1.heap.size W1 wr)) (fun s _ => a.revs.length - (intOf s).toNat)
  case atStart => exact ⟨0, rfl, Nat.zero_le _, by simp, Below.refl _ _⟩
  case round =>
    obtain ⟨k, rfl, hk, HI⟩ := hrel
    by_cases hlt : k < a.revs.length
    · have hlt2 : k < b.revs.length := by have := HL1.out; omega
      have hz1 : (k : Int) < (a.revs.length : Int) := by omega
      have hz2 : (k : Int) < (b.revs.length : Int) := by omega
      have hbw := below_next Hb0.out HI.out.2
      obtain ⟨a1, rfl, hb1, hx⟩ := Revs.at_ (H1.out.below hbw) hlt
      have HST := Lib.hid (fun h => take_eq_step hlt hlt2 HI.out.1 h)
      have HNE : Hid (a.revs[k] ≠ b.revs[k] → a.revs ≠ b.revs) := Lib.hid fun h e => h (by simp only [e])
      have HY := Lib.hid (fun X (hX : Below w.heap.size w X) => Revs.at_ (H3.out.below hX) hlt2)
      generalize a.revs[k] = x at hx HST HNE
      generalize b.revs[k] = y at HY HST HNE
      obtain ⟨x0, x1, x2, x3, x4, x5, x6, x7, x8, x9, x10, x11⟩ := hx
      have hX := blk_new wr [.string x.path, .int .i64 x.num, .int .i64 x.chg, .int .i64 x.act, .int .i64 x.ty.base, .bool x.ty.k, .bool x.ty.l, .bool x.ty.x, .int .u64 x.sum, .int .i64 x.size, .string x.frm, .int .i64 x.fnum] 33
      have hA1 := HI.out.2.alloc HI.out.2.size (.cells #[.string x.path, .int .i64 x.num, .int .i64 x.chg, .int .i64 x.act, .int .i64 x.ty.base, .bool x.ty.k, .bool x.ty.l, .bool x.ty.x, .int .u64 x.sum, .int .i64 x.size, .string x.frm, .int .i64 x.fnum] 33)
      clear hbw
      go_upto_region 6 with fail
      clear x0 x1 x2 x3 x4 x5 x6 x7 x8 x9 x10 x11
      generalize wr.alloc (.cells #[.string x.path, .int .i64 x.num, .int .i64 x.chg, .int .i64 x.act, .int .i64 x.ty.base, .bool x.ty.k, .bool x.ty.l, .bool x.ty.x, .int .u64 x.sum, .int .i64 x.size, .string x.frm, .int .i64 x.fnum] 33) = V1 at hX hA1 ⊢
      generalize wr.heap.size = g6 at hX ⊢
      obtain ⟨x0, x1, x2, x3, x4, x5, x6, x7, x8, x9, x10, x11⟩ := box12 hX
      obtain ⟨a3, rfl, hb3, hy⟩ := HY.out V1 (below_next Hb0.out hA1)
      obtain ⟨y0, y1, y2, y3, y4, y5, y6, y7, y8, y9, y10, y11⟩ := hy
      obtain ⟨e0, e1, -, -⟩ := box2 (HD2.out.below hA1 HD2.out.lt)
      have HA1 := Lib.hid hA1
      have hne := run_neq_rev x y
      clear hX hA1 HY
      by_cases e : x = y
      · have hd : (!decide (x = y)) = false := by simp [e]
        rw [hd] at hne
        have HE := Lib.hid (HST.out e)
        clear hd e
        go_quiet (fail)
        clear x0 x1 x2 x3 x4 x5 x6 x7 x8 x9 x10 x11 y0 y1 y2 y3 y4 y5 y6 y7 y8 y9 y10 y11 hne e0 e1
        go_wp2_with fail
        go_roundw
        case rel => exact ⟨k + 1, by go_num, by omega, HE.out, below_dN HA1.out _⟩
        case measure => simp [intOf]; omega
      · have hd : (!decide (x = y)) = true := by simp [e]
        rw [hd] at hne
        have HF := Lib.hid (same_no1 (a := a) (b := b) (HNE.out e))
        clear hd e
        go_quiet (fail)
        clear x0 x1 x2 x3 x4 x5 x6 x7 x8 x9 x10 x11 y0 y1 y2 y3 y4 y5 y6 y7 y8 y9 y10 y11 hne e0 e1
        go_wp2_with fail
        go_ret
        exact ⟨ret_bool HF.out.symm, below_next Hb0.out (below_dN HA1.out _)⟩
    · have HE1 : Hid (a.revs = b.revs) := Lib.hid (take_eq_all HL1.out (by omega) HI.out.1)
      have HBW := Lib.hid HI.out.2
      obtain ⟨d0, d1, -, -⟩ := box2 (HD1.out.below HI.out.2 HD1.out.lt)
      clear HI
      go_wp2_with fail
      clear d0 d1
      generalize wr = W2 at HBW ⊢
      go_loopw [44] (fun s wr => ∃ k : Nat, s = .int .i64 k ∧ k ≤ a.recs.length ∧ Hid (a.recs.take k = b.recs.take k ∧ Below W2.heap.size W2 wr)) (fun s _ => a.recs.length - (intOf s).toNat)
      case atStart => exact ⟨0, rfl, Nat.zero_le _, by simp, Below.refl _ _⟩
      case round =>
        obtain ⟨j, rfl, hj, HI⟩ := hrel
        by_cases hjl : j < a.recs.length
        · have hlt2 : j < b.recs.length := by have := HL2.out; omega
          have hz1 : (j : Int) < (a.recs.length : Int) := by omega
          have hz2 : (j : Int) < (b.recs.length : Int) := by omega
          have hbw := below_next Hb0.out (below_next HBW.out HI.out.2)
          obtain ⟨a1, rfl, hb1, hx⟩ := Rcds.at_ (H2.out.below hbw) hjl
          have HST := Lib.hid (fun h => take_eq_step hjl hlt2 HI.out.1 h)
          have HNE : Hid (a.recs[j] ≠ b.recs[j] → a.recs ≠ b.recs) := Lib.hid fun h e => h (by simp only [e])
          have HY := Lib.hid (fun X (hX : Below w.heap.size w X) => Rcds.at_ (H4.out.below hX) hlt2)
          generalize a.recs[j] = x at hx HST HNE
          generalize b.recs[j] = y at HY HST HNE
          obtain ⟨x0, x1, x2, x3, x4, x5⟩ := hx
          have hX := blk_new wr [.string x.frm, .int .i64 x.first, .int .i64 x.last, .string x.to, .int .i64 x.num, .int .i64 x.how] 50
          have hA1 := HI.out.2.alloc HI.out.2.size (.cells #[.string x.frm, .int .i64 x.first, .int .i64 x.last, .string x.to, .int .i64 x.num, .int .i64 x.how] 50)
          clear hbw
          go_upto_region 12 with fail
          clear x0 x1 x2 x3 x4 x5
          generalize wr.alloc (.cells #[.string x.frm, .int .i64 x.first, .int .i64 x.last, .string x.to, .int .i64 x.num, .int .i64 x.how] 50) = V1 at hX hA1 ⊢
          generalize wr.heap.size = g6 at hX ⊢
          obtain ⟨x0, x1, x2, x3, x4, x5⟩ := box6 hX
          obtain ⟨a3, rfl, hb3, hy⟩ := HY.out V1 (below_next Hb0.out (below_next HBW.out hA1))
          obtain ⟨y0, y1, y2, y3, y4, y5⟩ := hy
          obtain ⟨e0, e1, -, -⟩ := box2 (HD2.out.below (below_next HBW.out hA1) HD2.out.lt)
          have HA1 := Lib.hid hA1
          have hne := run_neq_rcd x y
          clear hX hA1 HY
          by_cases e : x = y
          · have hd : (!decide (x = y)) = false := by simp [e]
            rw [hd] at hne
            have HE := Lib.hid (HST.out e)
            clear hd e
            go_quiet (fail)
            clear x0 x1 x2 x3 x4 x5 y0 y1 y2 y3 y4 y5 hne e0 e1
            go_wp2_with fail
            go_roundw
            case rel => exact ⟨j + 1, by go_num, by omega, HE.out, below_dN HA1.out _⟩
            case measure => simp [intOf]; omega
          · have hd : (!decide (x = y)) = true := by simp [e]
            rw [hd] at hne
            have HF := Lib.hid (same_no2 (a := a) (b := b) (HNE.out e))
            clear hd e
            go_quiet (fail)
            clear x0 x1 x2 x3 x4 x5 y0 y1 y2 y3 y4 y5 hne e0 e1
            go_wp2_with fail
            go_ret
            exact ⟨ret_bool HF.out.symm, below_next Hb0.out (below_next HBW.out (below_dN HA1.out _))⟩
        · have HF : Hid (sameD a b = true) := Lib.hid (same_yes HE1.out (take_eq_all HL2.out (by omega) HI.out.1))
          go_wp2_with fail
          go_ret
          exact ⟨ret_bool HF.out.symm, below_next Hb0.out (below_next HBW.out HI.out.2)⟩
end Go.Proofs.YtnblfaagchflaaaDoor
