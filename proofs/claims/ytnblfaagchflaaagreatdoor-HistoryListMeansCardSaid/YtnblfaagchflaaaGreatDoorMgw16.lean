/- Plain: what the reference's examination of a change says is what the program's says. -/
import Derived.Test.YtnblfaagchflaaaGreatDoorMgw15
import Derived.Test.YtnblfaagchflaaaGreatDoorMzVal1
import Derived.Test.YtnblfaagchflaaaGreatDoorMgw13
namespace Go.Proofs.YtnblfaagchflaaaGreatDoor
open Go.RowKit
set_option linter.unusedVariables false
set_option linter.unusedSimpArgs false

/-- The path of the edit ahead of the i-th, or b. -/
def aheadQ (b : ByteArray) (es : List Edt) (i : Nat) : ByteArray := if i = 0 then b else ((es[i - 1]?).getD zeroEdt).path
theorem aheadQ_cons (b : ByteArray) (e : Edt) (es : List Edt) (i : Nat) : aheadQ b (e :: es) (i + 1) = aheadQ e.path es i := by
  unfold aheadQ
  cases i with
  | zero => simp
  | succ i => simp
theorem every_all {last : ByteArray → Option Rev} : ∀ (es : List Edt) (b : ByteArray), (∀ i (h : i < es.length), editE last (aheadQ b es i) es[i] = 0) → everyE last b es = 0
  | [], b, _ => rfl
  | e :: es, b, h => by
    have h0 : editE last b e = 0 := h 0 (by simp)
    unfold everyE
    rw [if_neg (by rw [h0]; simp)]
    exact every_all es e.path fun i hi => by
      have := h (i + 1) (by simp; omega)
      rw [aheadQ_cons] at this
      exact this
theorem every_at {last : ByteArray → Option Rev} : ∀ (es : List Edt) (b : ByteArray) (i : Nat) (hi : i < es.length), (∀ j (h : j < i), editE last (aheadQ b es j) (es[j]'(by omega)) = 0) → editE last (aheadQ b es i) es[i] ≠ 0 → everyE last b es = editE last (aheadQ b es i) es[i]
  | e :: es, b, 0, hi, _, h => by
    unfold everyE
    rw [if_pos (show editE last b e ≠ 0 from h)]
    rfl
  | e :: es, b, i + 1, hi, hz, h => by
    have h0 : editE last b e = 0 := hz 0 (by omega)
    unfold everyE
    rw [if_neg (by rw [h0]; simp)]
    rw [aheadQ_cons] at h ⊢
    exact every_at es e.path i (by simpa using hi) (fun j hj => by have := hz (j + 1) (by omega); rw [aheadQ_cons] at this; exact this) h

theorem recsF_mk {revs : List Rev} {c : Chg} {ed : ByteArray → Option Edt} : ∀ (rs : List Rcd) (b : Option Rcd), recsF revs c ed b rs = true ↔ (∀ r ∈ rs, recOk revs c ed r = true) ∧ (∀ x, b = some x → ∀ h : 0 < rs.length, cmpR x rs[0] < 0) ∧ ∀ i (h : i + 1 < rs.length), cmpR rs[i] rs[i + 1] < 0
  | [], b => by simp [recsF]
  | r :: rs, b => by
    unfold recsF
    rw [Bool.and_eq_true, Bool.and_eq_true, recsF_mk rs (some r)]
    constructor
    · rintro ⟨⟨h1, h2⟩, h3, h4, h5⟩
      refine ⟨fun x hx => ?_, fun x hx h => ?_, fun i hi => ?_⟩
      · rcases List.mem_cons.1 hx with rfl | hx
        · exact h2
        · exact h3 x hx
      · subst hx; simpa using h1
      · cases i with
        | zero => exact h4 r rfl (by simpa using hi)
        | succ i => exact h5 i (by simpa using hi)
    · rintro ⟨h1, h2, h3⟩
      refine ⟨⟨?_, h1 r (List.mem_cons_self ..)⟩, fun x hx => h1 x (List.mem_cons_of_mem _ hx), fun x hx h => ?_, fun i hi => ?_⟩
      · cases b with
        | none => rfl
        | some x => exact decide_eq_true (h2 x rfl (by simp))
      · injection hx with hx
        subst hx
        exact h3 0 (by simpa using h)
      · exact h3 (i + 1) (by simpa using hi)
theorem rec_val {d : Dep} {c : Chg} (h : DepOk d) (h2 : everyE (lastOf d.revs) emptyS c.edits = 0) {r : Rcd} (h1 : recOk d.revs c (editsOf c.edits) r = true) : r.val_ := by
  unfold recOk at h1
  rw [Bool.and_eq_true] at h1
  obtain ⟨⟨e, he, -, hn⟩, v, hv⟩ := isRec_parts h1.1
  obtain ⟨g1, g2, -⟩ := greatest_mem hv
  obtain ⟨k1, k2⟩ := editsOf_mem _ _ _ he
  refine ⟨?_, ?_⟩
  · rw [← g2]; exact h.rec_.path v g1
  · rw [← k2]; exact ((everyE_paths h2).2 e k1).1
/-- What the reference answers to the i-th record; v: what it says of the record ahead and this one. -/
def RecB (d : Dep) (c : Chg) (i : Nat) (b : Bool) : Prop := ∃ h : i < c.recs.length, ∃ v : Bool, (∀ h0 : 0 < i, (c.recs[i - 1]'(by omega)).val_ → c.recs[i].val_ → v = decide (cmpR (c.recs[i - 1]'(by omega)) c.recs[i] < 0)) ∧ b = ((decide (i = 0) || v) && refRec d.revs c c.recs[i])
theorem recs_yes {d : Dep} {c : Chg} (h : DepOk d) (hs : ∀ r ∈ d.revs, r.chg < c.num) (h2 : everyE (lastOf d.revs) emptyS c.edits = 0) (hb : ∀ i, i < c.recs.length → RecB d c i true) : recsE d.revs c = 0 := by
  have hok : ∀ i (hi : i < c.recs.length), recOk d.revs c (editsOf c.edits) c.recs[i] = true := fun i hi => by
    obtain ⟨_, v, hv, he⟩ := hb i hi
    have := (Bool.and_eq_true _ _ ▸ he.symm)
    exact recOk_of_ref h hs h2 this.2
  have hf : recsF d.revs c (editsOf c.edits) none c.recs = true := by
    refine (recsF_mk _ _).2 ⟨fun r hr => ?_, fun x hx => (by cases hx), fun i hi => ?_⟩
    · obtain ⟨i, hi, rfl⟩ := List.mem_iff_getElem.1 hr
      exact hok i hi
    · obtain ⟨_, v, hv, he⟩ := hb (i + 1) hi
      have h3 := (Bool.and_eq_true _ _ ▸ he.symm)
      have h4 : v = true := by simpa using h3.1
      have h5 := hv (by omega) (rec_val h h2 (hok _ _)) (rec_val h h2 (hok _ _))
      rw [h4] at h5
      simpa using h5.symm
  unfold recsE
  rw [hf]; rfl
theorem recs_no {d : Dep} {c : Chg} (h : DepOk d) (hs : ∀ r ∈ d.revs, r.chg < c.num) (h2 : everyE (lastOf d.revs) emptyS c.edits = 0) {i : Nat} (hb : RecB d c i false) : recsE d.revs c = 118 := by
  unfold recsE
  cases hf : recsF d.revs c (editsOf c.edits) none c.recs with
  | false => rfl
  | true =>
    exfalso
    obtain ⟨f1, -, f3⟩ := (recsF_mk _ _).1 hf
    obtain ⟨hi, v, hv, he⟩ := hb
    rw [ref_of_recOk h hs h2 f1 (List.getElem_mem hi), Bool.and_true] at he
    have h3 := he.symm
    rw [Bool.or_eq_false_iff] at h3
    have h0 : 0 < i := by have := h3.1; simp at this; omega
    have h5 := hv h0 (rec_val h h2 (f1 _ (List.getElem_mem _))) (rec_val h h2 (f1 _ (List.getElem_mem _)))
    rw [h3.2] at h5
    obtain ⟨j, rfl⟩ : ∃ j, i = j + 1 := ⟨i - 1, by omega⟩
    have h6 := f3 j hi
    simp only [Nat.add_sub_cancel] at h5
    have := of_decide_eq_false h5.symm
    omega
theorem moves_yes {last : ByteArray → Option Rev} {es : List Edt} (h2 : everyE last emptyS es = 0) (hb : ∀ x ∈ es, movedB es x = true) : movesE es = 0 := by
  unfold movesE
  rw [if_pos]
  rw [List.all_eq_true]
  intro x hx
  rw [← moved_iff (paths_nodup (everyE_paths h2).1) hx]
  exact hb x hx
theorem moves_no {last : ByteArray → Option Rev} {es : List Edt} (h2 : everyE last emptyS es = 0) {x : Edt} (hx : x ∈ es) (hb : movedB es x = false) : movesE es = 117 := by
  unfold movesE
  rw [if_neg]
  intro hh
  rw [List.all_eq_true] at hh
  have := hh x hx
  rw [← moved_iff (paths_nodup (everyE_paths h2).1) hx, hb] at this
  cases this
/-- Both lists of records of the new depot are one. -/
theorem sorted_one {d : Dep} {c : Chg} {l m : List Rcd} (h : DepOk d) (h0 : appE d c = 0) (h1 : l.Perm (d.recs ++ c.recs)) (h2 : l.Pairwise (fun a b => 0 ≤ cmpR b a)) (h3 : m.Perm (d.recs ++ c.recs)) (h4 : m.Pairwise (fun a b => 0 ≤ cmpR b a)) : l = m :=
  strict_uniq (app_recOk h.log h.rec_ h0 h1 h2).strict (app_recOk h.log h.rec_ h0 h3 h4).strict (h1.trans h3.symm)
theorem appE_size {d : Dep} {c : Chg} (h : sizeE d.revs c ≠ 0) : appE d c = sizeE d.revs c := by unfold appE firstE; rw [if_pos h]
theorem appE_every {d : Dep} {c : Chg} (h1 : sizeE d.revs c = 0) (h : everyE (lastOf d.revs) emptyS c.edits ≠ 0) : appE d c = everyE (lastOf d.revs) emptyS c.edits := by
  unfold appE firstE; rw [if_neg (by rw [h1]; simp)]; unfold firstE; rw [if_pos h]
theorem appE_moves {d : Dep} {c : Chg} (h1 : sizeE d.revs c = 0) (h2 : everyE (lastOf d.revs) emptyS c.edits = 0) (h : movesE c.edits ≠ 0) : appE d c = movesE c.edits := by
  simp [appE, firstE, h1, h2, h]
theorem appE_recs {d : Dep} {c : Chg} (h1 : sizeE d.revs c = 0) (h2 : everyE (lastOf d.revs) emptyS c.edits = 0) (h3 : movesE c.edits = 0) (h : recsE d.revs c ≠ 0) : appE d c = recsE d.revs c := by
  simp [appE, firstE, h1, h2, h3, h]
theorem appE_room {d : Dep} {c : Chg} (h1 : sizeE d.revs c = 0) (h2 : everyE (lastOf d.revs) emptyS c.edits = 0) (h3 : movesE c.edits = 0) (h4 : recsE d.revs c = 0) : appE d c = roomE d c := by
  simp only [appE, firstE, h1, h2, h3, h4]
  by_cases h : roomE d c = 0
  · simp [h]
  · simp [h]
end Go.Proofs.YtnblfaagchflaaaGreatDoor
/- The statements' own awake. -/
namespace Go.Proofs.YtnblfaagchflaaaGreatDoor
open Go.RowKit
set_option linter.unusedVariables false
set_option linter.unusedSimpArgs false

def wPath : ByteArray := ⟨#[47, 47, 97, 47, 120]⟩
def wRev : Rev := ⟨wPath, 1, 5, 1, ⟨1, false, false, false⟩, 0, 0, ⟨#[]⟩, 0⟩
def wEdt : Edt := ⟨wPath, 1, ⟨1, false, false, false⟩, 0, 0, 0, ⟨#[]⟩, 0, 0⟩
def wChg : Chg := ⟨5, ⟨#[]⟩, ⟨#[]⟩, [wEdt], []⟩
theorem w_valid : validS wPath = true := by decide
theorem w_edt : edtOf wRev = wEdt := rfl
theorem w_every : everyE (lastOf []) emptyS [wEdt] = 0 := by
  have h1 : editE (lastOf []) emptyS wEdt = 0 := by
    unfold editE
    rw [if_neg (by
      rintro (h | h)
      · exact absurd w_valid (by show ¬ validS wEdt.path = true; rw [h]; decide)
      · exact absurd h (by decide)), if_neg (fun h => h.1 rfl)]
    decide
  rw [everyE, h1]; rfl
theorem w_app : appE ⟨[], []⟩ wChg = 0 := by
  have h1 : sizeE [] wChg = 0 := by decide
  have h3 : movesE wChg.edits = 0 := by decide
  have h4 : recsE [] wChg = 0 := by unfold recsE wChg; rfl
  have h5 : roomE ⟨[], []⟩ wChg = 0 := by decide
  have h2 : everyE (lastOf []) emptyS wChg.edits = 0 := w_every
  unfold appE
  rw [h1, firstE_skip, h2, firstE_skip, h3, firstE_skip, h4, firstE_skip, h5, firstE_skip]; rfl
theorem w_new : newRevs ⟨[], []⟩ wChg = [wRev] := rfl
theorem w_chgW : ChgW wChg := ⟨by decide, by decide, fun x hx => by
  have : x = wEdt := by simpa [wChg] using hx
  subst this; decide, fun r hr => by simp [wChg] at hr⟩

set_option maxRecDepth 100000 in
set_option maxHeartbeats 4000000 in
theorem awake_any (w : World) : Calls Tryz.prog 6 #[] w fun e w' => e = .returned (.bool true) ∧ Below w.heap.size w w' := by
  have HG : Hid (greatest [wRev] wPath (fun _ => true) = some wRev) := Lib.hid (by simp [greatest, wRev])
  go_enter Tryz.func6, Tryz.ntmps6
  go_wp2_with fail
  have hB1 : Blk ((w.alloc (.cells #[.int .i64 1, .bool false, .bool false, .bool false] 35)).alloc (.cells #[.string ⟨#[47, 47, 97, 47, 120]⟩, .int .i64 1, .int .i64 1, .bool false, .bool false, .bool false, .int .u64 0, .int .i64 0, .int .i64 0, .string ⟨#[]⟩, .int .i64 0, .int .i64 0] 55)) (w.heap.size + 1) 55 ([wEdt].flatMap Edt.cells) := blk_at (cs := [wEdt].flatMap Edt.cells) (by simp)
  have hb1 : Below w.heap.size w ((w.alloc (.cells #[.int .i64 1, .bool false, .bool false, .bool false] 35)).alloc (.cells #[.string ⟨#[47, 47, 97, 47, 120]⟩, .int .i64 1, .int .i64 1, .bool false, .bool false, .bool false, .int .u64 0, .int .i64 0, .int .i64 0, .string ⟨#[]⟩, .int .i64 0, .int .i64 0] 55)) := below_alloc' (below_alloc' (Below.refl _ _) _) _
  generalize (w.alloc (.cells #[.int .i64 1, .bool false, .bool false, .bool false] 35)).alloc (.cells #[.string ⟨#[47, 47, 97, 47, 120]⟩, .int .i64 1, .int .i64 1, .bool false, .bool false, .bool false, .int .u64 0, .int .i64 0, .int .i64 0, .string ⟨#[]⟩, .int .i64 0, .int .i64 0] 55) = W1 at hB1 hb1 ⊢
  have HAA := Lib.hid (append_any ⟨[], []⟩ wChg (.slice none 0 0) (.slice none 0 0) (.slice (some ⟨w.heap.size + 1, 0, none⟩) 1 1) (.slice none 0 0) W1 (Revs.nil_ _) (Rcds.nil_ _) (hB1.row (size := 12) (n := 1) rfl (by unfold maxLen; omega)) (Rcds.nil_ _) depW_nil w_chgW)
  have HB1 := Lib.hid hb1
  clear hB1 hb1
  refine HAA.out.mono ?_
  rintro e V2 ⟨hb2, ⟨hn0, rfl⟩ | ⟨h0, dv', dr', rs, rfl, hR', hQ', hpm', hpw', hf1, hf2⟩⟩
  · exact absurd w_app hn0
  · have hrs : rs = [] := by simpa [wChg] using hpm'
    subst hrs
    rw [w_new] at hR'
    obtain ⟨A5, c5, rfl, -⟩ := id hR'
    obtain ⟨A6, c6, rfl, -⟩ := id hQ'
    have hR1 : Revs V2 (.slice A5 1 c5) [wRev] := hR'
    have hQ1 : Rcds V2 (.slice A6 0 c6) [] := hQ'
    have hb3 := below_next HB1.out hb2
    have hA3 : Below V2.heap.size V2 (V2.alloc (.cells #[.slice A5 1 c5, .slice A6 0 c6] 31)) := (Below.refl _ _).alloc (Nat.le_refl _) _
    have hx3 := blk_new V2 [.slice A5 1 c5, .slice A6 0 c6] 31
    clear hR' hQ' hpm' hpw' hf1 hf2 hb2 h0
    go_upto_region 3 with fail
    generalize V2.alloc (.cells #[.slice A5 1 c5, .slice A6 0 c6] 31) = V3 at hA3 hx3 ⊢
    obtain ⟨z0, z1, -, -⟩ := box2 hx3
    have hLa := last_any [wRev] wPath (.slice A5 1 c5) (.slice A6 0 c6) V3 (hR1.below hA3) (by decide)
    rw [HG.out] at hLa
    have HLA : Hid (Calls Tryz.prog 16 #[.agg #[.slice A5 1 c5, .slice A6 0 c6], .string ⟨#[47, 47, 97, 47, 120]⟩] V3 fun e w' => e = .returned (.tuple #[.agg #[.string ⟨#[47, 47, 97, 47, 120]⟩, .int .i64 1, .int .i64 5, .int .i64 1, .int .i64 1, .bool false, .bool false, .bool false, .int .u64 0, .int .i64 0, .string ⟨#[]⟩, .int .i64 0], .bool true]) ∧ Below V3.heap.size V3 w') := Lib.hid hLa
    have HX3 := Lib.hid hx3
    have HS3 : Hid (Below w.heap.size w V3 ∧ Revs V3 (.slice A5 1 c5) [wRev] ∧ Rcds V3 (.slice A6 0 c6) []) := Lib.hid ⟨below_next hb3 hA3, hR1.below hA3, hQ1.below hA3⟩
    clear hLa hx3 hb3 hA3 hR1 hQ1
    go_wp2_with fail
    refine HLA.out.mono ?_
    rintro e V4 ⟨rfl, hb4⟩
    clear z0 z1
    have HB4 := Lib.hid hb4
    clear hb4
    have hA5 : Below V4.heap.size V4 (V4.alloc (.cells #[.string ⟨#[47, 47, 97, 47, 120]⟩, .int .i64 1, .int .i64 5, .int .i64 1, .int .i64 1, .bool false, .bool false, .bool false, .int .u64 0, .int .i64 0, .string ⟨#[]⟩, .int .i64 0] 40)) := (Below.refl _ _).alloc (Nat.le_refl _) _
    have hx5 := blk_new V4 [.string ⟨#[47, 47, 97, 47, 120]⟩, .int .i64 1, .int .i64 5, .int .i64 1, .int .i64 1, .bool false, .bool false, .bool false, .int .u64 0, .int .i64 0, .string ⟨#[]⟩, .int .i64 0] 40
    go_upto_region 4 with fail
    generalize V4.alloc (.cells #[.string ⟨#[47, 47, 97, 47, 120]⟩, .int .i64 1, .int .i64 5, .int .i64 1, .int .i64 1, .bool false, .bool false, .bool false, .int .u64 0, .int .i64 0, .string ⟨#[]⟩, .int .i64 0] 40) = V5 at hA5 hx5 ⊢
    have hb35 := below_next HB4.out hA5
    obtain ⟨-, y1, y2, -, -, -, -, -, -, -, -, -⟩ := box12 hx5
    obtain ⟨z0, z1, -, -⟩ := box2 (HX3.out.below hb35 HX3.out.lt)
    have HV := Lib.hid (valid_one wRev (.slice A5 1 c5) (.slice A6 0 c6) V5 (HS3.out.2.1.below hb35) (HS3.out.2.2.below hb35) (by decide) wChg rfl w_app w_new w_chgW)
    have HB5 := Lib.hid (below_next HS3.out.1 hb35)
    clear hb35 hA5 hx5
    go_wp2_with fail
    refine HV.out.mono ?_
    rintro e V6 ⟨rfl, hb6⟩
    have HB6 := Lib.hid hb6
    clear hb6 y1 y2 z0 z1
    go_wp2_with fail
    go_ret
    exact ⟨rfl, below_next HB5.out HB6.out⟩
end Go.Proofs.YtnblfaagchflaaaGreatDoor
