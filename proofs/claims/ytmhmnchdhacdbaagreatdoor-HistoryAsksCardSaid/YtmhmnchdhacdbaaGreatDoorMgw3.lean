/- Plain: what the reference's examination of a change says is what the program's says. -/
import Derived.Test.YtmhmnchdhacdbaaGreatDoorMgv1
import Derived.Test.YtmhmnchdhacdbaaGreatDoorMgv2
import Derived.Test.YtmhmnchdhacdbaaGreatDoorOneY
namespace Go.Proofs.YtmhmnchdhacdbaaGreatDoor
open Go.RowKit
set_option linter.unusedVariables false
set_option linter.unusedSimpArgs false

/-- The path of the edit ahead of the i-th, or b. -/
def aheadQ (b : ByteArray) (es : List Edt) (i : Nat) : ByteArray := if i = 0 then b else ((es[i - 1]?).getD zeroEdt).path
theorem aheadQ_cons (b : ByteArray) (e : Edt) (es : List Edt) (i : Nat) : aheadQ b (e :: es) (i + 1) = aheadQ e.path es i := by
  unfold aheadQ
  cases i with
  | zero => simp
  | succ i => simp
theorem every_all {last : ByteArray → Option Rev} : ∀ (es : List Edt) (b : ByteArray), (∀ i (h : i < es.length), editE last (aheadQ b es i) es[i] = 0) → everyE last b es = 0
  | [], b, _ => rfl
  | e :: es, b, h => by
    have h0 : editE last b e = 0 := h 0 (by simp)
    unfold everyE
    rw [if_neg (by rw [h0]; simp)]
    exact every_all es e.path fun i hi => by
      have := h (i + 1) (by simp; omega)
      rw [aheadQ_cons] at this
      exact this
theorem every_at {last : ByteArray → Option Rev} : ∀ (es : List Edt) (b : ByteArray) (i : Nat) (hi : i < es.length), (∀ j (h : j < i), editE last (aheadQ b es j) (es[j]'(by omega)) = 0) → editE last (aheadQ b es i) es[i] ≠ 0 → everyE last b es = editE last (aheadQ b es i) es[i]
  | e :: es, b, 0, hi, _, h => by
    unfold everyE
    rw [if_pos (show editE last b e ≠ 0 from h)]
    rfl
  | e :: es, b, i + 1, hi, hz, h => by
    have h0 : editE last b e = 0 := hz 0 (by omega)
    unfold everyE
    rw [if_neg (by rw [h0]; simp)]
    rw [aheadQ_cons] at h ⊢
    exact every_at es e.path i (by simpa using hi) (fun j hj => by have := hz (j + 1) (by omega); rw [aheadQ_cons] at this; exact this) h

theorem recsF_mk {revs : List Rev} {c : Chg} {ed : ByteArray → Option Edt} : ∀ (rs : List Rcd) (b : Option Rcd), recsF revs c ed b rs = true ↔ (∀ r ∈ rs, recOk revs c ed r = true) ∧ (∀ x, b = some x → ∀ h : 0 < rs.length, cmpR x rs[0] < 0) ∧ ∀ i (h : i + 1 < rs.length), cmpR rs[i] rs[i + 1] < 0
  | [], b => by simp [recsF]
  | r :: rs, b => by
    unfold recsF
    rw [Bool.and_eq_true, Bool.and_eq_true, recsF_mk rs (some r)]
    constructor
    · rintro ⟨⟨h1, h2⟩, h3, h4, h5⟩
      refine ⟨fun x hx => ?_, fun x hx h => ?_, fun i hi => ?_⟩
      · rcases List.mem_cons.1 hx with rfl | hx
        · exact h2
        · exact h3 x hx
      · subst hx; simpa using h1
      · cases i with
        | zero => exact h4 r rfl (by simpa using hi)
        | succ i => exact h5 i (by simpa using hi)
    · rintro ⟨h1, h2, h3⟩
      refine ⟨⟨?_, h1 r (List.mem_cons_self ..)⟩, fun x hx => h1 x (List.mem_cons_of_mem _ hx), fun x hx h => ?_, fun i hi => ?_⟩
      · cases b with
        | none => rfl
        | some x => exact decide_eq_true (h2 x rfl (by simp))
      · injection hx with hx
        subst hx
        exact h3 0 (by simpa using h)
      · exact h3 (i + 1) (by simpa using hi)
theorem rec_val {d : Dep} {c : Chg} (h : DepOk d) (h2 : everyE (lastOf d.revs) emptyS c.edits = 0) {r : Rcd} (h1 : recOk d.revs c (editsOf c.edits) r = true) : r.val_ := by
  unfold recOk at h1
  rw [Bool.and_eq_true] at h1
  obtain ⟨⟨e, he, -, hn⟩, v, hv⟩ := isRec_parts h1.1
  obtain ⟨g1, g2, -⟩ := greatest_mem hv
  obtain ⟨k1, k2⟩ := editsOf_mem _ _ _ he
  refine ⟨?_, ?_⟩
  · rw [← g2]; exact h.rec_.path v g1
  · rw [← k2]; exact ((everyE_paths h2).2 e k1).1
/-- What the reference answers to the i-th record; v: what it says of the record ahead and this one. -/
def RecB (d : Dep) (c : Chg) (i : Nat) (b : Bool) : Prop := ∃ h : i < c.recs.length, ∃ v : Bool, (∀ h0 : 0 < i, (c.recs[i - 1]'(by omega)).val_ → c.recs[i].val_ → v = decide (cmpR (c.recs[i - 1]'(by omega)) c.recs[i] < 0)) ∧ b = ((decide (i = 0) || v) && refRec d.revs c c.recs[i])
theorem recs_yes {d : Dep} {c : Chg} (h : DepOk d) (hs : ∀ r ∈ d.revs, r.chg < c.num) (h2 : everyE (lastOf d.revs) emptyS c.edits = 0) (hb : ∀ i, i < c.recs.length → RecB d c i true) : recsE d.revs c = 0 := by
  have hok : ∀ i (hi : i < c.recs.length), recOk d.revs c (editsOf c.edits) c.recs[i] = true := fun i hi => by
    obtain ⟨_, v, hv, he⟩ := hb i hi
    have := (Bool.and_eq_true _ _ ▸ he.symm)
    exact recOk_of_ref h hs h2 this.2
  have hf : recsF d.revs c (editsOf c.edits) none c.recs = true := by
    refine (recsF_mk _ _).2 ⟨fun r hr => ?_, fun x hx => (by cases hx), fun i hi => ?_⟩
    · obtain ⟨i, hi, rfl⟩ := List.mem_iff_getElem.1 hr
      exact hok i hi
    · obtain ⟨_, v, hv, he⟩ := hb (i + 1) hi
      have h3 := (Bool.and_eq_true _ _ ▸ he.symm)
      have h4 : v = true := by simpa using h3.1
      have h5 := hv (by omega) (rec_val h h2 (hok _ _)) (rec_val h h2 (hok _ _))
      rw [h4] at h5
      simpa using h5.symm
  unfold recsE
  rw [hf]; rfl
theorem recs_no {d : Dep} {c : Chg} (h : DepOk d) (hs : ∀ r ∈ d.revs, r.chg < c.num) (h2 : everyE (lastOf d.revs) emptyS c.edits = 0) {i : Nat} (hb : RecB d c i false) : recsE d.revs c = 118 := by
  unfold recsE
  cases hf : recsF d.revs c (editsOf c.edits) none c.recs with
  | false => rfl
  | true =>
    exfalso
    obtain ⟨f1, -, f3⟩ := (recsF_mk _ _).1 hf
    obtain ⟨hi, v, hv, he⟩ := hb
    rw [ref_of_recOk h hs h2 f1 (List.getElem_mem hi), Bool.and_true] at he
    have h3 := he.symm
    rw [Bool.or_eq_false_iff] at h3
    have h0 : 0 < i := by have := h3.1; simp at this; omega
    have h5 := hv h0 (rec_val h h2 (f1 _ (List.getElem_mem _))) (rec_val h h2 (f1 _ (List.getElem_mem _)))
    rw [h3.2] at h5
    obtain ⟨j, rfl⟩ : ∃ j, i = j + 1 := ⟨i - 1, by omega⟩
    have h6 := f3 j hi
    simp only [Nat.add_sub_cancel] at h5
    have := of_decide_eq_false h5.symm
    omega
theorem moves_yes {last : ByteArray → Option Rev} {es : List Edt} (h2 : everyE last emptyS es = 0) (hb : ∀ x ∈ es, movedB es x = true) : movesE es = 0 := by
  unfold movesE
  rw [if_pos]
  rw [List.all_eq_true]
  intro x hx
  rw [← moved_iff (paths_nodup (everyE_paths h2).1) hx]
  exact hb x hx
theorem moves_no {last : ByteArray → Option Rev} {es : List Edt} (h2 : everyE last emptyS es = 0) {x : Edt} (hx : x ∈ es) (hb : movedB es x = false) : movesE es = 117 := by
  unfold movesE
  rw [if_neg]
  intro hh
  rw [List.all_eq_true] at hh
  have := hh x hx
  rw [← moved_iff (paths_nodup (everyE_paths h2).1) hx, hb] at this
  cases this
/-- Both lists of records of the new depot are one. -/
theorem sorted_one {d : Dep} {c : Chg} {l m : List Rcd} (h : DepOk d) (h0 : appE d c = 0) (h1 : l.Perm (d.recs ++ c.recs)) (h2 : l.Pairwise (fun a b => 0 ≤ cmpR b a)) (h3 : m.Perm (d.recs ++ c.recs)) (h4 : m.Pairwise (fun a b => 0 ≤ cmpR b a)) : l = m :=
  strict_uniq (app_recOk h.log h.rec_ h0 h1 h2).strict (app_recOk h.log h.rec_ h0 h3 h4).strict (h1.trans h3.symm)
theorem appE_size {d : Dep} {c : Chg} (h : sizeE d.revs c ≠ 0) : appE d c = sizeE d.revs c := by unfold appE firstE; rw [if_pos h]
theorem appE_every {d : Dep} {c : Chg} (h1 : sizeE d.revs c = 0) (h : everyE (lastOf d.revs) emptyS c.edits ≠ 0) : appE d c = everyE (lastOf d.revs) emptyS c.edits := by
  unfold appE firstE; rw [if_neg (by rw [h1]; simp)]; unfold firstE; rw [if_pos h]
theorem appE_moves {d : Dep} {c : Chg} (h1 : sizeE d.revs c = 0) (h2 : everyE (lastOf d.revs) emptyS c.edits = 0) (h : movesE c.edits ≠ 0) : appE d c = movesE c.edits := by
  simp [appE, firstE, h1, h2, h]
theorem appE_recs {d : Dep} {c : Chg} (h1 : sizeE d.revs c = 0) (h2 : everyE (lastOf d.revs) emptyS c.edits = 0) (h3 : movesE c.edits = 0) (h : recsE d.revs c ≠ 0) : appE d c = recsE d.revs c := by
  simp [appE, firstE, h1, h2, h3, h]
theorem appE_room {d : Dep} {c : Chg} (h1 : sizeE d.revs c = 0) (h2 : everyE (lastOf d.revs) emptyS c.edits = 0) (h3 : movesE c.edits = 0) (h4 : recsE d.revs c = 0) : appE d c = roomE d c := by
  simp only [appE, firstE, h1, h2, h3, h4]
  by_cases h : roomE d c = 0
  · simp [h]
  · simp [h]
end Go.Proofs.YtmhmnchdhacdbaaGreatDoor
/- The reference's examination of an edit: its words, and the rest of a function's text from a region on. -/
namespace Go.Proofs.YtmhmnchdhacdbaaGreatDoor
open Go.RowKit
set_option linter.unusedVariables false
set_option linter.unusedSimpArgs false

def hasReg (n : Nat) : Code → Bool
  | .region i _ _ => i == n
  | .seq a b => hasReg n a || hasReg n b
  | .cond _ a b => hasReg n a || hasReg n b
  | .block _ a => hasReg n a
  | .loop a => hasReg n a
  | _ => false
/-- What is left of a function's text from the statement on that holds region n. -/
def tailAt (n : Nat) : Code → Option Code
  | .seq a b => if hasReg n a then some (.seq a b) else tailAt n b
  | c => if hasReg n c then some c else none
theorem ret_i {k : IntKind} {a b : Int} (h : a = b) : Ending.returned (.int k a) = .returned (.int k b) := by rw [h]
set_option maxHeartbeats 1000000 in
theorem refCheck_any (b : Int) (k l x : Bool) (w : World) :
    Calls Tryz.prog 121 #[.agg #[.int .i64 b, .bool k, .bool l, .bool x]] w fun e w' => e = .returned (.int .i64 (errOf 90 (tyOk b k x))) ∧ Below w.heap.size w w' := by
  by_cases h0 : 1 ≤ b ∧ b ≤ 3
  · have hb : b = 1 ∨ b = 2 ∨ b = 3 := by omega
    rcases hb with rfl | rfl | rfl <;> cases k <;> cases x
    all_goals
      go_enter Tryz.func121, Tryz.ntmps121
      go_wp2
      go_ret
      exact ⟨rfl, (Below.refl _ _).alloc (Nat.le_refl _) _⟩
  · have H : Hid (tyOk b k x = false) := Lib.hid (by
      unfold tyOk
      have h1 : (b == 1) = false := by rw [beq_eq_false_iff_ne]; omega
      have h2 : (b == 2) = false := by rw [beq_eq_false_iff_ne]; omega
      have h3 : (b == 3) = false := by rw [beq_eq_false_iff_ne]; omega
      simp [h1, h2, h3])
    by_cases hb : b < 1
    · clear h0
      go_enter Tryz.func121, Tryz.ntmps121
      go_wp2
      go_ret
      exact ⟨ret_i (by rw [H.out]; rfl), (Below.refl _ _).alloc (Nat.le_refl _) _⟩
    · have hb3 : 3 < b := by omega
      clear h0
      go_enter Tryz.func121, Tryz.ntmps121
      go_wp2
      go_ret
      exact ⟨ret_i (by rw [H.out]; rfl), (Below.refl _ _).alloc (Nat.le_refl _) _⟩
/-! What editE answers. -/
section
variable {f : ByteArray → Option Rev} {b : ByteArray} {x : Edt}
theorem ed111 (h : validS x.path = false ∨ 200 < x.path.size) : editE f b x = 111 := by unfold editE; rw [if_pos h]
theorem ed112 (h1 : ¬ (validS x.path = false ∨ 200 < x.path.size)) (h : b ≠ emptyS ∧ 0 ≤ cmpP b x.path) : editE f b x = 112 := by unfold editE; rw [if_neg h1, if_pos h]
theorem edOne (h1 : ¬ (validS x.path = false ∨ 200 < x.path.size)) (h : ¬ (b ≠ emptyS ∧ 0 ≤ cmpP b x.path)) : editE f b x = oneE f x := by unfold editE; rw [if_neg h1, if_neg h]
theorem one113 (h : actE f x ≠ 0) : oneE f x = 113 := by
  unfold oneE; rw [if_pos h]
  unfold actE at h ⊢
  split
  · split
    · rfl
    · rename_i h1 h2; rw [if_pos h1, if_neg h2] at h; exact absurd rfl h
  · split
    · split
      · rename_i h1 h2 h3; rw [if_neg h1, if_pos h2, if_pos h3] at h; exact absurd rfl h
      · rfl
    · rfl
theorem act_bad1 (h : x.act < 1 ∨ 5 < x.act) : actE f x ≠ 0 := fun e => by have := acts_ok e; omega
theorem act_bad2 (h : addA x.act = isLast f x.path) : actE f x ≠ 0 := fun e => by
  have := actE_zero e
  rw [h] at this
  cases isLast f x.path <;> simp at this
theorem act_good (h1 : 1 ≤ x.act ∧ x.act ≤ 5) (h : addA x.act = !isLast f x.path) : actE f x = 0 := by
  unfold actE
  by_cases ha : x.act = 1 ∨ x.act = 4
  · have : addA x.act = true := by unfold addA; rcases ha with h | h <;> rw [h] <;> rfl
    rw [this] at h
    rw [if_pos ha, if_neg (by intro hh; rw [hh] at h; cases h)]
  · have : addA x.act = false := by unfold addA; simp; omega
    rw [this] at h
    rw [if_neg ha, if_pos (by omega), if_pos (by cases hh : isLast f x.path; rw [hh] at h; cases h; rfl)]
end
theorem add_cases (a : Int) : ((a == 1) = true ∧ (a == 4) = false ∧ addA a = true) ∨ ((a == 1) = false ∧ (a == 4) = true ∧ addA a = true) ∨ ((a == 1) = false ∧ (a == 4) = false ∧ addA a = false) := by
  unfold addA
  by_cases h1 : a = 1
  · subst h1; exact .inl ⟨rfl, rfl, rfl⟩
  · by_cases h4 : a = 4
    · subst h4; exact .inr (.inl ⟨rfl, rfl, rfl⟩)
    · refine .inr (.inr ⟨by simpa using h1, by simpa using h4, by simp [h1, h4]⟩)
theorem rLiveB_last {revs : List Rev} (hl : ∀ p, LogOk revs p) (p : ByteArray) : rLiveB revs p = isLast (lastOf revs) p := by
  unfold rLiveB isLast; rw [(hl p).rlast]; cases lastOf revs p <;> rfl
theorem someR_last {revs : List Rev} (hl : ∀ p, LogOk revs p) (p : ByteArray) : someR (rLast revs p) = lastR (lastOf revs) p := by
  unfold someR lastR; rw [(hl p).rlast]

end Go.Proofs.YtmhmnchdhacdbaaGreatDoor
