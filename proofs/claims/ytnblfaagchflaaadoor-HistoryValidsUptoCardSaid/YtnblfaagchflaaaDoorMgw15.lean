/- Plain: what the reference's Valid does with any depot, and that it says what the program's Valid says. -/
import Derived.Test.YtnblfaagchflaaaDoorMgw14
namespace Go.Proofs.YtnblfaagchflaaaDoor
open Go.RowKit
set_option linter.unusedVariables false
set_option linter.unusedSimpArgs false

/-- The records of some revisions, as the reference gathers them. -/
def recsR (D : Dep) (g : List Rev) : List Rcd := g.flatMap fun v => D.recs.filter fun r => decide (r.to = v.path) && decide (r.num = v.num)
def chgR (D : Dep) (k : Nat) (n : Int) : Chg := ⟨n, emptyS, emptyS, (runAt D.revs k n).map edtW, recsR D (runAt D.revs k n)⟩
/-- The depots that the reference's Valid makes: of the first k revisions, d. -/
inductive ReplR (D : Dep) : Nat → Dep → Prop where
  | start : ReplR D 0 ⟨[], []⟩
  | step {k : Nat} {d : Dep} {rs : List Rcd} (h : k < D.revs.length) : ReplR D k d → appE d (chgR D k (D.revs[k]).chg) = 0 → rs.Perm (d.recs ++ (chgR D k (D.revs[k]).chg).recs) → rs.Pairwise (fun a b => 0 ≤ cmpR b a) → ReplR D (k + (runAt D.revs k (D.revs[k]).chg).length) ⟨newRevs d (chgR D k (D.revs[k]).chg), rs⟩
/-- Why the reference's Valid says no. -/
inductive BadR (D : Dep) : Prop where
  | stuck (k : Nat) (d : Dep) (h : k < D.revs.length) : ReplR D k d → appE d (chgR D k (D.revs[k]).chg) ≠ 0 → BadR D
  | other (d : Dep) : ReplR D D.revs.length d → ¬ (d.revs = D.revs ∧ d.recs = D.recs) → BadR D
theorem cmpR_to {a b : Rcd} (h : cmpP a.to b.to < 0) : cmpR a b < 0 := by
  unfold cmpR orI
  rw [if_neg (by omega)]
  exact h
theorem mem_tw {α : Type} (p : α → Bool) : ∀ {l : List α} {x : α}, x ∈ l.takeWhile p → p x = true
  | a :: l, x, h => by
    rw [List.takeWhile_cons] at h
    split at h
    · rename_i ha
      rcases List.mem_cons.1 h with rfl | h
      · exact ha
      · exact mem_tw p h
    · cases h
theorem run_mem {revs : List Rev} {k : Nat} {n : Int} {v : Rev} (h : v ∈ runAt revs k n) : v ∈ revs ∧ v.chg = n := by
  unfold runAt at h
  have h1 := mem_tw _ h
  have h2 := (List.takeWhile_sublist _).subset h
  exact ⟨List.mem_of_mem_drop h2, of_decide_eq_true h1⟩
/-- One step on the way: the records that the reference gathers are the change's. -/
theorem way_recs {d D : Dep} {c : Chg} {rs : List Rcd} (hl : ∀ p, LogOk d.revs p) (hd : RecOk d) (h0 : appE d c = 0) (h1 : rs.Perm (d.recs ++ c.recs)) (h2 : rs.Pairwise (fun a b => 0 ≤ cmpR b a)) (hC : Chain ⟨newRevs d c, rs⟩ D) :
    recsR D (runAt D.revs d.revs.length c.num) = c.recs := by
  obtain ⟨b1, b2, b3, b4⟩ := way_step hl hd h0 h1 h2 hC
  have hrec : recsAt D c.num = c.recs := congrArg Chg.recs b4
  have hl2 := fun p => log_step h0 p (hl p)
  have hd2 := app_recOk hl hd h0 h1 h2
  have hlD := chain_log hC hl2
  have hdD := chain_rec hC hl2 hd2
  obtain ⟨p1, p2⟩ := everyE_paths (appE_zero h0).2.1
  have hs : (recsR D (runAt D.revs d.revs.length c.num)).Pairwise (fun a b => cmpR a b < 0) := by
    rw [b3]
    unfold recsR
    rw [List.pairwise_flatMap]
    refine ⟨fun v _ => hdD.strict.sublist List.filter_sublist, ?_⟩
    rw [List.pairwise_map]
    refine p1.imp ?_
    intro x y hxy a ha b hb
    rw [List.mem_filter, Bool.and_eq_true, decide_eq_true_eq, decide_eq_true_eq] at ha hb
    refine cmpR_to ?_
    rw [ha.2.1, hb.2.1]
    exact hxy
  refine strict_uniq hs (app_strict hd.path h0) ?_
  rw [List.perm_ext_iff_of_nodup (strict_nodup hs) (strict_nodup (app_strict hd.path h0))]
  intro r
  constructor
  · intro hr
    obtain ⟨v, v1, v2⟩ := List.mem_flatMap.1 hr
    rw [List.mem_filter, Bool.and_eq_true, decide_eq_true_eq, decide_eq_true_eq] at v2
    obtain ⟨m1, m2⟩ := run_mem v1
    rw [← hrec]
    unfold recsAt
    rw [List.mem_filter, decide_eq_true_eq]
    refine ⟨v2.1, ?_⟩
    rw [v2.2.1, v2.2.2, chgOf_some hlD m1, m2]
  · intro hr
    have hrD : r ∈ D.recs := by
      rw [← hrec] at hr
      exact (List.mem_filter.1 hr).1
    obtain ⟨-, e, he, e1, e2⟩ := app_recs hd.path h0 r hr
    refine List.mem_flatMap.2 ⟨madeR (lastOf d.revs) c.num e, by rw [b3]; exact List.mem_map_of_mem he, ?_⟩
    rw [List.mem_filter, Bool.and_eq_true, decide_eq_true_eq, decide_eq_true_eq]
    exact ⟨hrD, e1.symm, e2.symm⟩
theorem way_chgR {d D : Dep} {c : Chg} {rs : List Rcd} (hl : ∀ p, LogOk d.revs p) (hd : RecOk d) (h0 : appE d c = 0) (h1 : rs.Perm (d.recs ++ c.recs)) (h2 : rs.Pairwise (fun a b => 0 ≤ cmpR b a)) (hC : Chain ⟨newRevs d c, rs⟩ D) :
    chgR D d.revs.length c.num = ⟨c.num, emptyS, emptyS, c.edits.map noFence, c.recs⟩ := by
  obtain ⟨b1, b2, b3, b4⟩ := way_step hl hd h0 h1 h2 hC
  have he : (runAt D.revs d.revs.length c.num).map edtW = c.edits.map noFence := congrArg Chg.edits b4
  unfold chgR
  rw [he, way_recs hl hd h0 h1 h2 hC]
theorem replR_way {D : Dep} (hD : Chain ⟨[], []⟩ D) {k : Nat} {d : Dep} (h : ReplR D k d) : k = d.revs.length ∧ Chain d D ∧ RecOk d ∧ ∀ p, LogOk d.revs p := by
  induction h with
  | start => exact ⟨rfl, hD, plays_recOk Plays.nil, fun p => plays_log Plays.nil p⟩
  | @step k d rs hk hr h0 h1 h2 ih =>
    obtain ⟨rfl, hC, hR, hL⟩ := ih
    cases hC with
    | refl => exact absurd hk (Nat.lt_irrefl _)
    | @step _ _ c rs' a0 a1 a2 hC' =>
      obtain ⟨b1, b2, b3, -⟩ := way_step hL hR a0 a1 a2 hC'
      have b4 := way_chgR hL hR a0 a1 a2 hC'
      rw [b2, b4] at h0 h1
      rw [b2, b3, b4]
      dsimp only at h1
      rw [newRevs_fence]
      have hrs : rs = rs' := strict_uniq (app_recOk hL hR a0 h1 h2).strict (app_recOk hL hR a0 a1 a2).strict (h1.trans a1.symm)
      subst hrs
      exact ⟨by unfold newRevs; simp, hC', app_recOk hL hR a0 a1 a2, fun p => log_step a0 p (hL p)⟩
theorem plays_notBadR {l : List Chg} {D : Dep} (h : Plays l D) : ¬ BadR D := by
  have hD := plays_chain h
  intro hb
  cases hb with
  | stuck k d hk hr hn =>
    obtain ⟨rfl, hC, hR, hL⟩ := replR_way hD hr
    cases hC with
    | refl => exact absurd hk (Nat.lt_irrefl _)
    | @step _ _ c rs' a0 a1 a2 hC' =>
      obtain ⟨b1, b2, b3, -⟩ := way_step hL hR a0 a1 a2 hC'
      rw [b2, way_chgR hL hR a0 a1 a2 hC', appE_fence] at hn
      exact hn a0
  | other d hr hn =>
    obtain ⟨e, hC, -, -⟩ := replR_way hD hr
    have := (chain_len hC).2 e.symm
    subst this
    exact hn ⟨rfl, rfl⟩
theorem repl_plays {D : Dep} {k : Nat} {d : Dep} (h : Repl D k d) : ∃ l, Plays l d := by
  induction h with
  | start => exact ⟨[], Plays.nil⟩
  | step _ _ h0 h1 h2 ih => obtain ⟨l, hl⟩ := ih; exact ⟨_, Plays.step hl h0 h1 h2⟩
theorem replR_plays {D : Dep} {k : Nat} {d : Dep} (h : ReplR D k d) : ∃ l, Plays l d := by
  induction h with
  | start => exact ⟨[], Plays.nil⟩
  | step _ _ h0 h1 h2 ih => obtain ⟨l, hl⟩ := ih; exact ⟨_, Plays.step hl h0 h1 h2⟩
/-- Both say the same. -/
theorem valid_yes {D : Dep} (h : Good D) : ¬ BadR D := by
  obtain ⟨l, hl⟩ := repl_plays h.repl
  exact plays_notBadR hl
theorem valid_no {D : Dep} (h : Bad D) (h1 : D.revs.length ≤ 512) (h2 : D.recs.length ≤ 512) : ¬ ReplR D D.revs.length D := by
  intro hr
  obtain ⟨l, hl⟩ := replR_plays hr
  exact plays_notBad hl h1 h2 h
end Go.Proofs.YtnblfaagchflaaaDoor
/- Plain: the changes that the reference's Changes gathers are those of its Valid. -/
namespace Go.Proofs.YtnblfaagchflaaaDoor
open Go.RowKit
set_option linter.unusedVariables false
set_option linter.unusedSimpArgs false

/-- One more revision of a change. -/
def chAdd (D : Dep) (v : Rev) (c : Chg) : Chg := ⟨c.num, c.client, c.text, c.edits ++ [edtW v], c.recs ++ D.recs.filter fun r => decide (r.to = v.path) && decide (r.num = v.num)⟩
def chNew (v : Rev) : Chg := ⟨v.chg, emptyS, emptyS, [], []⟩
/-- One more revision; the changes come as those ahead and the last one. -/
def chStep (D : Dep) : Option (List Chg × Chg) → Rev → Option (List Chg × Chg)
  | none, v => some ([], chAdd D v (chNew v))
  | some (l, c), v => if c.num ≠ v.chg then some (l ++ [c], chAdd D v (chNew v)) else some (l, chAdd D v c)
def chgsL (D : Dep) (k : Nat) : Option (List Chg × Chg) := (D.revs.take k).foldl (chStep D) none
def listO : Option (List Chg × Chg) → List Chg
  | none => []
  | some (l, c) => l ++ [c]
/-- The changes from the k-th revision on. -/
inductive Grp (D : Dep) : Nat → List Chg → Prop where
  | nil : Grp D D.revs.length []
  | cons {k : Nat} {l : List Chg} (h : k < D.revs.length) : Grp D (k + (runAt D.revs k (D.revs[k]).chg).length) l → Grp D k (chgR D k (D.revs[k]).chg :: l)
theorem chgsL_next (D : Dep) (k : Nat) (h : k < D.revs.length) : chgsL D (k + 1) = chStep D (chgsL D k) D.revs[k] := by
  unfold chgsL
  rw [List.take_succ_eq_append_getElem h, List.foldl_append]; rfl
theorem chStep_same {D : Dep} {l : List Chg} {c : Chg} {v : Rev} (h : c.num = v.chg) : chStep D (some (l, c)) v = some (l, chAdd D v c) := by
  show (if c.num ≠ v.chg then _ else _) = _
  rw [if_neg (by simp [h])]
theorem chStep_other {D : Dep} {l : List Chg} {c : Chg} {v : Rev} (h : c.num ≠ v.chg) : chStep D (some (l, c)) v = some (l ++ [c], chAdd D v (chNew v)) := by
  show (if c.num ≠ v.chg then _ else _) = _
  rw [if_pos h]
/-- A run of one change. -/
theorem fold_run (D : Dep) (n : Int) : ∀ (g : List Rev) (l : List Chg) (c : Chg), c.num = n → (∀ v ∈ g, v.chg = n) → g.foldl (chStep D) (some (l, c)) = some (l, ⟨n, c.client, c.text, c.edits ++ g.map edtW, c.recs ++ recsR D g⟩)
  | [], l, c, hc, _ => by subst hc; simp [recsR]
  | v :: g, l, c, hc, h => by
    have hv := h v (List.mem_cons_self ..)
    rw [List.foldl_cons, chStep_same (hc.trans hv.symm)]
    rw [fold_run D n g l (chAdd D v c) hc (fun x hx => h x (List.mem_cons_of_mem _ hx))]
    simp [chAdd, recsR, List.append_assoc]
theorem drop_tw {α : Type} (p : α → Bool) : ∀ l : List α, l.drop (l.takeWhile p).length = l.dropWhile p
  | [] => rfl
  | a :: l => by
    by_cases h : p a = true
    · rw [List.takeWhile_cons_of_pos h, List.dropWhile_cons_of_pos h, List.length_cons, List.drop_succ_cons, drop_tw p l]
    · rw [List.takeWhile_cons_of_neg h, List.dropWhile_cons_of_neg h]; rfl
theorem run_drop {revs : List Rev} {k : Nat} {n : Int} : revs.drop k = runAt revs k n ++ revs.drop (k + (runAt revs k n).length) := by
  have h : revs.drop k = (revs.drop k).takeWhile (fun r => decide (r.chg = n)) ++ (revs.drop k).dropWhile (fun r => decide (r.chg = n)) := (List.takeWhile_append_dropWhile ..).symm
  have h2 : revs.drop (k + (runAt revs k n).length) = (revs.drop k).dropWhile (fun r => decide (r.chg = n)) := by
    rw [← List.drop_drop]
    unfold runAt
    exact drop_tw _ _
  rw [h2]
  exact h
theorem run_head {revs : List Rev} {k : Nat} (h : k < revs.length) : runAt revs k (revs[k]).chg = revs[k] :: (revs.drop (k + 1)).takeWhile (fun r => decide (r.chg = (revs[k]).chg)) := by
  unfold runAt
  rw [List.drop_eq_getElem_cons h, List.takeWhile_cons_of_pos (by simp)]
theorem after_run {revs : List Rev} {k : Nat} {n : Int} (h : k + (runAt revs k n).length < revs.length) : (revs[k + (runAt revs k n).length]).chg ≠ n := by
  intro e
  have h1 := run_drop (revs := revs) (k := k) (n := n)
  rw [List.drop_eq_getElem_cons h] at h1
  have h2 : runAt revs k n = (runAt revs k n ++ revs[k + (runAt revs k n).length] :: revs.drop (k + (runAt revs k n).length + 1)).takeWhile (fun r => decide (r.chg = n)) := by
    rw [← h1]; rfl
  rw [List.takeWhile_append_of_pos (fun x hx => decide_eq_true (run_mem hx).2), List.takeWhile_cons_of_pos (by simp [e])] at h2
  have := congrArg List.length h2
  simp at this
/-- What the changes from k on add to those ahead, the last one ahead being of another change. -/
theorem fold_grp (D : Dep) {k : Nat} {L : List Chg} (hg : Grp D k L) : ∀ (o : Option (List Chg × Chg)), (∀ l c, o = some (l, c) → ∀ h : k < D.revs.length, c.num ≠ (D.revs[k]).chg) → listO ((D.revs.drop k).foldl (chStep D) o) = listO o ++ L := by
  induction hg with
  | nil => intro o _; rw [List.drop_length]; simp
  | @cons k L h _ ih =>
    intro o ho
    generalize hn : (D.revs[k]).chg = n at ih ⊢
    have hrun : (runAt D.revs k n).foldl (chStep D) o = some (listO o, chgR D k n) := by
      have hh := run_head h
      rw [hn] at hh
      have hmem : ∀ v ∈ (D.revs.drop (k + 1)).takeWhile (fun r => decide (r.chg = n)), v.chg = n := fun v hv => of_decide_eq_true (p := v.chg = n) (mem_tw (fun r : Rev => decide (r.chg = n)) hv)
      have hstep : chStep D o D.revs[k] = some (listO o, chAdd D D.revs[k] (chNew D.revs[k])) := by
        cases o with
        | none => rfl
        | some p =>
          obtain ⟨l, c⟩ := p
          exact chStep_other (ho l c rfl h)
      have e2 : chgR D k n = ⟨n, emptyS, emptyS, (runAt D.revs k n).map edtW, recsR D (runAt D.revs k n)⟩ := rfl
      rw [e2, hh, List.foldl_cons, hstep, fold_run D n _ _ _ (show (chAdd D D.revs[k] (chNew D.revs[k])).num = n from hn) hmem]
      simp [chAdd, chNew, recsR]
    rw [run_drop (k := k) (n := n), List.foldl_append, hrun, ih]
    · simp [listO]
    · intro l c hc h2
      injection hc with hc
      injection hc with _ hc
      subst hc
      exact fun e => after_run h2 e.symm
theorem grp_exists (D : Dep) : ∀ (m k : Nat), k ≤ D.revs.length → D.revs.length - k ≤ m → ∃ L, Grp D k L
  | 0, k, h1, h2 => by
    have : k = D.revs.length := by omega
    subst this
    exact ⟨[], .nil⟩
  | m + 1, k, h1, h2 => by
    by_cases h : k < D.revs.length
    · have hh := run_head h
      have hl : 0 < (runAt D.revs k (D.revs[k]).chg).length := by rw [hh]; simp
      have hle : k + (runAt D.revs k (D.revs[k]).chg).length ≤ D.revs.length := by
        have : (runAt D.revs k (D.revs[k]).chg).length ≤ (D.revs.drop k).length := (List.takeWhile_sublist _).length_le
        rw [List.length_drop] at this
        omega
      obtain ⟨L, hL⟩ := grp_exists D m _ hle (by omega)
      exact ⟨_, .cons h hL⟩
    · have : k = D.revs.length := by omega
      subst this
      exact ⟨[], .nil⟩
/-- The changes of a depot are those that Valid replays. -/
theorem chgs_grp (D : Dep) : Grp D 0 (listO (chgsL D D.revs.length)) := by
  obtain ⟨L, hL⟩ := grp_exists D _ 0 (Nat.zero_le _) (Nat.le_refl _)
  have := fold_grp D hL none (fun l c h => by cases h)
  rw [List.drop_zero] at this
  unfold chgsL
  rw [List.take_length, this]
  exact hL
end Go.Proofs.YtnblfaagchflaaaDoor
