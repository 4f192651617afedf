/- Plain: what HistoryMoves counts; what HistoryWhole finds. -/
import Derived.Test.YtmhmnchdhacdbaaMgplay
namespace Go.Proofs.Ytmhmnchdhacdbaa
open Go.RowKit
set_option linter.unusedVariables false
set_option linter.unusedSimpArgs false

def mv1 (v w : Rev) : Bool := decide (w.chg = v.chg) && decide (w.act = 4) && decide (v.act = 5) && decide (w.frm = v.path) && decide (w.fnum = v.num - 1)
def mv2 (v w : Rev) : Bool := decide (w.chg = v.chg) && decide (v.act = 4) && decide (w.act = 5) && decide (v.frm = w.path) && decide (v.fnum = w.num - 1)
theorem mv1_iff (v w : Rev) : mv1 v w = true ↔ w.chg = v.chg ∧ w.act = 4 ∧ v.act = 5 ∧ w.frm = v.path ∧ w.fnum = v.num - 1 := by unfold mv1; simp [and_assoc]
theorem mv2_iff (v w : Rev) : mv2 v w = true ↔ w.chg = v.chg ∧ v.act = 4 ∧ w.act = 5 ∧ v.frm = w.path ∧ v.fnum = w.num - 1 := by unfold mv2; simp [and_assoc]
def mvN (revs : List Rev) (v : Rev) : Nat := revs.countP (mv1 v) + revs.countP (mv2 v)
theorem mvN_app (a b : List Rev) (v : Rev) : mvN (a ++ b) v = mvN a v + mvN b v := by unfold mvN; simp only [List.countP_append]; omega
theorem mvN_far {l : List Rev} {v : Rev} (h : ∀ w ∈ l, w.chg ≠ v.chg) : mvN l v = 0 := by
  unfold mvN
  rw [List.countP_eq_zero.2 (fun w hw e => h w hw ((mv1_iff _ _).1 e).1), List.countP_eq_zero.2 (fun w hw e => h w hw ((mv2_iff _ _).1 e).1)]
theorem countP_path {es : List Edt} (hn : (es.map (·.path)).Nodup) {y : Edt} (hy : y ∈ es) (p : Edt → Bool) (hp : p y = true) : es.countP (fun x => p x && decide (x.path = y.path)) = 1 := by
  induction es with
  | nil => cases hy
  | cons a es ih =>
    rw [List.map_cons, List.nodup_cons] at hn
    rw [List.countP_cons]
    rcases List.mem_cons.1 hy with rfl | hy
    · have : es.countP (fun x => p x && decide (x.path = y.path)) = 0 := by
        rw [List.countP_eq_zero]
        intro x hx hh
        rw [Bool.and_eq_true] at hh
        exact hn.1 (List.mem_map.2 ⟨x, hx, of_decide_eq_true hh.2⟩)
      rw [this]; simp [hp]
    · have hne : a.path ≠ y.path := fun e => hn.1 (List.mem_map.2 ⟨y, hy, e.symm⟩)
      rw [ih hn.2 hy]; simp [hne]
theorem movesE_zero {es : List Edt} (h : movesE es = 0) : ∀ e ∈ es, moveOk es (editsOf es) e = true := by
  unfold movesE at h
  split at h
  · rename_i h1; exact fun e he => List.all_eq_true.1 h1 e he
  · cases h
theorem mv_new {d : Dep} {c : Chg} (h : appE d c = 0) {e : Edt} (he : e ∈ c.edits) :
    mvN (c.edits.map (madeR (lastOf d.revs) c.num)) (madeR (lastOf d.revs) c.num e) = if e.act = 4 ∨ e.act = 5 then 1 else 0 := by
  obtain ⟨h1, h2, h3, -, -⟩ := appE_zero h
  obtain ⟨p1, p2⟩ := everyE_paths h2
  have hm := movesE_zero h3 e he
  have hfr : ∀ x ∈ c.edits, x.act = 4 → x.fnum = (lastR (lastOf d.revs) x.frm).num := by
    intro x hx ha
    have := (oneE_zero (p2 x hx).2.2).2.2.1
    unfold fromE at this
    rw [if_pos ha] at this
    simp at this
    exact this.2
  unfold mvN
  rw [List.countP_map, List.countP_map]
  by_cases h5 : e.act = 5
  · have e1 : c.edits.countP (mv1 (madeR (lastOf d.revs) c.num e) ∘ madeR (lastOf d.revs) c.num) = arrivals c.edits e.path := by
      unfold arrivals
      refine List.countP_congr fun x hx => ?_
      rw [Function.comp_apply, mv1_iff, Bool.and_eq_true, decide_eq_true_eq, decide_eq_true_eq]
      constructor
      · rintro ⟨-, a, -, b, -⟩; exact ⟨a, b⟩
      · rintro ⟨a, b⟩
        refine ⟨rfl, a, h5, b, ?_⟩
        show x.fnum = (lastR (lastOf d.revs) e.path).num + 1 - 1
        rw [hfr x hx a, b]; omega
    have e2 : c.edits.countP (mv2 (madeR (lastOf d.revs) c.num e) ∘ madeR (lastOf d.revs) c.num) = 0 := by
      refine List.countP_eq_zero.2 fun x hx hh => ?_
      have h4 : e.act = 4 := ((mv2_iff _ _).1 hh).2.1
      omega
    rw [e1, e2]
    unfold moveOk at hm
    rw [if_pos h5] at hm
    simp at hm
    rw [hm, if_pos (.inr h5)]
  · have e1 : c.edits.countP (mv1 (madeR (lastOf d.revs) c.num e) ∘ madeR (lastOf d.revs) c.num) = 0 := by
      refine List.countP_eq_zero.2 fun x hx hh => ?_
      have h4 : e.act = 5 := ((mv1_iff _ _).1 hh).2.2.1
      omega
    by_cases h4 : e.act = 4
    · unfold moveOk at hm
      rw [if_neg h5, if_pos h4] at hm
      simp at hm
      cases hy : editsOf c.edits e.frm with
      | none => rw [hy] at hm; simp [zeroEdt] at hm
      | some y =>
        rw [hy] at hm
        simp at hm
        obtain ⟨y1, y2⟩ := editsOf_mem _ _ _ hy
        have e2 : c.edits.countP (mv2 (madeR (lastOf d.revs) c.num e) ∘ madeR (lastOf d.revs) c.num) = c.edits.countP (fun x => decide (x.act = 5) && decide (x.path = y.path)) := by
          refine List.countP_congr fun x hx => ?_
          rw [Function.comp_apply, mv2_iff, Bool.and_eq_true, decide_eq_true_eq, decide_eq_true_eq]
          constructor
          · rintro ⟨-, -, a, b, -⟩; exact ⟨a, y2 ▸ b.symm⟩
          · rintro ⟨a, b⟩
            refine ⟨rfl, h4, a, ?_, ?_⟩
            · show e.frm = x.path
              rw [b, y2]
            · show e.fnum = (lastR (lastOf d.revs) x.path).num + 1 - 1
              rw [hfr e he h4, b, y2]; omega
        rw [e1, e2, countP_path (paths_nodup p1) y1 (fun x => decide (x.act = 5)) (by simpa using hm), if_pos (.inl h4)]
    · have e2 : c.edits.countP (mv2 (madeR (lastOf d.revs) c.num e) ∘ madeR (lastOf d.revs) c.num) = 0 := by
        refine List.countP_eq_zero.2 fun x hx hh => ?_
        have : e.act = 4 := ((mv2_iff _ _).1 hh).2.1
        omega
      rw [e1, e2, if_neg (by omega)]
theorem mv_step {d : Dep} {c : Chg} (h : appE d c = 0) (hd : ∀ v ∈ d.revs, mvN d.revs v = if v.act = 4 ∨ v.act = 5 then 1 else 0) : ∀ v ∈ newRevs d c, mvN (newRevs d c) v = if v.act = 4 ∨ v.act = 5 then 1 else 0 := by
  have hs := (sizeE_zero (appE_zero h).1).2.2.2.2.2
  intro v hv
  unfold newRevs at hv ⊢
  rw [mvN_app]
  rcases List.mem_append.1 hv with hv | hv
  · rw [hd v hv, mvN_far (fun w hw => ?_)]
    · omega
    · obtain ⟨x, hx, rfl⟩ := List.mem_map.1 hw
      have := hs v hv
      simp only [madeR]; omega
  · obtain ⟨e, he, rfl⟩ := List.mem_map.1 hv
    rw [mv_new h he, mvN_far (fun w hw => ?_)]
    · rw [Nat.zero_add]; rfl
    · have := hs w hw
      simp only [madeR]; omega
theorem plays_moves {l : List Chg} {d : Dep} (h : Plays l d) : ∀ v ∈ d.revs, mvN d.revs v = if v.act = 4 ∨ v.act = 5 then 1 else 0 := by
  induction h with
  | nil => intro v hv; cases hv
  | skip _ _ ih => exact ih
  | step _ h0 _ _ ih => exact mv_step h0 ih

theorem lastM_at (f : ByteArray → Option Rev) (r : Rev) (q : ByteArray) : lastM f r q = if r.path = q then (match f q with
    | none => some r
    | some b => if b.num < r.num then some r else some b) else f q := by
  by_cases h : r.path = q
  · subst h
    rw [if_pos rfl]
    unfold lastM
    cases hf : f r.path with
    | none => simp [upd]
    | some b => by_cases hb : b.num < r.num <;> simp [hb, upd, hf]
  · rw [if_neg h]; exact lastM_other f r (fun e => h e.symm)
theorem greatest_lastOf {revs : List Rev} (q : ByteArray) (p : Rev → Bool) (hp : ∀ r ∈ revs, p r = true) : greatest revs q p = lastOf revs q := by
  suffices H : ∀ (l : List Rev) (o : Option Rev) (f : ByteArray → Option Rev), (∀ r ∈ l, p r = true) → o = f q → l.foldl (fun o r => if r.path = q ∧ p r = true then (match o with
    | none => some r
    | some b => if b.num < r.num then some r else some b) else o) o = l.foldl lastM f q by
    exact H revs none (fun _ => none) hp rfl
  intro l
  induction l with
  | nil => intro o f _ h; exact h
  | cons x l ih =>
    intro o f hp h
    rw [List.foldl_cons, List.foldl_cons]
    refine ih _ _ (fun r hr => hp r (List.mem_cons_of_mem _ hr)) ?_
    rw [lastM_at, hp x (List.mem_cons_self ..), h]
    by_cases hx : x.path = q
    · simp [hx]
    · simp [hx]
theorem greatest_app {a b : List Rev} (q : ByteArray) (p : Rev → Bool) (hb : ∀ r ∈ b, p r = false) : greatest (a ++ b) q p = greatest a q p := by
  unfold greatest
  rw [List.foldl_append]
  generalize a.foldl _ none = o
  induction b generalizing o with
  | nil => rfl
  | cons x b ih =>
    rw [List.foldl_cons, if_neg (by rw [hb x (List.mem_cons_self ..)]; simp)]
    exact ih (fun r hr => hb r (List.mem_cons_of_mem _ hr)) o
theorem whole_at {d : Dep} {c : Chg} (h : appE d c = 0) {e : Edt} (he : e ∈ c.edits) : greatest (newRevs d c) e.path (fun v : Rev => decide (v.chg ≤ c.num)) = some (madeR (lastOf d.revs) c.num e) ∧ (lastR (lastOf d.revs) e.path).num = e.base := by
  obtain ⟨h1, h2, -, -, -⟩ := appE_zero h
  obtain ⟨p1, p2⟩ := everyE_paths h2
  have hs := (sizeE_zero h1).2.2.2.2.2
  refine ⟨?_, (oneE_zero (p2 e he).2.2).2.1.symm⟩
  rw [greatest_lastOf _ _ (fun r hr => ?_)]
  · unfold newRevs
    rw [lastOf_app]
    exact lasts_made _ _ _ (paths_nodup p1) e he
  · unfold newRevs at hr
    rcases List.mem_append.1 hr with hr | hr
    · have := hs r hr; simp; omega
    · obtain ⟨x, -, rfl⟩ := List.mem_map.1 hr
      simp [madeR]
theorem whole_old {d : Dep} {c : Chg} (q : ByteArray) {m : Int} (hm : m < c.num) : greatest (newRevs d c) q (fun v : Rev => decide (v.chg ≤ m)) = greatest d.revs q (fun v : Rev => decide (v.chg ≤ m)) := by
  unfold newRevs
  refine greatest_app _ _ fun r hr => ?_
  obtain ⟨x, -, rfl⟩ := List.mem_map.1 hr
  exact decide_eq_false (show ¬ c.num ≤ m by omega)
end Go.Proofs.Ytmhmnchdhacdbaa
