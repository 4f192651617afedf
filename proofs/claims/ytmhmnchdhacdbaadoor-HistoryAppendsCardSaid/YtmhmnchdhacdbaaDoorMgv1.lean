/- Plain: what HistoryMoves counts; what HistoryWhole finds. -/
import Derived.Test.YtmhmnchdhacdbaaDoorMgv0
import Derived.Test.YtmhmnchdhacdbaaDoorClone
import Derived.Test.YtmhmnchdhacdbaaDoorProg
import Derived.Test.YtmhmnchdhacdbaaDoorHp
import Derived.Deep.LoopGhost
import Derived.Shelf.Small.Strs
import Derived.Shelf.Small.Wraps
import Derived.Shelf.Utf8.RuneCount
import Derived.Shelf.Strings.Search1
import Derived.Shelf.Strings.Search2
import Derived.Shelf.Strings.Search3
import Derived.Shelf.Strings.Count
import Derived.Shelf.LaysM
import Derived.Shelf.Strings.Shaped
import Derived.Shelf.Strings.Prefix
import Derived.Shelf.Strings.Split
import Derived.Shelf.Strings.SplitShaped
import Derived.Shelf.Unicode.Decode
import Derived.Shelf.Strings.RuneCount
import Derived.Shelf.Strings.Explode
import Derived.Shelf.Unicode.DecodeSlow
import Derived.Shelf.Unicode.DecodeAny
import Derived.Ground.Names2Prog
import Derived.Shelf.Slices.SearchI
namespace Go.Proofs.YtmhmnchdhacdbaaDoor
open Go.RowKit
set_option linter.unusedVariables false
set_option linter.unusedSimpArgs false

def mv1 (v w : Rev) : Bool := decide (w.chg = v.chg) && decide (w.act = 4) && decide (v.act = 5) && decide (w.frm = v.path) && decide (w.fnum = v.num - 1)
def mv2 (v w : Rev) : Bool := decide (w.chg = v.chg) && decide (v.act = 4) && decide (w.act = 5) && decide (v.frm = w.path) && decide (v.fnum = w.num - 1)
theorem mv1_iff (v w : Rev) : mv1 v w = true ↔ w.chg = v.chg ∧ w.act = 4 ∧ v.act = 5 ∧ w.frm = v.path ∧ w.fnum = v.num - 1 := by unfold mv1; simp [and_assoc]
theorem mv2_iff (v w : Rev) : mv2 v w = true ↔ w.chg = v.chg ∧ v.act = 4 ∧ w.act = 5 ∧ v.frm = w.path ∧ v.fnum = w.num - 1 := by unfold mv2; simp [and_assoc]
def mvN (revs : List Rev) (v : Rev) : Nat := revs.countP (mv1 v) + revs.countP (mv2 v)
theorem mvN_app (a b : List Rev) (v : Rev) : mvN (a ++ b) v = mvN a v + mvN b v := by unfold mvN; simp only [List.countP_append]; omega
theorem mvN_far {l : List Rev} {v : Rev} (h : ∀ w ∈ l, w.chg ≠ v.chg) : mvN l v = 0 := by
  unfold mvN
  rw [List.countP_eq_zero.2 (fun w hw e => h w hw ((mv1_iff _ _).1 e).1), List.countP_eq_zero.2 (fun w hw e => h w hw ((mv2_iff _ _).1 e).1)]
theorem countP_path {es : List Edt} (hn : (es.map (·.path)).Nodup) {y : Edt} (hy : y ∈ es) (p : Edt → Bool) (hp : p y = true) : es.countP (fun x => p x && decide (x.path = y.path)) = 1 := by
  induction es with
  | nil => cases hy
  | cons a es ih =>
    rw [List.map_cons, List.nodup_cons] at hn
    rw [List.countP_cons]
    rcases List.mem_cons.1 hy with rfl | hy
    · have : es.countP (fun x => p x && decide (x.path = y.path)) = 0 := by
        rw [List.countP_eq_zero]
        intro x hx hh
        rw [Bool.and_eq_true] at hh
        exact hn.1 (List.mem_map.2 ⟨x, hx, of_decide_eq_true hh.2⟩)
      rw [this]; simp [hp]
    · have hne : a.path ≠ y.path := fun e => hn.1 (List.mem_map.2 ⟨y, hy, e.symm⟩)
      rw [ih hn.2 hy]; simp [hne]
theorem movesE_zero {es : List Edt} (h : movesE es = 0) : ∀ e ∈ es, moveOk es (editsOf es) e = true := by
  unfold movesE at h
  split at h
  · rename_i h1; exact fun e he => List.all_eq_true.1 h1 e he
  · cases h
theorem mv_new {d : Dep} {c : Chg} (h : appE d c = 0) {e : Edt} (he : e ∈ c.edits) :
    mvN (c.edits.map (madeR (lastOf d.revs) c.num)) (madeR (lastOf d.revs) c.num e) = if e.act = 4 ∨ e.act = 5 then 1 else 0 := by
  obtain ⟨h1, h2, h3, -, -⟩ := appE_zero h
  obtain ⟨p1, p2⟩ := everyE_paths h2
  have hm := movesE_zero h3 e he
  have hfr : ∀ x ∈ c.edits, x.act = 4 → x.fnum = (lastR (lastOf d.revs) x.frm).num := by
    intro x hx ha
    have := (oneE_zero (p2 x hx).2.2).2.2.1
    unfold fromE at this
    rw [if_pos ha] at this
    simp at this
    exact this.2
  unfold mvN
  rw [List.countP_map, List.countP_map]
  by_cases h5 : e.act = 5
  · have e1 : c.edits.countP (mv1 (madeR (lastOf d.revs) c.num e) ∘ madeR (lastOf d.revs) c.num) = arrivals c.edits e.path := by
      unfold arrivals
      refine List.countP_congr fun x hx => ?_
      rw [Function.comp_apply, mv1_iff, Bool.and_eq_true, decide_eq_true_eq, decide_eq_true_eq]
      constructor
      · rintro ⟨-, a, -, b, -⟩; exact ⟨a, b⟩
      · rintro ⟨a, b⟩
        refine ⟨rfl, a, h5, b, ?_⟩
        show x.fnum = (lastR (lastOf d.revs) e.path).num + 1 - 1
        rw [hfr x hx a, b]; omega
    have e2 : c.edits.countP (mv2 (madeR (lastOf d.revs) c.num e) ∘ madeR (lastOf d.revs) c.num) = 0 := by
      refine List.countP_eq_zero.2 fun x hx hh => ?_
      have h4 : e.act = 4 := ((mv2_iff _ _).1 hh).2.1
      omega
    rw [e1, e2]
    unfold moveOk at hm
    rw [if_pos h5] at hm
    simp at hm
    rw [hm, if_pos (.inr h5)]
  · have e1 : c.edits.countP (mv1 (madeR (lastOf d.revs) c.num e) ∘ madeR (lastOf d.revs) c.num) = 0 := by
      refine List.countP_eq_zero.2 fun x hx hh => ?_
      have h4 : e.act = 5 := ((mv1_iff _ _).1 hh).2.2.1
      omega
    by_cases h4 : e.act = 4
    · unfold moveOk at hm
      rw [if_neg h5, if_pos h4] at hm
      simp at hm
      cases hy : editsOf c.edits e.frm with
      | none => rw [hy] at hm; simp [zeroEdt] at hm
      | some y =>
        rw [hy] at hm
        simp at hm
        obtain ⟨y1, y2⟩ := editsOf_mem _ _ _ hy
        have e2 : c.edits.countP (mv2 (madeR (lastOf d.revs) c.num e) ∘ madeR (lastOf d.revs) c.num) = c.edits.countP (fun x => decide (x.act = 5) && decide (x.path = y.path)) := by
          refine List.countP_congr fun x hx => ?_
          rw [Function.comp_apply, mv2_iff, Bool.and_eq_true, decide_eq_true_eq, decide_eq_true_eq]
          constructor
          · rintro ⟨-, -, a, b, -⟩; exact ⟨a, y2 ▸ b.symm⟩
          · rintro ⟨a, b⟩
            refine ⟨rfl, h4, a, ?_, ?_⟩
            · show e.frm = x.path
              rw [b, y2]
            · show e.fnum = (lastR (lastOf d.revs) x.path).num + 1 - 1
              rw [hfr e he h4, b, y2]; omega
        rw [e1, e2, countP_path (paths_nodup p1) y1 (fun x => decide (x.act = 5)) (by simpa using hm), if_pos (.inl h4)]
    · have e2 : c.edits.countP (mv2 (madeR (lastOf d.revs) c.num e) ∘ madeR (lastOf d.revs) c.num) = 0 := by
        refine List.countP_eq_zero.2 fun x hx hh => ?_
        have : e.act = 4 := ((mv2_iff _ _).1 hh).2.1
        omega
      rw [e1, e2, if_neg (by omega)]
theorem mv_step {d : Dep} {c : Chg} (h : appE d c = 0) (hd : ∀ v ∈ d.revs, mvN d.revs v = if v.act = 4 ∨ v.act = 5 then 1 else 0) : ∀ v ∈ newRevs d c, mvN (newRevs d c) v = if v.act = 4 ∨ v.act = 5 then 1 else 0 := by
  have hs := (sizeE_zero (appE_zero h).1).2.2.2.2.2
  intro v hv
  unfold newRevs at hv ⊢
  rw [mvN_app]
  rcases List.mem_append.1 hv with hv | hv
  · rw [hd v hv, mvN_far (fun w hw => ?_)]
    · omega
    · obtain ⟨x, hx, rfl⟩ := List.mem_map.1 hw
      have := hs v hv
      simp only [madeR]; omega
  · obtain ⟨e, he, rfl⟩ := List.mem_map.1 hv
    rw [mv_new h he, mvN_far (fun w hw => ?_)]
    · rw [Nat.zero_add]; rfl
    · have := hs w hw
      simp only [madeR]; omega
theorem plays_moves {l : List Chg} {d : Dep} (h : Plays l d) : ∀ v ∈ d.revs, mvN d.revs v = if v.act = 4 ∨ v.act = 5 then 1 else 0 := by
  induction h with
  | nil => intro v hv; cases hv
  | skip _ _ ih => exact ih
  | step _ h0 _ _ ih => exact mv_step h0 ih

theorem lastM_at (f : ByteArray → Option Rev) (r : Rev) (q : ByteArray) : lastM f r q = if r.path = q then (match f q with
    | none => some r
    | some b => if b.num < r.num then some r else some b) else f q := by
  by_cases h : r.path = q
  · subst h
    rw [if_pos rfl]
    unfold lastM
    cases hf : f r.path with
    | none => simp [upd]
    | some b => by_cases hb : b.num < r.num <;> simp [hb, upd, hf]
  · rw [if_neg h]; exact lastM_other f r (fun e => h e.symm)
theorem greatest_lastOf {revs : List Rev} (q : ByteArray) (p : Rev → Bool) (hp : ∀ r ∈ revs, p r = true) : greatest revs q p = lastOf revs q := by
  suffices H : ∀ (l : List Rev) (o : Option Rev) (f : ByteArray → Option Rev), (∀ r ∈ l, p r = true) → o = f q → l.foldl (fun o r => if r.path = q ∧ p r = true then (match o with
    | none => some r
    | some b => if b.num < r.num then some r else some b) else o) o = l.foldl lastM f q by
    exact H revs none (fun _ => none) hp rfl
  intro l
  induction l with
  | nil => intro o f _ h; exact h
  | cons x l ih =>
    intro o f hp h
    rw [List.foldl_cons, List.foldl_cons]
    refine ih _ _ (fun r hr => hp r (List.mem_cons_of_mem _ hr)) ?_
    rw [lastM_at, hp x (List.mem_cons_self ..), h]
    by_cases hx : x.path = q
    · simp [hx]
    · simp [hx]
theorem greatest_app {a b : List Rev} (q : ByteArray) (p : Rev → Bool) (hb : ∀ r ∈ b, p r = false) : greatest (a ++ b) q p = greatest a q p := by
  unfold greatest
  rw [List.foldl_append]
  generalize a.foldl _ none = o
  induction b generalizing o with
  | nil => rfl
  | cons x b ih =>
    rw [List.foldl_cons, if_neg (by rw [hb x (List.mem_cons_self ..)]; simp)]
    exact ih (fun r hr => hb r (List.mem_cons_of_mem _ hr)) o
theorem whole_at {d : Dep} {c : Chg} (h : appE d c = 0) {e : Edt} (he : e ∈ c.edits) : greatest (newRevs d c) e.path (fun v : Rev => decide (v.chg ≤ c.num)) = some (madeR (lastOf d.revs) c.num e) ∧ (lastR (lastOf d.revs) e.path).num = e.base := by
  obtain ⟨h1, h2, -, -, -⟩ := appE_zero h
  obtain ⟨p1, p2⟩ := everyE_paths h2
  have hs := (sizeE_zero h1).2.2.2.2.2
  refine ⟨?_, (oneE_zero (p2 e he).2.2).2.1.symm⟩
  rw [greatest_lastOf _ _ (fun r hr => ?_)]
  · unfold newRevs
    rw [lastOf_app]
    exact lasts_made _ _ _ (paths_nodup p1) e he
  · unfold newRevs at hr
    rcases List.mem_append.1 hr with hr | hr
    · have := hs r hr; simp; omega
    · obtain ⟨x, -, rfl⟩ := List.mem_map.1 hr
      simp [madeR]
theorem whole_old {d : Dep} {c : Chg} (q : ByteArray) {m : Int} (hm : m < c.num) : greatest (newRevs d c) q (fun v : Rev => decide (v.chg ≤ m)) = greatest d.revs q (fun v : Rev => decide (v.chg ≤ m)) := by
  unfold newRevs
  refine greatest_app _ _ fun r hr => ?_
  obtain ⟨x, -, rfl⟩ := List.mem_map.1 hr
  exact decide_eq_false (show ¬ c.num ≤ m by omega)
end Go.Proofs.YtmhmnchdhacdbaaDoor
/- Plain: of all records of a change the reference says what the program says. -/
namespace Go.Proofs.YtmhmnchdhacdbaaDoor
open Go.RowKit
set_option linter.unusedVariables false
set_option linter.unusedSimpArgs false

/-- A record that the program's examination passes: its edit and its source. -/
theorem isRec_iff {d : Dep} {c : Chg} (h : DepOk d) (hs : ∀ r ∈ d.revs, r.chg < c.num) (h2 : everyE (lastOf d.revs) emptyS c.edits = 0) (x : Rcd) :
    isRec d.revs c.num (editsOf c.edits) x = true ↔ ∃ t, tgt c.edits x = some t ∧ 1 ≤ x.how ∧ x.how ≤ 4 ∧ (1 ≤ x.first ∧ x.first ≤ x.last ∧ x.last ≤ (logOf d.revs x.frm).length) ∧ refSteps d.revs x = true ∧ ¬ (t.act ≠ 1 ∧ rFirst d.revs ((rPrev d.revs (madeR (lastOf d.revs) c.num t)).getD zeroRev) = refLine d.revs x) ∧ refCopy d.revs t x = true := by
  obtain ⟨p1, p2⟩ := everyE_paths h2
  have hn := paths_nodup p1
  have hcopy : ∀ (t : Edt) (v : Rev), rGet d.revs x.frm x.last = some v → v.act ≠ 5 → ((if x.how = 1 then (if v.act = 3 then decide (t.act = 3) else (!decide (t.act = 3)) && decide (t.ty = v.ty) && decide (t.sum = v.sum) && decide (t.size = v.size)) else true) = true ↔ refCopy d.revs t x = true) := by
    intro t v hv h5
    have ha : atR d.revs x.frm x.last = v := by unfold atR; rw [hv]; rfl
    unfold refCopy
    rw [ha]
    by_cases h1 : x.how = 1
    · rw [if_pos h1, if_pos h1]
      by_cases h3 : v.act = 3
      · rw [if_pos h3]
        by_cases t3 : t.act = 3 <;> simp [h3, t3]
      · rw [if_neg h3]
        by_cases t3 : t.act = 3
        · simp [h3, t3]
        · simp only [h3, t3, decide_false, Bool.not_false, Bool.true_and, BEq.rfl, Bool.false_or, Bool.and_eq_true, decide_eq_true_eq]
          constructor
          · rintro ⟨⟨a, b⟩, c⟩; exact ⟨⟨a.symm, b.symm⟩, c.symm⟩
          · rintro ⟨⟨a, b⟩, c⟩; exact ⟨⟨a.symm, b.symm⟩, c.symm⟩
    · rw [if_neg h1, if_neg h1]
  have hsrc : ∀ (t : Edt), t ∈ c.edits → t.act ≠ 5 → ∀ v, (sourceR d.revs x (lineV (linesOf d.revs) (madeR (lastOf d.revs) c.num t)) = some v ↔ (rGet d.revs x.frm x.last = some v ∧ (1 ≤ x.first ∧ x.first ≤ x.last ∧ x.last ≤ (logOf d.revs x.frm).length) ∧ refSteps d.revs x = true ∧ ¬ (t.act ≠ 1 ∧ rFirst d.revs ((rPrev d.revs (madeR (lastOf d.revs) c.num t)).getD zeroRev) = refLine d.revs x))) := by
    intro t ht h5 v
    rw [source_iff h]
    constructor
    · rintro ⟨a, b1, b2, b3, b4, b5⟩
      refine ⟨a, ⟨b1, b2, b3⟩, b4, fun hh => b5 ?_⟩
      have hv := (rGet_mem a).1
      have hl : refLine d.revs x = rFirst d.revs v := by unfold refLine atR; rw [a]; rfl
      exact (target_line h hs h2 ht h5 hv hl).2 hh
    · rintro ⟨a, ⟨b1, b2, b3⟩, b4, b5⟩
      refine ⟨a, b1, b2, b3, b4, fun hh => b5 ?_⟩
      have hv := (rGet_mem a).1
      have hl : refLine d.revs x = rFirst d.revs v := by unfold refLine atR; rw [a]; rfl
      exact (target_line h hs h2 ht h5 hv hl).1 hh
  have hact : ∀ v, rGet d.revs x.frm x.last = some v → refSteps d.revs x = true → (1 ≤ x.first ∧ x.first ≤ x.last) → v.act ≠ 5 := by
    intro v hv hst hb
    unfold refSteps at hst
    have := List.all_eq_true.1 hst (x.last - x.first).toNat (List.mem_range.2 (by omega))
    rw [show x.first + ((x.last - x.first).toNat : Int) = x.last by omega, Bool.and_eq_true, decide_eq_true_eq] at this
    have h1 := this.1
    unfold atR at h1
    rw [hv] at h1
    exact h1
  constructor
  · intro hi
    unfold isRec at hi
    cases he : editsOf c.edits x.to with
    | none => rw [he] at hi; cases hi
    | some t =>
      rw [he] at hi
      simp only at hi
      obtain ⟨k1, k2⟩ := editsOf_mem _ _ _ he
      split at hi
      · cases hi
      · rename_i hb
        have h5 : t.act ≠ 5 := by omega
        cases hS : sourceR d.revs x (lineV (linesOf d.revs) (madeR (lastOf d.revs) c.num t)) with
        | none => rw [hS] at hi; cases hi
        | some v =>
          rw [hS] at hi
          simp only at hi
          obtain ⟨a, b, e, f⟩ := (hsrc t k1 h5 v).1 hS
          exact ⟨t, tgt_has hn k1 k2 (by omega) h5, by omega, by omega, b, e, f, (hcopy t v a (hact v a e ⟨b.1, b.2.1⟩)).1 hi⟩
  · rintro ⟨t, ht, w1, w2, b, e, f, g⟩
    obtain ⟨k1, k2, k3, k4⟩ := tgt_mem ht
    have he := editsOf_has hn k1
    rw [k2] at he
    obtain ⟨v, hv⟩ := ((h.log x.frm).rget_in x.last).2 ⟨by omega, b.2.2⟩
    have hS := (hsrc t k1 k4 v).2 ⟨hv, b, e, f⟩
    unfold isRec
    rw [he]
    simp only
    rw [if_neg (by omega), hS]
    exact (hcopy t v hv (hact v hv e ⟨b.1, b.2.1⟩)).2 g
/-- An edit that leaves its file as it is. -/
theorem unchanged_iff {d : Dep} {c : Chg} (h : DepOk d) (h2 : everyE (lastOf d.revs) emptyS c.edits = 0) {t : Edt} (ht : t ∈ c.edits) : unchanged (lastOf d.revs) t = true ↔ (decide (t.act = 2) && decide (t.ty = (atR d.revs t.path t.base).ty) && decide (t.sum = (atR d.revs t.path t.base).sum) && decide (t.size = (atR d.revs t.path t.base).size)) = true := by
  obtain ⟨o1, o2, -, -⟩ := oneE_zero ((everyE_paths h2).2 t ht).2.2
  by_cases a2 : t.act = 2
  · have hadd := actE_zero o1
    have hna : addA t.act = false := by rw [a2]; rfl
    rw [hna] at hadd
    have hlv : isLast (lastOf d.revs) t.path = true := by simpa using hadd.symm
    unfold isLast at hlv
    cases hx : lastOf d.revs t.path with
    | none => rw [hx] at hlv; cases hlv
    | some u =>
      obtain ⟨b1, b2, b3⟩ := last_in (h.log _) hx
      have hR : lastR (lastOf d.revs) t.path = u := by unfold lastR; rw [hx]; rfl
      have hA : atR d.revs t.path t.base = u := by
        unfold atR; rw [o2, hR, b3]; rfl
      unfold unchanged
      rw [hR, hA]
  · unfold unchanged
    simp [a2]
theorem refRec_split {D : List Rev} {c : Chg} {x : Rcd} : refRec D c x = true ↔ ∃ t, tgt c.edits x = some t ∧ 1 ≤ x.how ∧ x.how ≤ 4 ∧ (1 ≤ x.first ∧ x.first ≤ x.last ∧ x.last ≤ (logOf D x.frm).length) ∧ refSteps D x = true ∧ ¬ (t.act ≠ 1 ∧ rFirst D ((rPrev D (madeR (lastOf D) c.num t)).getD zeroRev) = refLine D x) ∧ refCopy D t x = true ∧ refIgn D c.recs t x = true := by
  unfold refRec
  cases tgt c.edits x with
  | none => simp
  | some t =>
    simp only [Bool.and_eq_true, decide_eq_true_eq, Bool.or_eq_true, Bool.not_eq_true', decide_eq_false_iff_not, Option.some.injEq]
    constructor
    · rintro ⟨⟨a, b⟩, ⟨⟨⟨c1, c2⟩, c3⟩, c4⟩, c5⟩
      exact ⟨t, rfl, a, b, c1, c2, fun hh => by rcases c3 with c3 | c3; exact hh.1 c3; exact c3 hh.2, c4, c5⟩
    · rintro ⟨t', rfl, a, b, c1, c2, c3, c4, c5⟩
      refine ⟨⟨a, b⟩, ⟨⟨⟨c1, c2⟩, ?_⟩, c4⟩, c5⟩
      by_cases h1 : t.act = 1
      · exact .inl h1
      · exact .inr fun hh => c3 ⟨h1, hh⟩
/-- A record that the reference passes is passed by the program. -/
theorem recOk_of_ref {d : Dep} {c : Chg} (h : DepOk d) (hs : ∀ r ∈ d.revs, r.chg < c.num) (h2 : everyE (lastOf d.revs) emptyS c.edits = 0) {x : Rcd} (hr : refRec d.revs c x = true) : recOk d.revs c (editsOf c.edits) x = true := by
  obtain ⟨t, a, b1, b2, b3, b4, b5, b6, b7⟩ := refRec_split.1 hr
  obtain ⟨k1, k2, k3, k4⟩ := tgt_mem a
  have hn := paths_nodup (everyE_paths h2).1
  unfold recOk
  rw [Bool.and_eq_true, Bool.or_eq_true]
  refine ⟨(isRec_iff h hs h2 x).2 ⟨t, a, b1, b2, b3, b4, b5, b6⟩, ?_⟩
  unfold refIgn at b7
  cases hi : ignB c.recs x with
  | true =>
    rw [hi, if_pos rfl] at b7
    right
    have he := editsOf_has hn k1
    rw [k2] at he
    rw [he]
    refine (unchanged_iff h h2 k1).2 ?_
    rw [k2]; exact b7
  | false =>
    left
    unfold ignB at hi
    rw [List.all_eq_false] at hi
    obtain ⟨y, hy, hh⟩ := hi
    unfold worked
    rw [List.any_eq_true]
    refine ⟨y, hy, ?_⟩
    simp only [decide_eq_true_eq, not_or, Decidable.not_not] at hh
    rw [Bool.and_eq_true, decide_eq_true_eq, decide_eq_true_eq]
    exact ⟨hh.2.2, hh.1⟩
/-- Where the program passes all records the reference passes each. -/
theorem ref_of_recOk {d : Dep} {c : Chg} (h : DepOk d) (hs : ∀ r ∈ d.revs, r.chg < c.num) (h2 : everyE (lastOf d.revs) emptyS c.edits = 0) (hall : ∀ y ∈ c.recs, recOk d.revs c (editsOf c.edits) y = true) {x : Rcd} (hx : x ∈ c.recs) : refRec d.revs c x = true := by
  have hn := paths_nodup (everyE_paths h2).1
  have hget : ∀ y ∈ c.recs, ∃ t, tgt c.edits y = some t ∧ 1 ≤ y.how ∧ y.how ≤ 4 ∧ (1 ≤ y.first ∧ y.first ≤ y.last ∧ y.last ≤ (logOf d.revs y.frm).length) ∧ refSteps d.revs y = true ∧ ¬ (t.act ≠ 1 ∧ rFirst d.revs ((rPrev d.revs (madeR (lastOf d.revs) c.num t)).getD zeroRev) = refLine d.revs y) ∧ refCopy d.revs t y = true := by
    intro y hy
    have := hall y hy
    unfold recOk at this
    rw [Bool.and_eq_true] at this
    exact (isRec_iff h hs h2 y).1 this.1
  obtain ⟨t, a, b1, b2, b3, b4, b5, b6⟩ := hget x hx
  obtain ⟨k1, k2, k3, k4⟩ := tgt_mem a
  refine refRec_split.2 ⟨t, a, b1, b2, b3, b4, b5, b6, ?_⟩
  unfold refIgn
  cases hi : ignB c.recs x with
  | false => rw [if_neg (by decide)]
  | true =>
    rw [if_pos rfl]
    have h1 := hall x hx
    unfold recOk at h1
    rw [Bool.and_eq_true, Bool.or_eq_true] at h1
    rcases h1.2 with hw | hu
    · exfalso
      unfold worked at hw
      rw [List.any_eq_true] at hw
      obtain ⟨y, hy, hh⟩ := hw
      rw [Bool.and_eq_true, decide_eq_true_eq, decide_eq_true_eq] at hh
      obtain ⟨t2, e1, -⟩ := hget y hy
      obtain ⟨q1, q2, q3, -⟩ := tgt_mem e1
      have e2 := editsOf_has hn q1
      have e3 := editsOf_has hn k1
      rw [q2, hh.2] at e2
      rw [k2, e2] at e3
      injection e3 with e3
      subst e3
      unfold ignB at hi
      have := List.all_eq_true.1 hi y hy
      simp only [decide_eq_true_eq] at this
      rcases this with g | g | g
      · exact g hh.2
      · omega
      · exact hh.1 g
    · have he := editsOf_has hn k1
      rw [k2] at he
      rw [he] at hu
      have := (unchanged_iff h h2 k1).1 hu
      rw [k2] at this
      exact this
/-- The reference's counting of moves. -/
def movedN (es : List Edt) (x : Edt) : Nat := es.countP fun y => (decide (x.act = 5) && decide (y.act = 4) && decide (y.frm = x.path)) || (decide (x.act = 4) && decide (y.act = 5) && decide (y.path = x.frm))
def movedB (es : List Edt) (x : Edt) : Bool := decide (movedN es x = 1) || (decide (x.act ≠ 5) && decide (x.act ≠ 4))
theorem moved_iff {es : List Edt} (hn : (es.map (·.path)).Nodup) {x : Edt} (hx : x ∈ es) : movedB es x = moveOk es (editsOf es) x := by
  unfold movedB moveOk movedN
  by_cases h5 : x.act = 5
  · rw [if_pos h5]
    have : (es.countP fun y => (decide (x.act = 5) && decide (y.act = 4) && decide (y.frm = x.path)) || (decide (x.act = 4) && decide (y.act = 5) && decide (y.path = x.frm))) = arrivals es x.path := by
      unfold arrivals
      refine List.countP_congr fun y hy => ?_
      simp [h5]
    rw [this]
    simp [h5]
  · rw [if_neg h5]
    by_cases h4 : x.act = 4
    · rw [if_pos h4]
      have hc : (es.countP fun y => (decide (x.act = 5) && decide (y.act = 4) && decide (y.frm = x.path)) || (decide (x.act = 4) && decide (y.act = 5) && decide (y.path = x.frm))) = es.countP fun y => decide (y.act = 5) && decide (y.path = x.frm) := by
        refine List.countP_congr fun y hy => ?_
        simp [h4]
      rw [hc]
      cases he : editsOf es x.frm with
      | none =>
        have h0 : (es.countP fun y => decide (y.act = 5) && decide (y.path = x.frm)) = 0 := by
          rw [List.countP_eq_zero]
          intro y hy hh
          rw [Bool.and_eq_true, decide_eq_true_eq, decide_eq_true_eq] at hh
          have := editsOf_has hn hy
          rw [hh.2, he] at this
          cases this
        rw [h0]
        simp [h4, zeroEdt]
      | some z =>
        obtain ⟨z1, z2⟩ := editsOf_mem _ _ _ he
        simp only [Option.getD_some]
        by_cases z5 : z.act = 5
        · have := countP_path hn z1 (fun y => decide (y.act = 5)) (by simpa using z5)
          rw [z2] at this
          rw [this]
          simp [z5]
        · have h0 : (es.countP fun y => decide (y.act = 5) && decide (y.path = x.frm)) = 0 := by
            rw [List.countP_eq_zero]
            intro y hy hh
            rw [Bool.and_eq_true, decide_eq_true_eq, decide_eq_true_eq] at hh
            have e2 := editsOf_has hn hy
            rw [hh.2, he] at e2
            injection e2 with e2
            rw [e2] at z5
            exact z5 hh.1
          rw [h0]
          simp [h4, z5]
    · rw [if_neg h4]
      simp [h5, h4]
end Go.Proofs.YtmhmnchdhacdbaaDoor
/- The reference's Log, Last, Get, Gone, Live, Previous, First: the walks. -/
namespace Go.Proofs.YtmhmnchdhacdbaaDoor
open Go.RowKit
set_option linter.unusedVariables false
set_option linter.unusedSimpArgs false

theorem log_take (revs : List Rev) (p : ByteArray) (k : Nat) (h : k < revs.length) : logOf (revs.take (k + 1)) p = logOf (revs.take k) p ++ (if revs[k].path = p then [revs[k]] else []) := by
  rw [List.take_succ_eq_append_getElem h, log_app]
  congr 1
  unfold logOf
  rw [List.filter_cons]
  by_cases e : revs[k].path = p
  · simp [e]
  · simp [e]
theorem log_len (revs : List Rev) (p : ByteArray) : (logOf revs p).length ≤ revs.length := List.length_filter_le ..
theorem rev_oneC (x : Rev) : ∀ v ∈ x.cells, v.oneCell' = true := by
  intro v hv
  simp only [Rev.cells, List.mem_cons, List.not_mem_nil, or_false] at hv
  rcases hv with rfl | rfl | rfl | rfl | rfl | rfl | rfl | rfl | rfl | rfl | rfl | rfl <;> rfl
/-- What the reference's Log leaves. -/
def RLogPost (w : World) (revs : List Rev) (p : ByteArray) (e : Ending) (w' : World) : Prop := ∃ A c, e = .returned (.slice A (logOf revs p).length c) ∧ Below w.heap.size w w' ∧ Revs w' (.slice A (logOf revs p).length c) (logOf revs p)
set_option maxRecDepth 100000 in
set_option maxHeartbeats 4000000 in
theorem refLog_any (revs : List Rev) (p : ByteArray) (dv dr : Value) (w : World) (hR : Revs w dv revs) (hl : revs.length ≤ 1000000) :
    Calls Tryd.prog 61 #[.agg #[dv, dr], .string p] w (RLogPost w revs p) := by
  obtain ⟨Ar, cr, rfl, hcr, hmr, -⟩ := id hR
  have HR := Lib.hid hR
  clear hR
  unfold maxLen at hmr
  go_enter Tryd.func61, Tryd.ntmps61
  have hB := blk_new w [.slice Ar revs.length cr, dr] 31
  have hA : Below w.heap.size w (w.alloc (.cells #[.slice Ar revs.length cr, dr] 31)) := (Below.refl _ _).alloc (Nat.le_refl _) _
  go_upto_region 2 with fail
  generalize w.alloc (.cells #[.slice Ar revs.length cr, dr] 31) = W1 at hB hA ⊢
  obtain ⟨d0, -, -, -⟩ := box2 hB
  have HA := Lib.hid hA
  clear hA hB
  go_wp2_with fail
  clear d0
  go_loopw [5, 11] (fun u s wr => ∃ (k n : Nat) (A : Option Addr) (c : Nat), s = .int .i64 k ∧ u = .slice A n c ∧ k ≤ revs.length ∧ n ≤ k ∧ Hid (n = (logOf (revs.take k) p).length ∧ Below W1.heap.size W1 wr ∧ wr.ownsRow W1.heap.size 45 12 (.slice A n c) n ((logOf (revs.take k) p).flatMap Rev.cells))) (fun _ s _ => revs.length - (intOf s).toNat)
  case atStart => exact ⟨0, 0, none, 0, rfl, rfl, Nat.zero_le _, Nat.le_refl _, rfl, Below.refl _ _, World.ownsRow_nil _ _ _ _⟩
  case round =>
    obtain ⟨k, n, A, c, rfl, rfl, hk, hnk, HI⟩ := hrel
    by_cases hlt : k < revs.length
    · obtain ⟨ad, rfl, hab, hld⟩ := Revs.at_ (HR.out.below (below_next HA.out HI.out.2.1)) hlt
      have HT := Lib.hid (log_take revs p k hlt)
      generalize revs[k] = r at hld HT
      obtain ⟨x0, x1, x2, x3, x4, x5, x6, x7, x8, x9, x10, x11⟩ := hld
      have hX := blk_new wr [.string r.path, .int .i64 r.num, .int .i64 r.chg, .int .i64 r.act, .int .i64 r.ty.base, .bool r.ty.k, .bool r.ty.l, .bool r.ty.x, .int .u64 r.sum, .int .i64 r.size, .string r.frm, .int .i64 r.fnum] 45
      have hA1 : Below wr.heap.size wr (wr.alloc (.cells #[.string r.path, .int .i64 r.num, .int .i64 r.chg, .int .i64 r.act, .int .i64 r.ty.base, .bool r.ty.k, .bool r.ty.l, .bool r.ty.x, .int .u64 r.sum, .int .i64 r.size, .string r.frm, .int .i64 r.fnum] 45)) := (Below.refl _ _).alloc (Nat.le_refl _) _
      go_upto_region 5 with fail
      clear x0 x1 x2 x3 x4 x5 x6 x7 x8 x9 x10 x11
      generalize wr.alloc (.cells #[.string r.path, .int .i64 r.num, .int .i64 r.chg, .int .i64 r.act, .int .i64 r.ty.base, .bool r.ty.k, .bool r.ty.l, .bool r.ty.x, .int .u64 r.sum, .int .i64 r.size, .string r.frm, .int .i64 r.fnum] 45) = V1 at hX hA1 ⊢
      obtain ⟨y0, y1, y2, y3, y4, y5, y6, y7, y8, y9, y10, y11⟩ := box12 hX
      by_cases hp : r.path = p
      · have q := str_eqB r.path p
        rw [decide_eq_true hp] at q
        rw [if_pos hp] at HT
        have HN : Hid (n = (logOf (revs.take k) p).length ∧ Below W1.heap.size W1 V1 ∧ V1.ownsRow W1.heap.size 45 12 (.slice A n c) n ((logOf (revs.take k) p).flatMap Rev.cells)) := Lib.hid ⟨HI.out.1, below_next HI.out.2.1 hA1, own_below HI.out.2.2 hA1⟩
        clear hX hA1 hp
        go_wp2_with (at_builtin; refine wpList_push rfl rfl revElem ((own_below HN.out.2.2 ((Below.refl _ _).alloc (Nat.le_refl _) _))) rfl (row_new V1 [.string r.path, .int .i64 r.num, .int .i64 r.chg, .int .i64 r.act, .int .i64 r.ty.base, .bool r.ty.k, .bool r.ty.l, .bool r.ty.x, .int .u64 r.sum, .int .i64 r.size, .string r.frm, .int .i64 r.fnum] _ 12 1 rfl (by decide) _ rfl) rfl (HN.out.2.1.alloc HN.out.2.1.size _) (HN.out.2.1.alloc HN.out.2.1.size _).size (rev_oneC r) (by omega) (by unfold maxLen; omega) ?_; intro A' c' w2 hown2 hbl2)
        have HO2 := Lib.hid hown2
        have HB2 := Lib.hid hbl2
        clear y0 y1 y2 y3 y4 y5 y6 y7 y8 y9 y10 y11 hown2 hbl2
        go_wp2_with fail
        go_roundw
        case rel =>
          refine ⟨k + 1, n + 1, A', c', by go_num, rfl, by omega, by omega, ?_, HB2.out, ?_⟩
          · rw [HT.out, List.length_append, List.length_singleton, ← HN.out.1]
          · rw [HT.out, List.flatMap_append, List.flatMap_cons, List.flatMap_nil, List.append_nil]
            exact HO2.out
        case measure => simp [intOf]; omega
      · have q := str_eqB r.path p
        rw [decide_eq_false hp] at q
        rw [if_neg hp, List.append_nil] at HT
        have HN : Hid (n = (logOf (revs.take (k + 1)) p).length ∧ Below W1.heap.size W1 V1 ∧ V1.ownsRow W1.heap.size 45 12 (.slice A n c) n ((logOf (revs.take (k + 1)) p).flatMap Rev.cells)) := Lib.hid (by rw [HT.out]; exact ⟨HI.out.1, below_next HI.out.2.1 hA1, own_below HI.out.2.2 hA1⟩)
        clear hX hA1 hp HT
        go_wp2_with fail
        go_roundw
        case rel => exact ⟨k + 1, n, A, c, by go_num, rfl, by omega, by omega, HN.out⟩
        case measure => simp [intOf]; omega
    · have hke : k = revs.length := by omega
      have HF : Hid (n = (logOf revs p).length ∧ Below W1.heap.size W1 wr ∧ wr.ownsRow W1.heap.size 45 12 (.slice A n c) n ((logOf revs p).flatMap Rev.cells)) := Lib.hid (by
        have := HI.out
        rwa [hke, List.take_length] at this)
      clear HI hke
      go_wp2_with fail
      go_ret
      obtain ⟨hn, h1, h2⟩ := HF.out
      subst hn
      exact ⟨A, c, rfl, below_next HA.out h1, Row.of_own h2⟩

/-- What a function leaves that returns a revision, or none. -/
def RevPost (w : World) (o : Option Rev) (e : Ending) (w' : World) : Prop := e = .returned (.tuple #[.agg #[.string (someR o).path, .int .i64 (someR o).num, .int .i64 (someR o).chg, .int .i64 (someR o).act, .int .i64 (someR o).ty.base, .bool (someR o).ty.k, .bool (someR o).ty.l, .bool (someR o).ty.x, .int .u64 (someR o).sum, .int .i64 (someR o).size, .string (someR o).frm, .int .i64 (someR o).fnum], .bool o.isSome]) ∧ Below w.heap.size w w'
set_option maxRecDepth 100000 in
set_option maxHeartbeats 4000000 in
theorem refLast_any (revs : List Rev) (p : ByteArray) (dv dr : Value) (w : World) (hR : Revs w dv revs) (hl : revs.length ≤ 1000000) :
    Calls Tryd.prog 59 #[.agg #[dv, dr], .string p] w (RevPost w (rLast revs p)) := by
  obtain ⟨Ar, cr, rfl, -⟩ := id hR
  have HR := Lib.hid hR
  clear hR
  have HLN := Lib.hid (log_len revs p)
  go_enter Tryd.func59, Tryd.ntmps59
  have hb0 : Below w.heap.size w ((w.alloc (.cells #[.slice Ar revs.length cr, dr] 31)).alloc (.cells #[.string ⟨#[]⟩, .int .i64 0, .int .i64 0, .int .i64 0, .int .i64 0, .bool false, .bool false, .bool false, .int .u64 0, .int .i64 0, .string ⟨#[]⟩, .int .i64 0] 45)) := ((Below.refl _ _).alloc (Nat.le_refl _) _).alloc (by simp) _
  have hZ : Blk ((w.alloc (.cells #[.slice Ar revs.length cr, dr] 31)).alloc (.cells #[.string ⟨#[]⟩, .int .i64 0, .int .i64 0, .int .i64 0, .int .i64 0, .bool false, .bool false, .bool false, .int .u64 0, .int .i64 0, .string ⟨#[]⟩, .int .i64 0] 45)) (w.heap.size + 1) 45 [.string ⟨#[]⟩, .int .i64 0, .int .i64 0, .int .i64 0, .int .i64 0, .bool false, .bool false, .bool false, .int .u64 0, .int .i64 0, .string ⟨#[]⟩, .int .i64 0] := by
    have h1 := blk_new (w.alloc (.cells #[.slice Ar revs.length cr, dr] 31)) [.string ⟨#[]⟩, .int .i64 0, .int .i64 0, .int .i64 0, .int .i64 0, .bool false, .bool false, .bool false, .int .u64 0, .int .i64 0, .string ⟨#[]⟩, .int .i64 0] 45
    simp only [World.size_alloc] at h1
    exact h1
  have hB : Blk ((w.alloc (.cells #[.slice Ar revs.length cr, dr] 31)).alloc (.cells #[.string ⟨#[]⟩, .int .i64 0, .int .i64 0, .int .i64 0, .int .i64 0, .bool false, .bool false, .bool false, .int .u64 0, .int .i64 0, .string ⟨#[]⟩, .int .i64 0] 45)) w.heap.size 31 [.slice Ar revs.length cr, dr] := (blk_new w _ _).alloc _
  go_upto_region 1 with fail
  generalize (w.alloc (.cells #[.slice Ar revs.length cr, dr] 31)).alloc (.cells #[.string ⟨#[]⟩, .int .i64 0, .int .i64 0, .int .i64 0, .int .i64 0, .bool false, .bool false, .bool false, .int .u64 0, .int .i64 0, .string ⟨#[]⟩, .int .i64 0] 45) = W1 at hb0 hZ hB ⊢
  obtain ⟨d0, d1, -, -⟩ := box2 hB
  have HL := Lib.hid (refLog_any revs p (.slice Ar revs.length cr) dr W1 (HR.out.below hb0) hl)
  have Hb0 := Lib.hid hb0
  have HZ := Lib.hid hZ
  clear hb0 hZ hB
  go_wp2_with fail
  refine HL.out.mono ?_
  rintro e w2 ⟨A, c, rfl, hb2, hL⟩
  clear d0 d1
  have HB2 := Lib.hid hb2
  have HLL := Lib.hid hL
  have hZ2 := HZ.out.below hb2 HZ.out.lt
  obtain ⟨z0, z1, z2, z3, z4, z5, z6, z7, z8, z9, z10, z11⟩ := box12 hZ2
  obtain ⟨y0, y1, y2, y3, y4, y5, y6, y7, y8, y9, y10, y11⟩ := frz12 hZ2
  clear hb2 hL HL
  have HRL : Hid (rLast revs p = (logOf revs p).getLast?) := Lib.hid rfl
  have hll : (logOf revs p).length ≤ revs.length := HLN.out
  generalize logOf revs p = L at HLL hll HRL ⊢
  by_cases h0 : L.length = 0
  · have HN : Hid (rLast revs p = none) := Lib.hid (by rw [HRL.out, List.length_eq_zero_iff.1 h0]; rfl)
    have q : ((L.length : Int) == 0) = true := by rw [beq_iff_eq]; omega
    clear h0
    go_wp2_with fail
    have hZ9 : Blk ((((((((((((w2.setCell ⟨w.heap.size + 1, 0, none⟩ (.string ⟨#[]⟩)).setCell ⟨w.heap.size + 1, 1, none⟩ (.int .i64 0)).setCell ⟨w.heap.size + 1, 2, none⟩ (.int .i64 0)).setCell ⟨w.heap.size + 1, 3, none⟩ (.int .i64 0)).setCell ⟨w.heap.size + 1, 4, none⟩ (.int .i64 0)).setCell ⟨w.heap.size + 1, 5, none⟩ (.bool false)).setCell ⟨w.heap.size + 1, 6, none⟩ (.bool false)).setCell ⟨w.heap.size + 1, 7, none⟩ (.bool false)).setCell ⟨w.heap.size + 1, 8, none⟩ (.int .u64 0)).setCell ⟨w.heap.size + 1, 9, none⟩ (.int .i64 0)).setCell ⟨w.heap.size + 1, 10, none⟩ (.string ⟨#[]⟩)).setCell ⟨w.heap.size + 1, 11, none⟩ (.int .i64 0)) (w.heap.size + 1) 45 [.string ⟨#[]⟩, .int .i64 0, .int .i64 0, .int .i64 0, .int .i64 0, .bool false, .bool false, .bool false, .int .u64 0, .int .i64 0, .string ⟨#[]⟩, .int .i64 0] := set12 hZ2 zeroRev
    have hB9 : Below w.heap.size w ((((((((((((w2.setCell ⟨w.heap.size + 1, 0, none⟩ (.string ⟨#[]⟩)).setCell ⟨w.heap.size + 1, 1, none⟩ (.int .i64 0)).setCell ⟨w.heap.size + 1, 2, none⟩ (.int .i64 0)).setCell ⟨w.heap.size + 1, 3, none⟩ (.int .i64 0)).setCell ⟨w.heap.size + 1, 4, none⟩ (.int .i64 0)).setCell ⟨w.heap.size + 1, 5, none⟩ (.bool false)).setCell ⟨w.heap.size + 1, 6, none⟩ (.bool false)).setCell ⟨w.heap.size + 1, 7, none⟩ (.bool false)).setCell ⟨w.heap.size + 1, 8, none⟩ (.int .u64 0)).setCell ⟨w.heap.size + 1, 9, none⟩ (.int .i64 0)).setCell ⟨w.heap.size + 1, 10, none⟩ (.string ⟨#[]⟩)).setCell ⟨w.heap.size + 1, 11, none⟩ (.int .i64 0)) := below12 (below_next Hb0.out HB2.out) (show w.heap.size ≤ w.heap.size + 1 by omega) zeroRev
    generalize ((((((((((((w2.setCell ⟨w.heap.size + 1, 0, none⟩ (.string ⟨#[]⟩)).setCell ⟨w.heap.size + 1, 1, none⟩ (.int .i64 0)).setCell ⟨w.heap.size + 1, 2, none⟩ (.int .i64 0)).setCell ⟨w.heap.size + 1, 3, none⟩ (.int .i64 0)).setCell ⟨w.heap.size + 1, 4, none⟩ (.int .i64 0)).setCell ⟨w.heap.size + 1, 5, none⟩ (.bool false)).setCell ⟨w.heap.size + 1, 6, none⟩ (.bool false)).setCell ⟨w.heap.size + 1, 7, none⟩ (.bool false)).setCell ⟨w.heap.size + 1, 8, none⟩ (.int .u64 0)).setCell ⟨w.heap.size + 1, 9, none⟩ (.int .i64 0)).setCell ⟨w.heap.size + 1, 10, none⟩ (.string ⟨#[]⟩)).setCell ⟨w.heap.size + 1, 11, none⟩ (.int .i64 0)) = W9 at hZ9 hB9 ⊢
    obtain ⟨e0, e1, e2, e3, e4, e5, e6, e7, e8, e9, e10, e11⟩ := box12 hZ9
    exact bodyPost_ret (v := .tuple #[.agg #[.string ⟨#[]⟩, .int .i64 0, .int .i64 0, .int .i64 0, .int .i64 0, .bool false, .bool false, .bool false, .int .u64 0, .int .i64 0, .string ⟨#[]⟩, .int .i64 0], .bool false]) (by simp [results, Tryd.results59, go_sem, e0, e1, e2, e3, e4, e5, e6, e7, e8, e9, e10, e11]) rfl ⟨by rw [HN.out]; rfl, hB9⟩
  · have hk : L.length - 1 < L.length := by omega
    obtain ⟨ad, rfl, hab, hld⟩ := Revs.at_ HLL.out hk
    have HN : Hid (rLast revs p = some L[L.length - 1]) := Lib.hid (by rw [HRL.out, List.getLast?_eq_getElem?, List.getElem?_eq_getElem hk])
    have q : ((L.length : Int) == 0) = false := by rw [beq_eq_false_iff_ne]; omega
    obtain ⟨j, hj⟩ : ∃ j : Nat, j = L.length - 1 := ⟨_, rfl⟩
    have hjz : (L.length : Int) - 1 = (j : Int) := by omega
    have hjl : (j : Int) < (L.length : Int) := by omega
    have hj0 : 0 ≤ (j : Int) := by omega
    generalize L[L.length - 1] = r at hld HN
    rw [← hj] at hld
    obtain ⟨x0, x1, x2, x3, x4, x5, x6, x7, x8, x9, x10, x11⟩ := hld
    clear h0 hk hj
    go_wp2_with fail
    have hZ9 := set12 hZ2 r
    have hB9 := below12 (below_next Hb0.out HB2.out) (show w.heap.size ≤ w.heap.size + 1 by omega) r
    generalize ((((((((((((w2.setCell ⟨w.heap.size + 1, 0, none⟩ (.string r.path)).setCell ⟨w.heap.size + 1, 1, none⟩ (.int .i64 r.num)).setCell ⟨w.heap.size + 1, 2, none⟩ (.int .i64 r.chg)).setCell ⟨w.heap.size + 1, 3, none⟩ (.int .i64 r.act)).setCell ⟨w.heap.size + 1, 4, none⟩ (.int .i64 r.ty.base)).setCell ⟨w.heap.size + 1, 5, none⟩ (.bool r.ty.k)).setCell ⟨w.heap.size + 1, 6, none⟩ (.bool r.ty.l)).setCell ⟨w.heap.size + 1, 7, none⟩ (.bool r.ty.x)).setCell ⟨w.heap.size + 1, 8, none⟩ (.int .u64 r.sum)).setCell ⟨w.heap.size + 1, 9, none⟩ (.int .i64 r.size)).setCell ⟨w.heap.size + 1, 10, none⟩ (.string r.frm)).setCell ⟨w.heap.size + 1, 11, none⟩ (.int .i64 r.fnum)) = W9 at hZ9 hB9 ⊢
    obtain ⟨e0, e1, e2, e3, e4, e5, e6, e7, e8, e9, e10, e11⟩ := box12 hZ9
    exact bodyPost_ret (v := .tuple #[.agg #[.string r.path, .int .i64 r.num, .int .i64 r.chg, .int .i64 r.act, .int .i64 r.ty.base, .bool r.ty.k, .bool r.ty.l, .bool r.ty.x, .int .u64 r.sum, .int .i64 r.size, .string r.frm, .int .i64 r.fnum], .bool true]) (by simp [results, Tryd.results59, go_sem, e0, e1, e2, e3, e4, e5, e6, e7, e8, e9, e10, e11]) rfl ⟨by rw [HN.out]; rfl, hB9⟩
theorem find_take {α : Type} (l : List α) (f : α → Bool) (k : Nat) (h : k < l.length) (hn : (l.take k).find? f = none) : (f l[k] = true → l.find? f = some l[k]) ∧ (f l[k] = false → (l.take (k + 1)).find? f = none) := by
  have hl : l = l.take k ++ l[k] :: l.drop (k + 1) := by rw [List.getElem_cons_drop, List.take_append_drop]
  refine ⟨fun hf => ?_, fun hf => ?_⟩
  · conv => lhs; rw [hl]
    rw [List.find?_append, hn, List.find?_cons_of_pos hf]; rfl
  · rw [List.take_succ_eq_append_getElem h, List.find?_append, hn, List.find?_cons_of_neg (by rw [hf]; simp)]; rfl
set_option maxRecDepth 100000 in
set_option maxHeartbeats 4000000 in
theorem refGet_any (revs : List Rev) (p : ByteArray) (m : Int) (dv dr : Value) (w : World) (hR : Revs w dv revs) (hl : revs.length ≤ 1000000) :
    Calls Tryd.prog 62 #[.agg #[dv, dr], .string p, .int .i64 m] w (RevPost w (rGet revs p m)) := by
  obtain ⟨Ar, cr, rfl, -⟩ := id hR
  have HR := Lib.hid hR
  clear hR
  have HLN := Lib.hid (log_len revs p)
  go_enter Tryd.func62, Tryd.ntmps62
  have hb0 : Below w.heap.size w ((w.alloc (.cells #[.slice Ar revs.length cr, dr] 31)).alloc (.cells #[.string ⟨#[]⟩, .int .i64 0, .int .i64 0, .int .i64 0, .int .i64 0, .bool false, .bool false, .bool false, .int .u64 0, .int .i64 0, .string ⟨#[]⟩, .int .i64 0] 45)) := ((Below.refl _ _).alloc (Nat.le_refl _) _).alloc (by simp) _
  have hZ : Blk ((w.alloc (.cells #[.slice Ar revs.length cr, dr] 31)).alloc (.cells #[.string ⟨#[]⟩, .int .i64 0, .int .i64 0, .int .i64 0, .int .i64 0, .bool false, .bool false, .bool false, .int .u64 0, .int .i64 0, .string ⟨#[]⟩, .int .i64 0] 45)) (w.heap.size + 1) 45 [.string ⟨#[]⟩, .int .i64 0, .int .i64 0, .int .i64 0, .int .i64 0, .bool false, .bool false, .bool false, .int .u64 0, .int .i64 0, .string ⟨#[]⟩, .int .i64 0] := by
    have h1 := blk_new (w.alloc (.cells #[.slice Ar revs.length cr, dr] 31)) [.string ⟨#[]⟩, .int .i64 0, .int .i64 0, .int .i64 0, .int .i64 0, .bool false, .bool false, .bool false, .int .u64 0, .int .i64 0, .string ⟨#[]⟩, .int .i64 0] 45
    simp only [World.size_alloc] at h1
    exact h1
  have hB : Blk ((w.alloc (.cells #[.slice Ar revs.length cr, dr] 31)).alloc (.cells #[.string ⟨#[]⟩, .int .i64 0, .int .i64 0, .int .i64 0, .int .i64 0, .bool false, .bool false, .bool false, .int .u64 0, .int .i64 0, .string ⟨#[]⟩, .int .i64 0] 45)) w.heap.size 31 [.slice Ar revs.length cr, dr] := (blk_new w _ _).alloc _
  go_upto_region 1 with fail
  generalize (w.alloc (.cells #[.slice Ar revs.length cr, dr] 31)).alloc (.cells #[.string ⟨#[]⟩, .int .i64 0, .int .i64 0, .int .i64 0, .int .i64 0, .bool false, .bool false, .bool false, .int .u64 0, .int .i64 0, .string ⟨#[]⟩, .int .i64 0] 45) = W1 at hb0 hZ hB ⊢
  obtain ⟨d0, d1, -, -⟩ := box2 hB
  have HL := Lib.hid (refLog_any revs p (.slice Ar revs.length cr) dr W1 (HR.out.below hb0) hl)
  have Hb0 := Lib.hid hb0
  have HZ := Lib.hid hZ
  clear hb0 hZ hB
  go_wp2_with fail
  refine HL.out.mono ?_
  rintro e w2 ⟨A, c, rfl, hb2, hL⟩
  clear d0 d1
  have HB2 := Lib.hid hb2
  have HLL := Lib.hid hL
  have HZ2 := Lib.hid (HZ.out.below hb2 HZ.out.lt)
  obtain ⟨A', c', e, hcc, hmm, -⟩ := id hL
  injection e with e1 e2 e3
  subst e1 e3
  unfold maxLen at hmm
  clear hb2 hL HL e2
  have HRG : Hid (rGet revs p m = (logOf revs p).find? (fun v => decide (v.num = m))) := Lib.hid rfl
  have hll : (logOf revs p).length ≤ revs.length := HLN.out
  generalize logOf revs p = L at HLL hll hcc HRG ⊢
  go_wp2_with fail
  go_loopw [14] (fun s wr => ∃ k : Nat, s = .int .i64 k ∧ k ≤ L.length ∧ Hid ((L.take k).find? (fun v => decide (v.num = m)) = none ∧ Below w2.heap.size w2 wr)) (fun s _ => L.length - (intOf s).toNat)
  case atStart => exact ⟨0, rfl, Nat.zero_le _, by rw [List.take_zero]; rfl, Below.refl _ _⟩
  case round =>
    obtain ⟨k, rfl, hk, HI⟩ := hrel
    by_cases hlt : k < L.length
    · obtain ⟨ad, rfl, hab, hld⟩ := Revs.at_ (HLL.out.below HI.out.2) hlt
      have HFT := Lib.hid (find_take L (fun v => decide (v.num = m)) k hlt HI.out.1)
      generalize L[k] = r at hld HFT
      obtain ⟨x0, x1, x2, x3, x4, x5, x6, x7, x8, x9, x10, x11⟩ := hld
      have hX := blk_new wr [.string r.path, .int .i64 r.num, .int .i64 r.chg, .int .i64 r.act, .int .i64 r.ty.base, .bool r.ty.k, .bool r.ty.l, .bool r.ty.x, .int .u64 r.sum, .int .i64 r.size, .string r.frm, .int .i64 r.fnum] 45
      have hA1 := HI.out.2.alloc HI.out.2.size (.cells #[.string r.path, .int .i64 r.num, .int .i64 r.chg, .int .i64 r.act, .int .i64 r.ty.base, .bool r.ty.k, .bool r.ty.l, .bool r.ty.x, .int .u64 r.sum, .int .i64 r.size, .string r.frm, .int .i64 r.fnum] 45)
      go_upto_region 4 with fail
      clear x0 x1 x2 x3 x4 x5 x6 x7 x8 x9 x10 x11
      generalize wr.alloc (.cells #[.string r.path, .int .i64 r.num, .int .i64 r.chg, .int .i64 r.act, .int .i64 r.ty.base, .bool r.ty.k, .bool r.ty.l, .bool r.ty.x, .int .u64 r.sum, .int .i64 r.size, .string r.frm, .int .i64 r.fnum] 45) = V1 at hX hA1 ⊢
      obtain ⟨x0, x1, x2, x3, x4, x5, x6, x7, x8, x9, x10, x11⟩ := box12 hX
      have HA1 := Lib.hid hA1
      clear hX hA1
      by_cases hn : r.num = m
      · have q : (r.num == m) = true := by simpa using hn
        have HF := Lib.hid (HFT.out.1 (by simpa using hn))
        have hZ3 := HZ2.out.below HA1.out HZ2.out.lt
        obtain ⟨z0, z1, z2, z3, z4, z5, z6, z7, z8, z9, z10, z11⟩ := box12 hZ3
        obtain ⟨y0, y1, y2, y3, y4, y5, y6, y7, y8, y9, y10, y11⟩ := frz12 hZ3
        clear hn
        go_wp2_with fail
        have hZ9 := set12 hZ3 r
        have hB9 := below12 (below_next Hb0.out (below_next HB2.out HA1.out)) (show w.heap.size ≤ w.heap.size + 1 by omega) r
        generalize ((((((((((((V1.setCell ⟨w.heap.size + 1, 0, none⟩ (.string r.path)).setCell ⟨w.heap.size + 1, 1, none⟩ (.int .i64 r.num)).setCell ⟨w.heap.size + 1, 2, none⟩ (.int .i64 r.chg)).setCell ⟨w.heap.size + 1, 3, none⟩ (.int .i64 r.act)).setCell ⟨w.heap.size + 1, 4, none⟩ (.int .i64 r.ty.base)).setCell ⟨w.heap.size + 1, 5, none⟩ (.bool r.ty.k)).setCell ⟨w.heap.size + 1, 6, none⟩ (.bool r.ty.l)).setCell ⟨w.heap.size + 1, 7, none⟩ (.bool r.ty.x)).setCell ⟨w.heap.size + 1, 8, none⟩ (.int .u64 r.sum)).setCell ⟨w.heap.size + 1, 9, none⟩ (.int .i64 r.size)).setCell ⟨w.heap.size + 1, 10, none⟩ (.string r.frm)).setCell ⟨w.heap.size + 1, 11, none⟩ (.int .i64 r.fnum)) = W9 at hZ9 hB9 ⊢
        obtain ⟨e0, e1, e2, e3, e4, e5, e6, e7, e8, e9, e10, e11⟩ := box12 hZ9
        exact bodyPost_ret (v := .tuple #[.agg #[.string r.path, .int .i64 r.num, .int .i64 r.chg, .int .i64 r.act, .int .i64 r.ty.base, .bool r.ty.k, .bool r.ty.l, .bool r.ty.x, .int .u64 r.sum, .int .i64 r.size, .string r.frm, .int .i64 r.fnum], .bool true]) (by simp [results, Tryd.results62, go_sem, e0, e1, e2, e3, e4, e5, e6, e7, e8, e9, e10, e11]) rfl ⟨by rw [HRG.out, HF.out]; rfl, hB9⟩
      · have q : (r.num == m) = false := by simpa using hn
        have HF := Lib.hid (HFT.out.2 (by simpa using hn))
        clear hn
        go_wp2_with fail
        go_roundw
        case rel => exact ⟨k + 1, by go_num, by omega, HF.out, HA1.out⟩
        case measure => simp [intOf]; omega
    · have hke : k = L.length := by omega
      have HF : Hid (L.find? (fun v => decide (v.num = m)) = none) := Lib.hid (by have := HI.out.1; rwa [hke, List.take_length] at this)
      have hZ3 := HZ2.out.below HI.out.2 HZ2.out.lt
      obtain ⟨z0, z1, z2, z3, z4, z5, z6, z7, z8, z9, z10, z11⟩ := box12 hZ3
      obtain ⟨y0, y1, y2, y3, y4, y5, y6, y7, y8, y9, y10, y11⟩ := frz12 hZ3
      clear hke
      go_wp2_with fail
      have hZ9 : Blk ((((((((((((wr.setCell ⟨w.heap.size + 1, 0, none⟩ (.string ⟨#[]⟩)).setCell ⟨w.heap.size + 1, 1, none⟩ (.int .i64 0)).setCell ⟨w.heap.size + 1, 2, none⟩ (.int .i64 0)).setCell ⟨w.heap.size + 1, 3, none⟩ (.int .i64 0)).setCell ⟨w.heap.size + 1, 4, none⟩ (.int .i64 0)).setCell ⟨w.heap.size + 1, 5, none⟩ (.bool false)).setCell ⟨w.heap.size + 1, 6, none⟩ (.bool false)).setCell ⟨w.heap.size + 1, 7, none⟩ (.bool false)).setCell ⟨w.heap.size + 1, 8, none⟩ (.int .u64 0)).setCell ⟨w.heap.size + 1, 9, none⟩ (.int .i64 0)).setCell ⟨w.heap.size + 1, 10, none⟩ (.string ⟨#[]⟩)).setCell ⟨w.heap.size + 1, 11, none⟩ (.int .i64 0)) (w.heap.size + 1) 45 [.string ⟨#[]⟩, .int .i64 0, .int .i64 0, .int .i64 0, .int .i64 0, .bool false, .bool false, .bool false, .int .u64 0, .int .i64 0, .string ⟨#[]⟩, .int .i64 0] := set12 hZ3 zeroRev
      have hB9 : Below w.heap.size w ((((((((((((wr.setCell ⟨w.heap.size + 1, 0, none⟩ (.string ⟨#[]⟩)).setCell ⟨w.heap.size + 1, 1, none⟩ (.int .i64 0)).setCell ⟨w.heap.size + 1, 2, none⟩ (.int .i64 0)).setCell ⟨w.heap.size + 1, 3, none⟩ (.int .i64 0)).setCell ⟨w.heap.size + 1, 4, none⟩ (.int .i64 0)).setCell ⟨w.heap.size + 1, 5, none⟩ (.bool false)).setCell ⟨w.heap.size + 1, 6, none⟩ (.bool false)).setCell ⟨w.heap.size + 1, 7, none⟩ (.bool false)).setCell ⟨w.heap.size + 1, 8, none⟩ (.int .u64 0)).setCell ⟨w.heap.size + 1, 9, none⟩ (.int .i64 0)).setCell ⟨w.heap.size + 1, 10, none⟩ (.string ⟨#[]⟩)).setCell ⟨w.heap.size + 1, 11, none⟩ (.int .i64 0)) := below12 (below_next Hb0.out (below_next HB2.out HI.out.2)) (show w.heap.size ≤ w.heap.size + 1 by omega) zeroRev
      generalize ((((((((((((wr.setCell ⟨w.heap.size + 1, 0, none⟩ (.string ⟨#[]⟩)).setCell ⟨w.heap.size + 1, 1, none⟩ (.int .i64 0)).setCell ⟨w.heap.size + 1, 2, none⟩ (.int .i64 0)).setCell ⟨w.heap.size + 1, 3, none⟩ (.int .i64 0)).setCell ⟨w.heap.size + 1, 4, none⟩ (.int .i64 0)).setCell ⟨w.heap.size + 1, 5, none⟩ (.bool false)).setCell ⟨w.heap.size + 1, 6, none⟩ (.bool false)).setCell ⟨w.heap.size + 1, 7, none⟩ (.bool false)).setCell ⟨w.heap.size + 1, 8, none⟩ (.int .u64 0)).setCell ⟨w.heap.size + 1, 9, none⟩ (.int .i64 0)).setCell ⟨w.heap.size + 1, 10, none⟩ (.string ⟨#[]⟩)).setCell ⟨w.heap.size + 1, 11, none⟩ (.int .i64 0)) = W9 at hZ9 hB9 ⊢
      obtain ⟨e0, e1, e2, e3, e4, e5, e6, e7, e8, e9, e10, e11⟩ := box12 hZ9
      exact bodyPost_ret (v := .tuple #[.agg #[.string ⟨#[]⟩, .int .i64 0, .int .i64 0, .int .i64 0, .int .i64 0, .bool false, .bool false, .bool false, .int .u64 0, .int .i64 0, .string ⟨#[]⟩, .int .i64 0], .bool false]) (by simp [results, Tryd.results62, go_sem, e0, e1, e2, e3, e4, e5, e6, e7, e8, e9, e10, e11]) rfl ⟨by rw [HRG.out, HF.out]; rfl, hB9⟩
end Go.Proofs.YtmhmnchdhacdbaaDoor
/- The reference's Gone, Live, Previous, First: the walks. -/
namespace Go.Proofs.YtmhmnchdhacdbaaDoor
open Go.RowKit
set_option linter.unusedVariables false
set_option linter.unusedSimpArgs false

set_option maxRecDepth 100000 in
set_option maxHeartbeats 1000000 in
theorem refGone_any (r : Rev) (w : World) : Calls Tryd.prog 60 #[.agg #[.string r.path, .int .i64 r.num, .int .i64 r.chg, .int .i64 r.act, .int .i64 r.ty.base, .bool r.ty.k, .bool r.ty.l, .bool r.ty.x, .int .u64 r.sum, .int .i64 r.size, .string r.frm, .int .i64 r.fnum]] w fun e w' => e = .returned (.bool (!liveA r.act)) ∧ Below w.heap.size w w' := by
  have hA : Below w.heap.size w (w.alloc (.cells #[.string r.path, .int .i64 r.num, .int .i64 r.chg, .int .i64 r.act, .int .i64 r.ty.base, .bool r.ty.k, .bool r.ty.l, .bool r.ty.x, .int .u64 r.sum, .int .i64 r.size, .string r.frm, .int .i64 r.fnum] 45)) := (Below.refl _ _).alloc (Nat.le_refl _) _
  by_cases h3 : r.act = 3
  · have q : (r.act == 3) = true := by simpa using h3
    have HL : Hid ((!liveA r.act) = true) := Lib.hid (by rw [h3]; rfl)
    clear h3
    go_enter Tryd.func60, Tryd.ntmps60
    go_wp2_with fail
    go_ret
    exact ⟨ret_bool HL.out.symm, hA⟩
  · have q : (r.act == 3) = false := by simpa using h3
    by_cases h5 : r.act = 5
    · have q5 : (r.act == 5) = true := by simpa using h5
      have HL : Hid ((!liveA r.act) = true) := Lib.hid (by rw [h5]; rfl)
      clear h3 h5
      go_enter Tryd.func60, Tryd.ntmps60
      go_wp2_with fail
      go_ret
      exact ⟨ret_bool HL.out.symm, hA⟩
    · have q5 : (r.act == 5) = false := by simpa using h5
      have HL : Hid ((!liveA r.act) = false) := Lib.hid (by unfold liveA; simp [h3, h5])
      clear h3 h5
      go_enter Tryd.func60, Tryd.ntmps60
      go_wp2_with fail
      go_ret
      exact ⟨ret_bool HL.out.symm, hA⟩

set_option maxRecDepth 100000 in
set_option maxHeartbeats 4000000 in
theorem refPrev_any (revs : List Rev) (v : Rev) (dv dr : Value) (w : World) (hR : Revs w dv revs) (hl : revs.length ≤ 1000000) (hn : 0 ≤ v.num ∧ v.num ≤ 1000000) :
    Calls Tryd.prog 64 #[.agg #[dv, dr], .agg #[.string v.path, .int .i64 v.num, .int .i64 v.chg, .int .i64 v.act, .int .i64 v.ty.base, .bool v.ty.k, .bool v.ty.l, .bool v.ty.x, .int .u64 v.sum, .int .i64 v.size, .string v.frm, .int .i64 v.fnum]] w (RevPost w (rPrev revs v)) := by
  obtain ⟨Ar, cr, rfl, -⟩ := id hR
  have HR := Lib.hid hR
  clear hR
  have hb0 : Below w.heap.size w (((w.alloc (.cells #[.slice Ar revs.length cr, dr] 31)).alloc (.cells #[.string v.path, .int .i64 v.num, .int .i64 v.chg, .int .i64 v.act, .int .i64 v.ty.base, .bool v.ty.k, .bool v.ty.l, .bool v.ty.x, .int .u64 v.sum, .int .i64 v.size, .string v.frm, .int .i64 v.fnum] 45)).alloc (.cells #[.string ⟨#[]⟩, .int .i64 0, .int .i64 0, .int .i64 0, .int .i64 0, .bool false, .bool false, .bool false, .int .u64 0, .int .i64 0, .string ⟨#[]⟩, .int .i64 0] 45)) := (((Below.refl _ _).alloc (Nat.le_refl _) _).alloc (by simp) _).alloc (by simp; omega) _
  have hZ : Blk (((w.alloc (.cells #[.slice Ar revs.length cr, dr] 31)).alloc (.cells #[.string v.path, .int .i64 v.num, .int .i64 v.chg, .int .i64 v.act, .int .i64 v.ty.base, .bool v.ty.k, .bool v.ty.l, .bool v.ty.x, .int .u64 v.sum, .int .i64 v.size, .string v.frm, .int .i64 v.fnum] 45)).alloc (.cells #[.string ⟨#[]⟩, .int .i64 0, .int .i64 0, .int .i64 0, .int .i64 0, .bool false, .bool false, .bool false, .int .u64 0, .int .i64 0, .string ⟨#[]⟩, .int .i64 0] 45)) (w.heap.size + 1 + 1) 45 [.string ⟨#[]⟩, .int .i64 0, .int .i64 0, .int .i64 0, .int .i64 0, .bool false, .bool false, .bool false, .int .u64 0, .int .i64 0, .string ⟨#[]⟩, .int .i64 0] := by
    have h1 := blk_new ((w.alloc (.cells #[.slice Ar revs.length cr, dr] 31)).alloc (.cells #[.string v.path, .int .i64 v.num, .int .i64 v.chg, .int .i64 v.act, .int .i64 v.ty.base, .bool v.ty.k, .bool v.ty.l, .bool v.ty.x, .int .u64 v.sum, .int .i64 v.size, .string v.frm, .int .i64 v.fnum] 45)) [.string ⟨#[]⟩, .int .i64 0, .int .i64 0, .int .i64 0, .int .i64 0, .bool false, .bool false, .bool false, .int .u64 0, .int .i64 0, .string ⟨#[]⟩, .int .i64 0] 45
    simp only [World.size_alloc] at h1
    exact h1
  have hV : Blk (((w.alloc (.cells #[.slice Ar revs.length cr, dr] 31)).alloc (.cells #[.string v.path, .int .i64 v.num, .int .i64 v.chg, .int .i64 v.act, .int .i64 v.ty.base, .bool v.ty.k, .bool v.ty.l, .bool v.ty.x, .int .u64 v.sum, .int .i64 v.size, .string v.frm, .int .i64 v.fnum] 45)).alloc (.cells #[.string ⟨#[]⟩, .int .i64 0, .int .i64 0, .int .i64 0, .int .i64 0, .bool false, .bool false, .bool false, .int .u64 0, .int .i64 0, .string ⟨#[]⟩, .int .i64 0] 45)) (w.heap.size + 1) 45 [.string v.path, .int .i64 v.num, .int .i64 v.chg, .int .i64 v.act, .int .i64 v.ty.base, .bool v.ty.k, .bool v.ty.l, .bool v.ty.x, .int .u64 v.sum, .int .i64 v.size, .string v.frm, .int .i64 v.fnum] := by
    have h1 := (blk_new (w.alloc (.cells #[.slice Ar revs.length cr, dr] 31)) [.string v.path, .int .i64 v.num, .int .i64 v.chg, .int .i64 v.act, .int .i64 v.ty.base, .bool v.ty.k, .bool v.ty.l, .bool v.ty.x, .int .u64 v.sum, .int .i64 v.size, .string v.frm, .int .i64 v.fnum] 45).alloc (.cells #[.string ⟨#[]⟩, .int .i64 0, .int .i64 0, .int .i64 0, .int .i64 0, .bool false, .bool false, .bool false, .int .u64 0, .int .i64 0, .string ⟨#[]⟩, .int .i64 0] 45)
    simp only [World.size_alloc] at h1
    exact h1
  have hB : Blk (((w.alloc (.cells #[.slice Ar revs.length cr, dr] 31)).alloc (.cells #[.string v.path, .int .i64 v.num, .int .i64 v.chg, .int .i64 v.act, .int .i64 v.ty.base, .bool v.ty.k, .bool v.ty.l, .bool v.ty.x, .int .u64 v.sum, .int .i64 v.size, .string v.frm, .int .i64 v.fnum] 45)).alloc (.cells #[.string ⟨#[]⟩, .int .i64 0, .int .i64 0, .int .i64 0, .int .i64 0, .bool false, .bool false, .bool false, .int .u64 0, .int .i64 0, .string ⟨#[]⟩, .int .i64 0] 45)) w.heap.size 31 [.slice Ar revs.length cr, dr] := ((blk_new w _ _).alloc _).alloc _
  have n0 : 0 ≤ v.num := hn.1
  have n1 : v.num ≤ 1000000 := hn.2
  clear hn
  have HG := Lib.hid (fun p m X (hX : Below w.heap.size w X) => refGet_any revs p m (.slice Ar revs.length cr) dr X (HR.out.below hX) hl)
  go_enter Tryd.func64, Tryd.ntmps64
  go_upto_region 1 with fail
  generalize ((w.alloc (.cells #[.slice Ar revs.length cr, dr] 31)).alloc (.cells #[.string v.path, .int .i64 v.num, .int .i64 v.chg, .int .i64 v.act, .int .i64 v.ty.base, .bool v.ty.k, .bool v.ty.l, .bool v.ty.x, .int .u64 v.sum, .int .i64 v.size, .string v.frm, .int .i64 v.fnum] 45)).alloc (.cells #[.string ⟨#[]⟩, .int .i64 0, .int .i64 0, .int .i64 0, .int .i64 0, .bool false, .bool false, .bool false, .int .u64 0, .int .i64 0, .string ⟨#[]⟩, .int .i64 0] 45) = W1 at hb0 hZ hV hB ⊢
  obtain ⟨d0, d1, -, -⟩ := box2 hB
  obtain ⟨c0, c1, c2, c3, c4, c5, c6, c7, c8, c9, c10, c11⟩ := box12 hV
  have Hb0 := Lib.hid hb0
  have HZ := Lib.hid hZ
  have HG1 := Lib.hid (fun p m => HG.out p m W1 Hb0.out)
  clear hb0 hZ hV hB
  by_cases h1 : v.act = 1
  · have q : (v.act == 1) = true := by simpa using h1
    have HN : Hid (rPrev revs v = none) := Lib.hid (by unfold rPrev; rw [if_pos h1])
    obtain ⟨z0, z1, z2, z3, z4, z5, z6, z7, z8, z9, z10, z11⟩ := box12 HZ.out
    obtain ⟨y0, y1, y2, y3, y4, y5, y6, y7, y8, y9, y10, y11⟩ := frz12 HZ.out
    clear h1
    go_wp2_with fail
    have hZ9 : Blk ((((((((((((W1.setCell ⟨w.heap.size + 1 + 1, 0, none⟩ (.string ⟨#[]⟩)).setCell ⟨w.heap.size + 1 + 1, 1, none⟩ (.int .i64 0)).setCell ⟨w.heap.size + 1 + 1, 2, none⟩ (.int .i64 0)).setCell ⟨w.heap.size + 1 + 1, 3, none⟩ (.int .i64 0)).setCell ⟨w.heap.size + 1 + 1, 4, none⟩ (.int .i64 0)).setCell ⟨w.heap.size + 1 + 1, 5, none⟩ (.bool false)).setCell ⟨w.heap.size + 1 + 1, 6, none⟩ (.bool false)).setCell ⟨w.heap.size + 1 + 1, 7, none⟩ (.bool false)).setCell ⟨w.heap.size + 1 + 1, 8, none⟩ (.int .u64 0)).setCell ⟨w.heap.size + 1 + 1, 9, none⟩ (.int .i64 0)).setCell ⟨w.heap.size + 1 + 1, 10, none⟩ (.string ⟨#[]⟩)).setCell ⟨w.heap.size + 1 + 1, 11, none⟩ (.int .i64 0)) (w.heap.size + 1 + 1) 45 [.string ⟨#[]⟩, .int .i64 0, .int .i64 0, .int .i64 0, .int .i64 0, .bool false, .bool false, .bool false, .int .u64 0, .int .i64 0, .string ⟨#[]⟩, .int .i64 0] := set12 HZ.out zeroRev
    have hB9 : Below w.heap.size w ((((((((((((W1.setCell ⟨w.heap.size + 1 + 1, 0, none⟩ (.string ⟨#[]⟩)).setCell ⟨w.heap.size + 1 + 1, 1, none⟩ (.int .i64 0)).setCell ⟨w.heap.size + 1 + 1, 2, none⟩ (.int .i64 0)).setCell ⟨w.heap.size + 1 + 1, 3, none⟩ (.int .i64 0)).setCell ⟨w.heap.size + 1 + 1, 4, none⟩ (.int .i64 0)).setCell ⟨w.heap.size + 1 + 1, 5, none⟩ (.bool false)).setCell ⟨w.heap.size + 1 + 1, 6, none⟩ (.bool false)).setCell ⟨w.heap.size + 1 + 1, 7, none⟩ (.bool false)).setCell ⟨w.heap.size + 1 + 1, 8, none⟩ (.int .u64 0)).setCell ⟨w.heap.size + 1 + 1, 9, none⟩ (.int .i64 0)).setCell ⟨w.heap.size + 1 + 1, 10, none⟩ (.string ⟨#[]⟩)).setCell ⟨w.heap.size + 1 + 1, 11, none⟩ (.int .i64 0)) := below12 Hb0.out (show w.heap.size ≤ w.heap.size + 1 + 1 by omega) zeroRev
    generalize ((((((((((((W1.setCell ⟨w.heap.size + 1 + 1, 0, none⟩ (.string ⟨#[]⟩)).setCell ⟨w.heap.size + 1 + 1, 1, none⟩ (.int .i64 0)).setCell ⟨w.heap.size + 1 + 1, 2, none⟩ (.int .i64 0)).setCell ⟨w.heap.size + 1 + 1, 3, none⟩ (.int .i64 0)).setCell ⟨w.heap.size + 1 + 1, 4, none⟩ (.int .i64 0)).setCell ⟨w.heap.size + 1 + 1, 5, none⟩ (.bool false)).setCell ⟨w.heap.size + 1 + 1, 6, none⟩ (.bool false)).setCell ⟨w.heap.size + 1 + 1, 7, none⟩ (.bool false)).setCell ⟨w.heap.size + 1 + 1, 8, none⟩ (.int .u64 0)).setCell ⟨w.heap.size + 1 + 1, 9, none⟩ (.int .i64 0)).setCell ⟨w.heap.size + 1 + 1, 10, none⟩ (.string ⟨#[]⟩)).setCell ⟨w.heap.size + 1 + 1, 11, none⟩ (.int .i64 0)) = W9 at hZ9 hB9 ⊢
    obtain ⟨e0, e1, e2, e3, e4, e5, e6, e7, e8, e9, e10, e11⟩ := box12 hZ9
    exact bodyPost_ret (v := .tuple #[.agg #[.string ⟨#[]⟩, .int .i64 0, .int .i64 0, .int .i64 0, .int .i64 0, .bool false, .bool false, .bool false, .int .u64 0, .int .i64 0, .string ⟨#[]⟩, .int .i64 0], .bool false]) (by simp [results, Tryd.results64, go_sem, e0, e1, e2, e3, e4, e5, e6, e7, e8, e9, e10, e11]) rfl ⟨by rw [HN.out]; rfl, hB9⟩
  · have q : (v.act == 1) = false := by simpa using h1
    by_cases h4 : v.act = 4
    · have q4 : (v.act == 4) = true := by simpa using h4
      have HN : Hid (rPrev revs v = rGet revs v.frm v.fnum) := Lib.hid (by unfold rPrev; rw [if_neg h1, if_pos h4])
      have HG2 := Lib.hid (HG1.out v.frm v.fnum)
      clear h1 h4
      go_wp2_with fail
      refine HG2.out.mono ?_
      rintro e w2 ⟨rfl, hb2⟩
      have hZ2 := HZ.out.below hb2 HZ.out.lt
      obtain ⟨z0, z1, z2, z3, z4, z5, z6, z7, z8, z9, z10, z11⟩ := box12 hZ2
      obtain ⟨y0, y1, y2, y3, y4, y5, y6, y7, y8, y9, y10, y11⟩ := frz12 hZ2
      have HB2 := Lib.hid hb2
      clear hb2 d0 d1 c0 c1 c2 c3 c4 c5 c6 c7 c8 c9 c10 c11
      generalize rGet revs v.frm v.fnum = o at HN ⊢
      generalize hso : someR o = r
      have HSO := Lib.hid hso
      clear hso
      go_wp2_with fail
      have hZ9 := set12 hZ2 r
      have hB9 := below12 (below_next Hb0.out HB2.out) (show w.heap.size ≤ w.heap.size + 1 + 1 by omega) r
      generalize ((((((((((((w2.setCell ⟨w.heap.size + 1 + 1, 0, none⟩ (.string r.path)).setCell ⟨w.heap.size + 1 + 1, 1, none⟩ (.int .i64 r.num)).setCell ⟨w.heap.size + 1 + 1, 2, none⟩ (.int .i64 r.chg)).setCell ⟨w.heap.size + 1 + 1, 3, none⟩ (.int .i64 r.act)).setCell ⟨w.heap.size + 1 + 1, 4, none⟩ (.int .i64 r.ty.base)).setCell ⟨w.heap.size + 1 + 1, 5, none⟩ (.bool r.ty.k)).setCell ⟨w.heap.size + 1 + 1, 6, none⟩ (.bool r.ty.l)).setCell ⟨w.heap.size + 1 + 1, 7, none⟩ (.bool r.ty.x)).setCell ⟨w.heap.size + 1 + 1, 8, none⟩ (.int .u64 r.sum)).setCell ⟨w.heap.size + 1 + 1, 9, none⟩ (.int .i64 r.size)).setCell ⟨w.heap.size + 1 + 1, 10, none⟩ (.string r.frm)).setCell ⟨w.heap.size + 1 + 1, 11, none⟩ (.int .i64 r.fnum)) = W9 at hZ9 hB9 ⊢
      obtain ⟨e0, e1, e2, e3, e4, e5, e6, e7, e8, e9, e10, e11⟩ := box12 hZ9
      exact bodyPost_ret (v := .tuple #[.agg #[.string r.path, .int .i64 r.num, .int .i64 r.chg, .int .i64 r.act, .int .i64 r.ty.base, .bool r.ty.k, .bool r.ty.l, .bool r.ty.x, .int .u64 r.sum, .int .i64 r.size, .string r.frm, .int .i64 r.fnum], .bool o.isSome]) (by simp [results, Tryd.results64, go_sem, e0, e1, e2, e3, e4, e5, e6, e7, e8, e9, e10, e11]) rfl ⟨by rw [HN.out, HSO.out], hB9⟩
    · have q4 : (v.act == 4) = false := by simpa using h4
      have HN : Hid (rPrev revs v = rGet revs v.path (v.num - 1)) := Lib.hid (by unfold rPrev; rw [if_neg h1, if_neg h4])
      have HG2 := Lib.hid (HG1.out v.path (v.num - 1))
      clear h1 h4
      go_wp2_with fail
      refine HG2.out.mono ?_
      rintro e w2 ⟨rfl, hb2⟩
      have hZ2 := HZ.out.below hb2 HZ.out.lt
      obtain ⟨z0, z1, z2, z3, z4, z5, z6, z7, z8, z9, z10, z11⟩ := box12 hZ2
      obtain ⟨y0, y1, y2, y3, y4, y5, y6, y7, y8, y9, y10, y11⟩ := frz12 hZ2
      have HB2 := Lib.hid hb2
      clear hb2 d0 d1 c0 c1 c2 c3 c4 c5 c6 c7 c8 c9 c10 c11
      generalize rGet revs v.path (v.num - 1) = o at HN ⊢
      generalize hso : someR o = r
      have HSO := Lib.hid hso
      clear hso
      go_wp2_with fail
      have hZ9 := set12 hZ2 r
      have hB9 := below12 (below_next Hb0.out HB2.out) (show w.heap.size ≤ w.heap.size + 1 + 1 by omega) r
      generalize ((((((((((((w2.setCell ⟨w.heap.size + 1 + 1, 0, none⟩ (.string r.path)).setCell ⟨w.heap.size + 1 + 1, 1, none⟩ (.int .i64 r.num)).setCell ⟨w.heap.size + 1 + 1, 2, none⟩ (.int .i64 r.chg)).setCell ⟨w.heap.size + 1 + 1, 3, none⟩ (.int .i64 r.act)).setCell ⟨w.heap.size + 1 + 1, 4, none⟩ (.int .i64 r.ty.base)).setCell ⟨w.heap.size + 1 + 1, 5, none⟩ (.bool r.ty.k)).setCell ⟨w.heap.size + 1 + 1, 6, none⟩ (.bool r.ty.l)).setCell ⟨w.heap.size + 1 + 1, 7, none⟩ (.bool r.ty.x)).setCell ⟨w.heap.size + 1 + 1, 8, none⟩ (.int .u64 r.sum)).setCell ⟨w.heap.size + 1 + 1, 9, none⟩ (.int .i64 r.size)).setCell ⟨w.heap.size + 1 + 1, 10, none⟩ (.string r.frm)).setCell ⟨w.heap.size + 1 + 1, 11, none⟩ (.int .i64 r.fnum)) = W9 at hZ9 hB9 ⊢
      obtain ⟨e0, e1, e2, e3, e4, e5, e6, e7, e8, e9, e10, e11⟩ := box12 hZ9
      exact bodyPost_ret (v := .tuple #[.agg #[.string r.path, .int .i64 r.num, .int .i64 r.chg, .int .i64 r.act, .int .i64 r.ty.base, .bool r.ty.k, .bool r.ty.l, .bool r.ty.x, .int .u64 r.sum, .int .i64 r.size, .string r.frm, .int .i64 r.fnum], .bool o.isSome]) (by simp [results, Tryd.results64, go_sem, e0, e1, e2, e3, e4, e5, e6, e7, e8, e9, e10, e11]) rfl ⟨by rw [HN.out, HSO.out], hB9⟩

/-- The state of First's loop: the line is still to be followed from v'. -/
structure FiSt (revs : List Rev) (v : Rev) (w wr : World) (dv dr : Value) (k : Nat) (v' : Rev) : Prop where
  bel : Below w.heap.size w wr
  boxD : Blk wr w.heap.size 31 [dv, dr]
  box3 : Blk wr (w.heap.size + 1) 45 [.string v'.path, .int .i64 v'.num, .int .i64 v'.chg, .int .i64 v'.act, .int .i64 v'.ty.base, .bool v'.ty.k, .bool v'.ty.l, .bool v'.ty.x, .int .u64 v'.sum, .int .i64 v'.size, .string v'.frm, .int .i64 v'.fnum]
  box4 : Blk wr (w.heap.size + 1 + 1) 68 [.string ⟨#[]⟩, .int .i64 0]
  eq : rFirst revs v' = rFirst revs v
  num : 0 ≤ v'.num ∧ v'.num ≤ 1000000
  left : revs.countP (fun x => decide (x.chg < v'.chg)) ≤ k
theorem FiSt.under {revs : List Rev} {v v' : Rev} {w wr X : World} {dv dr : Value} {k : Nat} (h : FiSt revs v w wr dv dr k v') (hX : Below wr.heap.size wr X) : FiSt revs v w X dv dr k v' :=
  ⟨below_next h.bel hX, h.boxD.below hX h.boxD.lt, h.box3.below hX h.box3.lt, h.box4.below hX h.box4.lt, h.eq, h.num, h.left⟩
set_option maxRecDepth 100000 in
set_option maxHeartbeats 4000000 in
theorem refFirst_any (revs : List Rev) (v : Rev) (dv dr : Value) (w : World) (hR : Revs w dv revs) (hl : revs.length ≤ 1000000) (hn : 0 ≤ v.num ∧ v.num ≤ 1000000) (hns : ∀ r ∈ revs, 0 ≤ r.num ∧ r.num ≤ 1000000) :
    Calls Tryd.prog 63 #[.agg #[dv, dr], .agg #[.string v.path, .int .i64 v.num, .int .i64 v.chg, .int .i64 v.act, .int .i64 v.ty.base, .bool v.ty.k, .bool v.ty.l, .bool v.ty.x, .int .u64 v.sum, .int .i64 v.size, .string v.frm, .int .i64 v.fnum]] w fun e w' => e = .returned (.agg #[.string (rFirst revs v).1, .int .i64 (rFirst revs v).2]) ∧ Below w.heap.size w w' := by
  obtain ⟨Ar, cr, rfl, -⟩ := id hR
  have HR := Lib.hid hR
  have HNS := Lib.hid hns
  clear hR hns
  have hb0 : Below w.heap.size w (((w.alloc (.cells #[.slice Ar revs.length cr, dr] 31)).alloc (.cells #[.string v.path, .int .i64 v.num, .int .i64 v.chg, .int .i64 v.act, .int .i64 v.ty.base, .bool v.ty.k, .bool v.ty.l, .bool v.ty.x, .int .u64 v.sum, .int .i64 v.size, .string v.frm, .int .i64 v.fnum] 45)).alloc (.cells #[.string ⟨#[]⟩, .int .i64 0] 68)) := (((Below.refl _ _).alloc (Nat.le_refl _) _).alloc (by simp) _).alloc (by simp; omega) _
  have hZ : Blk (((w.alloc (.cells #[.slice Ar revs.length cr, dr] 31)).alloc (.cells #[.string v.path, .int .i64 v.num, .int .i64 v.chg, .int .i64 v.act, .int .i64 v.ty.base, .bool v.ty.k, .bool v.ty.l, .bool v.ty.x, .int .u64 v.sum, .int .i64 v.size, .string v.frm, .int .i64 v.fnum] 45)).alloc (.cells #[.string ⟨#[]⟩, .int .i64 0] 68)) (w.heap.size + 1 + 1) 68 [.string ⟨#[]⟩, .int .i64 0] := by
    have h1 := blk_new ((w.alloc (.cells #[.slice Ar revs.length cr, dr] 31)).alloc (.cells #[.string v.path, .int .i64 v.num, .int .i64 v.chg, .int .i64 v.act, .int .i64 v.ty.base, .bool v.ty.k, .bool v.ty.l, .bool v.ty.x, .int .u64 v.sum, .int .i64 v.size, .string v.frm, .int .i64 v.fnum] 45)) [.string ⟨#[]⟩, .int .i64 0] 68
    simp only [World.size_alloc] at h1
    exact h1
  have hV : Blk (((w.alloc (.cells #[.slice Ar revs.length cr, dr] 31)).alloc (.cells #[.string v.path, .int .i64 v.num, .int .i64 v.chg, .int .i64 v.act, .int .i64 v.ty.base, .bool v.ty.k, .bool v.ty.l, .bool v.ty.x, .int .u64 v.sum, .int .i64 v.size, .string v.frm, .int .i64 v.fnum] 45)).alloc (.cells #[.string ⟨#[]⟩, .int .i64 0] 68)) (w.heap.size + 1) 45 [.string v.path, .int .i64 v.num, .int .i64 v.chg, .int .i64 v.act, .int .i64 v.ty.base, .bool v.ty.k, .bool v.ty.l, .bool v.ty.x, .int .u64 v.sum, .int .i64 v.size, .string v.frm, .int .i64 v.fnum] := by
    have h1 := (blk_new (w.alloc (.cells #[.slice Ar revs.length cr, dr] 31)) [.string v.path, .int .i64 v.num, .int .i64 v.chg, .int .i64 v.act, .int .i64 v.ty.base, .bool v.ty.k, .bool v.ty.l, .bool v.ty.x, .int .u64 v.sum, .int .i64 v.size, .string v.frm, .int .i64 v.fnum] 45).alloc (.cells #[.string ⟨#[]⟩, .int .i64 0] 68)
    simp only [World.size_alloc] at h1
    exact h1
  have hB : Blk (((w.alloc (.cells #[.slice Ar revs.length cr, dr] 31)).alloc (.cells #[.string v.path, .int .i64 v.num, .int .i64 v.chg, .int .i64 v.act, .int .i64 v.ty.base, .bool v.ty.k, .bool v.ty.l, .bool v.ty.x, .int .u64 v.sum, .int .i64 v.size, .string v.frm, .int .i64 v.fnum] 45)).alloc (.cells #[.string ⟨#[]⟩, .int .i64 0] 68)) w.heap.size 31 [.slice Ar revs.length cr, dr] := ((blk_new w _ _).alloc _).alloc _
  have HS0 : Hid (FiSt revs v w (((w.alloc (.cells #[.slice Ar revs.length cr, dr] 31)).alloc (.cells #[.string v.path, .int .i64 v.num, .int .i64 v.chg, .int .i64 v.act, .int .i64 v.ty.base, .bool v.ty.k, .bool v.ty.l, .bool v.ty.x, .int .u64 v.sum, .int .i64 v.size, .string v.frm, .int .i64 v.fnum] 45)).alloc (.cells #[.string ⟨#[]⟩, .int .i64 0] 68)) (.slice Ar revs.length cr) dr (revs.countP (fun x => decide (x.chg < v.chg))) v) := Lib.hid ⟨hb0, hB, hV, hZ, rfl, hn, Nat.le_refl _⟩
  clear hb0 hZ hV hB hn
  go_enter Tryd.func63, Tryd.ntmps63
  go_wp2_with fail
  generalize ((w.alloc (.cells #[.slice Ar revs.length cr, dr] 31)).alloc (.cells #[.string v.path, .int .i64 v.num, .int .i64 v.chg, .int .i64 v.act, .int .i64 v.ty.base, .bool v.ty.k, .bool v.ty.l, .bool v.ty.x, .int .u64 v.sum, .int .i64 v.size, .string v.frm, .int .i64 v.fnum] 45)).alloc (.cells #[.string ⟨#[]⟩, .int .i64 0] 68) = W1 at HS0 ⊢
  go_loopg [] (revs.countP (fun x => decide (x.chg < v.chg))) (fun k wr => ∃ v', Hid (FiSt revs v w wr (.slice Ar revs.length cr) dr k v'))
  case atStart => exact ⟨v, HS0.out⟩
  case round =>
    obtain ⟨v', HS⟩ := hrel
    clear HS0
    have HPV := Lib.hid (refPrev_any revs v' (.slice Ar revs.length cr) dr wr (HR.out.below HS.out.bel) hl HS.out.num)
    obtain ⟨d0, d1, -, -⟩ := box2 HS.out.boxD
    obtain ⟨c0, c1, c2, c3, c4, c5, c6, c7, c8, c9, c10, c11⟩ := box12 HS.out.box3
    have HP1 : Hid (rPrev revs v' = none → rFirst revs v' = (v'.path, v'.num)) := Lib.hid rFirst_none
    have HP2 : Hid (∀ u, rPrev revs v' = some u → (u ∈ revs ∧ (u.chg < v'.chg → rFirst revs v' = rFirst revs u) ∧ (¬ u.chg < v'.chg → rFirst revs v' = (v'.path, v'.num)))) := Lib.hid (fun u hu => ⟨rPrev_mem hu, fun h => rFirst_some hu h, fun h => rFirst_stop hu h⟩)
    go_wp2_with fail
    refine HPV.out.mono ?_
    rintro e w2 ⟨rfl, hb2⟩
    clear d0 d1 c0 c1 c2 c3 c4 c5 c6 c7 c8 c9 c10 c11 HPV
    have HB2 := Lib.hid hb2
    clear hb2
    generalize rPrev revs v' = o at HP1 HP2 ⊢
    cases o with
    | none =>
      have HFI : Hid (rFirst revs v = (v'.path, v'.num)) := Lib.hid (by rw [← HS.out.eq]; exact HP1.out rfl)
      have hY := blk_new w2 [.string (someR none).path, .int .i64 (someR none).num, .int .i64 (someR none).chg, .int .i64 (someR none).act, .int .i64 (someR none).ty.base, .bool (someR none).ty.k, .bool (someR none).ty.l, .bool (someR none).ty.x, .int .u64 (someR none).sum, .int .i64 (someR none).size, .string (someR none).frm, .int .i64 (someR none).fnum] 45
      have hA5 : Below wr.heap.size wr (w2.alloc (.cells #[.string (someR none).path, .int .i64 (someR none).num, .int .i64 (someR none).chg, .int .i64 (someR none).act, .int .i64 (someR none).ty.base, .bool (someR none).ty.k, .bool (someR none).ty.l, .bool (someR none).ty.x, .int .u64 (someR none).sum, .int .i64 (someR none).size, .string (someR none).frm, .int .i64 (someR none).fnum] 45)) := below_alloc' HB2.out _
      go_upto_region 2 with fail
      generalize w2.alloc (.cells #[.string (someR none).path, .int .i64 (someR none).num, .int .i64 (someR none).chg, .int .i64 (someR none).act, .int .i64 (someR none).ty.base, .bool (someR none).ty.k, .bool (someR none).ty.l, .bool (someR none).ty.x, .int .u64 (someR none).sum, .int .i64 (someR none).size, .string (someR none).frm, .int .i64 (someR none).fnum] 45) = V3 at hY hA5 ⊢
      have HS3 := Lib.hid (HS.out.under hA5)
      obtain ⟨c0, c1, c2, c3, c4, c5, c6, c7, c8, c9, c10, c11⟩ := box12 HS3.out.box3
      obtain ⟨z0, z1, y0, y1⟩ := box2 HS3.out.box4
      clear hY hA5
      go_wp2_with fail
      have hZ9 := (HS3.out.box4.set_ 0 (.string v'.path)).set_ 1 (.int .i64 v'.num)
      have hB9 := (HS3.out.bel.setCell (p := ⟨w.heap.size + 1 + 1, 0, none⟩) (by simp; omega) (.string v'.path)).setCell (p := ⟨w.heap.size + 1 + 1, 1, none⟩) (by simp; omega) (.int .i64 v'.num)
      generalize (V3.setCell ⟨w.heap.size + 1 + 1, 0, none⟩ (.string v'.path)).setCell ⟨w.heap.size + 1 + 1, 1, none⟩ (.int .i64 v'.num) = W9 at hZ9 hB9 ⊢
      obtain ⟨e0, e1, -, -⟩ := box2 hZ9
      exact bodyPost_ret (v := .agg #[.string v'.path, .int .i64 v'.num]) (by simp [results, Tryd.results63, go_sem, e0, e1]) rfl ⟨by rw [HFI.out], hB9⟩
    | some u =>
      obtain ⟨hum, hu1, hu2⟩ := HP2.out u rfl
      have HUM := Lib.hid (HNS.out u hum)
      have HCN := Lib.hid (fun h : u.chg < v'.chg => chg_count hum h)
      have hY := blk_new w2 [.string u.path, .int .i64 u.num, .int .i64 u.chg, .int .i64 u.act, .int .i64 u.ty.base, .bool u.ty.k, .bool u.ty.l, .bool u.ty.x, .int .u64 u.sum, .int .i64 u.size, .string u.frm, .int .i64 u.fnum] 45
      have hA5 : Below wr.heap.size wr (w2.alloc (.cells #[.string u.path, .int .i64 u.num, .int .i64 u.chg, .int .i64 u.act, .int .i64 u.ty.base, .bool u.ty.k, .bool u.ty.l, .bool u.ty.x, .int .u64 u.sum, .int .i64 u.size, .string u.frm, .int .i64 u.fnum] 45)) := below_alloc' HB2.out _
      have hsu : someR (some u) = u := rfl
      go_upto_region 2 with fail
      clear hsu
      generalize w2.alloc (.cells #[.string u.path, .int .i64 u.num, .int .i64 u.chg, .int .i64 u.act, .int .i64 u.ty.base, .bool u.ty.k, .bool u.ty.l, .bool u.ty.x, .int .u64 u.sum, .int .i64 u.size, .string u.frm, .int .i64 u.fnum] 45) = V3 at hY hA5 ⊢
      have HS3 := Lib.hid (HS.out.under hA5)
      obtain ⟨c0, c1, c2, c3, c4, c5, c6, c7, c8, c9, c10, c11⟩ := box12 HS3.out.box3
      obtain ⟨b0, b1, b2, b3, b4, b5, b6, b7, b8, b9, b10, b11⟩ := box12 hY
      by_cases hc : u.chg < v'.chg
      · have q : decide (v'.chg ≤ u.chg) = false := by simp; omega
        have HE : Hid (rFirst revs u = rFirst revs v) := Lib.hid (by rw [← hu1 hc]; exact HS.out.eq)
        have HLT := Lib.hid (HCN.out hc)
        obtain ⟨f0, f1, f2, f3, f4, f5, f6, f7, f8, f9, f10, f11⟩ := frz12 HS3.out.box3
        clear hY hA5 hu1 hu2 hum hc
        go_wp2_with fail
        have hV9 := set12 HS3.out.box3 u
        have hB9 := below12 HS3.out.bel (show w.heap.size ≤ w.heap.size + 1 by omega) u
        have hD9 := far12 HS3.out.boxD (show w.heap.size + 1 ≠ w.heap.size by omega) u
        have hF9 := far12 HS3.out.box4 (show w.heap.size + 1 ≠ w.heap.size + 1 + 1 by omega) u
        go_roundg (gk - 1)
        case measure => have h1 := HLT.out; have h2 := HS3.out.left; omega
        case rel => exact ⟨u, hB9, hD9, hV9, hF9, HE.out, HUM.out, by have h1 := HLT.out; have h2 := HS3.out.left; omega⟩
      · have q : decide (v'.chg ≤ u.chg) = true := by simp; omega
        have HFI : Hid (rFirst revs v = (v'.path, v'.num)) := Lib.hid (by rw [← HS.out.eq]; exact hu2 (by omega))
        obtain ⟨z0, z1, y0, y1⟩ := box2 HS3.out.box4
        clear hY hA5 hu1 hu2 hum hc
        go_wp2_with fail
        have hZ9 := (HS3.out.box4.set_ 0 (.string v'.path)).set_ 1 (.int .i64 v'.num)
        have hB9 := (HS3.out.bel.setCell (p := ⟨w.heap.size + 1 + 1, 0, none⟩) (by simp; omega) (.string v'.path)).setCell (p := ⟨w.heap.size + 1 + 1, 1, none⟩) (by simp; omega) (.int .i64 v'.num)
        generalize (V3.setCell ⟨w.heap.size + 1 + 1, 0, none⟩ (.string v'.path)).setCell ⟨w.heap.size + 1 + 1, 1, none⟩ (.int .i64 v'.num) = W9 at hZ9 hB9 ⊢
        obtain ⟨e0, e1, -, -⟩ := box2 hZ9
        exact bodyPost_ret (v := .agg #[.string v'.path, .int .i64 v'.num]) (by simp [results, Tryd.results63, go_sem, e0, e1]) rfl ⟨by rw [HFI.out], hB9⟩
end Go.Proofs.YtmhmnchdhacdbaaDoor
/- history.editOf; region 24 of history.Valid. -/
namespace Go.Proofs.YtmhmnchdhacdbaaDoor
open Go.RowKit
set_option linter.unusedVariables false
set_option linter.unusedSimpArgs false

/-- The edit that made a revision. -/
def edtOf (r : Rev) : Edt := ⟨r.path, r.act, r.ty, r.sum, r.size, r.num - 1, r.frm, r.fnum, 0⟩
theorem set12E {w : World} {g : Nat} {e : TypeId} {a0 a1 a2 a3 a4 a5 a6 a7 a8 a9 a10 a11 : Value} (h : Blk w g e [a0, a1, a2, a3, a4, a5, a6, a7, a8, a9, a10, a11]) (x : Edt) : Blk ((((((((((((w.setCell ⟨g, 0, none⟩ (.string x.path)).setCell ⟨g, 1, none⟩ (.int .i64 x.act)).setCell ⟨g, 2, none⟩ (.int .i64 x.ty.base)).setCell ⟨g, 3, none⟩ (.bool x.ty.k)).setCell ⟨g, 4, none⟩ (.bool x.ty.l)).setCell ⟨g, 5, none⟩ (.bool x.ty.x)).setCell ⟨g, 6, none⟩ (.int .u64 x.sum)).setCell ⟨g, 7, none⟩ (.int .i64 x.size)).setCell ⟨g, 8, none⟩ (.int .i64 x.base)).setCell ⟨g, 9, none⟩ (.string x.frm)).setCell ⟨g, 10, none⟩ (.int .i64 x.fnum)).setCell ⟨g, 11, none⟩ (.int .i64 x.fence)) g e [.string x.path, .int .i64 x.act, .int .i64 x.ty.base, .bool x.ty.k, .bool x.ty.l, .bool x.ty.x, .int .u64 x.sum, .int .i64 x.size, .int .i64 x.base, .string x.frm, .int .i64 x.fnum, .int .i64 x.fence] := ((((((((((((h.set_ 0 _).set_ 1 _).set_ 2 _).set_ 3 _).set_ 4 _).set_ 5 _).set_ 6 _).set_ 7 _).set_ 8 _).set_ 9 _).set_ 10 _).set_ 11 _)
theorem below12E {w0 w : World} {B g : Nat} (h : Below B w0 w) (hg : B ≤ g) (x : Edt) : Below B w0 ((((((((((((w.setCell ⟨g, 0, none⟩ (.string x.path)).setCell ⟨g, 1, none⟩ (.int .i64 x.act)).setCell ⟨g, 2, none⟩ (.int .i64 x.ty.base)).setCell ⟨g, 3, none⟩ (.bool x.ty.k)).setCell ⟨g, 4, none⟩ (.bool x.ty.l)).setCell ⟨g, 5, none⟩ (.bool x.ty.x)).setCell ⟨g, 6, none⟩ (.int .u64 x.sum)).setCell ⟨g, 7, none⟩ (.int .i64 x.size)).setCell ⟨g, 8, none⟩ (.int .i64 x.base)).setCell ⟨g, 9, none⟩ (.string x.frm)).setCell ⟨g, 10, none⟩ (.int .i64 x.fnum)).setCell ⟨g, 11, none⟩ (.int .i64 x.fence)) := ((((((((((((h.setCell (p := ⟨g, 0, none⟩) hg _).setCell (p := ⟨g, 1, none⟩) hg _).setCell (p := ⟨g, 2, none⟩) hg _).setCell (p := ⟨g, 3, none⟩) hg _).setCell (p := ⟨g, 4, none⟩) hg _).setCell (p := ⟨g, 5, none⟩) hg _).setCell (p := ⟨g, 6, none⟩) hg _).setCell (p := ⟨g, 7, none⟩) hg _).setCell (p := ⟨g, 8, none⟩) hg _).setCell (p := ⟨g, 9, none⟩) hg _).setCell (p := ⟨g, 10, none⟩) hg _).setCell (p := ⟨g, 11, none⟩) hg _)
set_option maxRecDepth 100000 in
set_option maxHeartbeats 4000000 in
theorem editOf_any (revs : List Rev) (k : Nat) (dv dr : Value) (w : World) (hR : Revs w dv revs) (hk : k < revs.length) (x : Rev) (hx : revs[k] = x) (hn : 0 < x.num ∧ x.num ≤ 1000000) :
    Calls Tryd.prog 26 #[.agg #[dv, dr], .int .i64 k] w fun e w' => e = .returned (.agg #[.string (edtOf x).path, .int .i64 (edtOf x).act, .int .i64 (edtOf x).ty.base, .bool (edtOf x).ty.k, .bool (edtOf x).ty.l, .bool (edtOf x).ty.x, .int .u64 (edtOf x).sum, .int .i64 (edtOf x).size, .int .i64 (edtOf x).base, .string (edtOf x).frm, .int .i64 (edtOf x).fnum, .int .i64 (edtOf x).fence]) ∧ Below w.heap.size w w' := by
  obtain ⟨Ar, cr, rfl, hcr, hmr, -⟩ := id hR
  unfold maxLen at hmr
  obtain ⟨W, hW⟩ : ∃ W, W = (w.alloc (.cells #[.slice Ar revs.length cr, dr] 31)).alloc (.cells #[.string ⟨#[]⟩, .int .i64 0, .int .i64 0, .bool false, .bool false, .bool false, .int .u64 0, .int .i64 0, .int .i64 0, .string ⟨#[]⟩, .int .i64 0, .int .i64 0] 48) := ⟨_, rfl⟩
  have hbW : Below w.heap.size w W := by rw [hW]; exact ((Below.refl _ _).alloc (Nat.le_refl _) _).alloc (by simp) _
  have hsz : W.heap.size = w.heap.size + 1 + 1 := by rw [hW]; simp
  have hD : Blk W w.heap.size 31 [.slice Ar revs.length cr, dr] := by rw [hW]; exact (blk_new w _ _).alloc _
  have hF : Blk W (w.heap.size + 1) 48 [.string ⟨#[]⟩, .int .i64 0, .int .i64 0, .bool false, .bool false, .bool false, .int .u64 0, .int .i64 0, .int .i64 0, .string ⟨#[]⟩, .int .i64 0, .int .i64 0] := by rw [hW]; exact blk_at (by simp)
  obtain ⟨ad, rfl, hab, hld⟩ := Revs.at_ (hR.below hbW) hk
  have hkz : (k : Int) < (revs.length : Int) := by omega
  rw [hx] at hld
  clear hx
  obtain ⟨x0, x1, x2, x3, x4, x5, x6, x7, x8, x9, x10, x11⟩ := hld
  have HW := Lib.hid hW
  clear hW hR
  obtain ⟨d0, -, -, -⟩ := box2 hD
  have hwr : IntKind.i64.wrap (x.num - 1) = x.num - 1 := IntWalk.i64_in _ (by omega)
  go_enter Tryd.func26, Tryd.ntmps26
  go_upto_region 1 with fail
  rw [← HW.out]
  have hX1 := blk_new W [.string x.path, .int .i64 x.num, .int .i64 x.chg, .int .i64 x.act, .int .i64 x.ty.base, .bool x.ty.k, .bool x.ty.l, .bool x.ty.x, .int .u64 x.sum, .int .i64 x.size, .string x.frm, .int .i64 x.fnum] 45
  have hA1 := hbW.alloc hbW.size (.cells #[.string x.path, .int .i64 x.num, .int .i64 x.chg, .int .i64 x.act, .int .i64 x.ty.base, .bool x.ty.k, .bool x.ty.l, .bool x.ty.x, .int .u64 x.sum, .int .i64 x.size, .string x.frm, .int .i64 x.fnum] 45)
  have hF1 := hF.alloc (.cells #[.string x.path, .int .i64 x.num, .int .i64 x.chg, .int .i64 x.act, .int .i64 x.ty.base, .bool x.ty.k, .bool x.ty.l, .bool x.ty.x, .int .u64 x.sum, .int .i64 x.size, .string x.frm, .int .i64 x.fnum] 45)
  go_upto_region 2 with fail
  clear x0 x1 x2 x3 x4 x5 x6 x7 x8 x9 x10 x11 d0
  generalize W.alloc (.cells #[.string x.path, .int .i64 x.num, .int .i64 x.chg, .int .i64 x.act, .int .i64 x.ty.base, .bool x.ty.k, .bool x.ty.l, .bool x.ty.x, .int .u64 x.sum, .int .i64 x.size, .string x.frm, .int .i64 x.fnum] 45) = W1 at hX1 hA1 hF1 ⊢
  rw [hsz] at hX1
  obtain ⟨c0, c1, c2, c3, c4, c5, c6, c7, c8, c9, c10, c11⟩ := box12 hX1
  obtain ⟨z0, z1, z2, z3, z4, z5, z6, z7, z8, z9, z10, z11⟩ := box12 hF1
  obtain ⟨y0, y1, y2, y3, y4, y5, y6, y7, y8, y9, y10, y11⟩ := frz12 hF1
  have HF1 := Lib.hid hF1
  have HA1 := Lib.hid hA1
  clear hF1 hA1 hX1 hD hF hbW
  go_wp2_with fail
  have hZ3 := set12E HF1.out (edtOf x)
  have hB3 := below12E HA1.out (show w.heap.size ≤ w.heap.size + 1 by omega) (edtOf x)
  clear c0 c1 c2 c3 c4 c5 c6 c7 c8 c9 c10 c11 z0 z1 z2 z3 z4 z5 z6 z7 z8 z9 z10 z11 y0 y1 y2 y3 y4 y5 y6 y7 y8 y9 y10 y11
  have e : ((((((((((((W1.setCell ⟨w.heap.size + 1, 0, none⟩ (.string (edtOf x).path)).setCell ⟨w.heap.size + 1, 1, none⟩ (.int .i64 (edtOf x).act)).setCell ⟨w.heap.size + 1, 2, none⟩ (.int .i64 (edtOf x).ty.base)).setCell ⟨w.heap.size + 1, 3, none⟩ (.bool (edtOf x).ty.k)).setCell ⟨w.heap.size + 1, 4, none⟩ (.bool (edtOf x).ty.l)).setCell ⟨w.heap.size + 1, 5, none⟩ (.bool (edtOf x).ty.x)).setCell ⟨w.heap.size + 1, 6, none⟩ (.int .u64 (edtOf x).sum)).setCell ⟨w.heap.size + 1, 7, none⟩ (.int .i64 (edtOf x).size)).setCell ⟨w.heap.size + 1, 8, none⟩ (.int .i64 (edtOf x).base)).setCell ⟨w.heap.size + 1, 9, none⟩ (.string (edtOf x).frm)).setCell ⟨w.heap.size + 1, 10, none⟩ (.int .i64 (edtOf x).fnum)).setCell ⟨w.heap.size + 1, 11, none⟩ (.int .i64 (edtOf x).fence)) = ((((((((((((W1.setCell ⟨w.heap.size + 1, 0, none⟩ (.string ((⟨x.path, x.act, x.ty, x.sum, x.size, x.num - 1, x.frm, x.fnum, 0⟩ : Edt)).path)).setCell ⟨w.heap.size + 1, 1, none⟩ (.int .i64 ((⟨x.path, x.act, x.ty, x.sum, x.size, x.num - 1, x.frm, x.fnum, 0⟩ : Edt)).act)).setCell ⟨w.heap.size + 1, 2, none⟩ (.int .i64 ((⟨x.path, x.act, x.ty, x.sum, x.size, x.num - 1, x.frm, x.fnum, 0⟩ : Edt)).ty.base)).setCell ⟨w.heap.size + 1, 3, none⟩ (.bool ((⟨x.path, x.act, x.ty, x.sum, x.size, x.num - 1, x.frm, x.fnum, 0⟩ : Edt)).ty.k)).setCell ⟨w.heap.size + 1, 4, none⟩ (.bool ((⟨x.path, x.act, x.ty, x.sum, x.size, x.num - 1, x.frm, x.fnum, 0⟩ : Edt)).ty.l)).setCell ⟨w.heap.size + 1, 5, none⟩ (.bool ((⟨x.path, x.act, x.ty, x.sum, x.size, x.num - 1, x.frm, x.fnum, 0⟩ : Edt)).ty.x)).setCell ⟨w.heap.size + 1, 6, none⟩ (.int .u64 ((⟨x.path, x.act, x.ty, x.sum, x.size, x.num - 1, x.frm, x.fnum, 0⟩ : Edt)).sum)).setCell ⟨w.heap.size + 1, 7, none⟩ (.int .i64 ((⟨x.path, x.act, x.ty, x.sum, x.size, x.num - 1, x.frm, x.fnum, 0⟩ : Edt)).size)).setCell ⟨w.heap.size + 1, 8, none⟩ (.int .i64 ((⟨x.path, x.act, x.ty, x.sum, x.size, x.num - 1, x.frm, x.fnum, 0⟩ : Edt)).base)).setCell ⟨w.heap.size + 1, 9, none⟩ (.string ((⟨x.path, x.act, x.ty, x.sum, x.size, x.num - 1, x.frm, x.fnum, 0⟩ : Edt)).frm)).setCell ⟨w.heap.size + 1, 10, none⟩ (.int .i64 ((⟨x.path, x.act, x.ty, x.sum, x.size, x.num - 1, x.frm, x.fnum, 0⟩ : Edt)).fnum)).setCell ⟨w.heap.size + 1, 11, none⟩ (.int .i64 ((⟨x.path, x.act, x.ty, x.sum, x.size, x.num - 1, x.frm, x.fnum, 0⟩ : Edt)).fence)) := rfl
  dsimp only at e
  rw [← e]
  generalize ((((((((((((W1.setCell ⟨w.heap.size + 1, 0, none⟩ (.string (edtOf x).path)).setCell ⟨w.heap.size + 1, 1, none⟩ (.int .i64 (edtOf x).act)).setCell ⟨w.heap.size + 1, 2, none⟩ (.int .i64 (edtOf x).ty.base)).setCell ⟨w.heap.size + 1, 3, none⟩ (.bool (edtOf x).ty.k)).setCell ⟨w.heap.size + 1, 4, none⟩ (.bool (edtOf x).ty.l)).setCell ⟨w.heap.size + 1, 5, none⟩ (.bool (edtOf x).ty.x)).setCell ⟨w.heap.size + 1, 6, none⟩ (.int .u64 (edtOf x).sum)).setCell ⟨w.heap.size + 1, 7, none⟩ (.int .i64 (edtOf x).size)).setCell ⟨w.heap.size + 1, 8, none⟩ (.int .i64 (edtOf x).base)).setCell ⟨w.heap.size + 1, 9, none⟩ (.string (edtOf x).frm)).setCell ⟨w.heap.size + 1, 10, none⟩ (.int .i64 (edtOf x).fnum)).setCell ⟨w.heap.size + 1, 11, none⟩ (.int .i64 (edtOf x).fence)) = W3 at hZ3 hB3 ⊢
  obtain ⟨e0, e1, e2, e3, e4, e5, e6, e7, e8, e9, e10, e11⟩ := box12 hZ3
  refine bodyPost_ret (v := .agg #[.string (edtOf x).path, .int .i64 (edtOf x).act, .int .i64 (edtOf x).ty.base, .bool (edtOf x).ty.k, .bool (edtOf x).ty.l, .bool (edtOf x).ty.x, .int .u64 (edtOf x).sum, .int .i64 (edtOf x).size, .int .i64 (edtOf x).base, .string (edtOf x).frm, .int .i64 (edtOf x).fnum, .int .i64 (edtOf x).fence]) (by simp [results, Tryd.results26, go_sem, e0, e1, e2, e3, e4, e5, e6, e7, e8, e9, e10, e11]) rfl ⟨rfl, hB3⟩
end Go.Proofs.YtmhmnchdhacdbaaDoor
/- The reference's made, moved, Live: the walks. -/
namespace Go.Proofs.YtmhmnchdhacdbaaDoor
open Go.RowKit
set_option linter.unusedVariables false
set_option linter.unusedSimpArgs false

/-- The revision that an edit makes, by the reference. -/
def madeX (n : Int) (x : Edt) : Rev := ⟨x.path, x.base + 1, n, x.act, x.ty, x.sum, x.size, x.frm, x.fnum⟩
abbrev chgVal (c : Chg) (ev rv : Value) : Value := .agg #[.int .i64 c.num, .string c.client, .string c.text, ev, rv]
set_option maxRecDepth 100000 in
set_option maxHeartbeats 4000000 in
theorem refMade_any (num : Int) (cl tx : ByteArray) (Ae Ac : Option Addr) (ne nc ce cc : Nat) (x : Edt) (w : World) (hb : 0 ≤ x.base ∧ x.base ≤ 1000000) :
    Calls Tryd.prog 24 #[.agg #[.int .i64 num, .string cl, .string tx, .slice Ae ne ce, .slice Ac nc cc], .agg #[.string x.path, .int .i64 x.act, .int .i64 x.ty.base, .bool x.ty.k, .bool x.ty.l, .bool x.ty.x, .int .u64 x.sum, .int .i64 x.size, .int .i64 x.base, .string x.frm, .int .i64 x.fnum, .int .i64 x.fence]] w fun e w' => e = .returned (.agg #[.string (madeX num x).path, .int .i64 (madeX num x).num, .int .i64 (madeX num x).chg, .int .i64 (madeX num x).act, .int .i64 (madeX num x).ty.base, .bool (madeX num x).ty.k, .bool (madeX num x).ty.l, .bool (madeX num x).ty.x, .int .u64 (madeX num x).sum, .int .i64 (madeX num x).size, .string (madeX num x).frm, .int .i64 (madeX num x).fnum]) ∧ Below w.heap.size w w' := by
  have hb0 : Below w.heap.size w (((w.alloc (.cells #[.int .i64 num, .string cl, .string tx, .slice Ae ne ce, .slice Ac nc cc] 26)).alloc (.cells #[.string x.path, .int .i64 x.act, .int .i64 x.ty.base, .bool x.ty.k, .bool x.ty.l, .bool x.ty.x, .int .u64 x.sum, .int .i64 x.size, .int .i64 x.base, .string x.frm, .int .i64 x.fnum, .int .i64 x.fence] 48)).alloc (.cells #[.string ⟨#[]⟩, .int .i64 0, .int .i64 0, .int .i64 0, .int .i64 0, .bool false, .bool false, .bool false, .int .u64 0, .int .i64 0, .string ⟨#[]⟩, .int .i64 0] 45)) := (((Below.refl _ _).alloc (Nat.le_refl _) _).alloc (by simp) _).alloc (by simp; omega) _
  have hZ : Blk (((w.alloc (.cells #[.int .i64 num, .string cl, .string tx, .slice Ae ne ce, .slice Ac nc cc] 26)).alloc (.cells #[.string x.path, .int .i64 x.act, .int .i64 x.ty.base, .bool x.ty.k, .bool x.ty.l, .bool x.ty.x, .int .u64 x.sum, .int .i64 x.size, .int .i64 x.base, .string x.frm, .int .i64 x.fnum, .int .i64 x.fence] 48)).alloc (.cells #[.string ⟨#[]⟩, .int .i64 0, .int .i64 0, .int .i64 0, .int .i64 0, .bool false, .bool false, .bool false, .int .u64 0, .int .i64 0, .string ⟨#[]⟩, .int .i64 0] 45)) (w.heap.size + 1 + 1) 45 [.string ⟨#[]⟩, .int .i64 0, .int .i64 0, .int .i64 0, .int .i64 0, .bool false, .bool false, .bool false, .int .u64 0, .int .i64 0, .string ⟨#[]⟩, .int .i64 0] := by
    have h1 := blk_new ((w.alloc (.cells #[.int .i64 num, .string cl, .string tx, .slice Ae ne ce, .slice Ac nc cc] 26)).alloc (.cells #[.string x.path, .int .i64 x.act, .int .i64 x.ty.base, .bool x.ty.k, .bool x.ty.l, .bool x.ty.x, .int .u64 x.sum, .int .i64 x.size, .int .i64 x.base, .string x.frm, .int .i64 x.fnum, .int .i64 x.fence] 48)) [.string ⟨#[]⟩, .int .i64 0, .int .i64 0, .int .i64 0, .int .i64 0, .bool false, .bool false, .bool false, .int .u64 0, .int .i64 0, .string ⟨#[]⟩, .int .i64 0] 45
    simp only [World.size_alloc] at h1
    exact h1
  have hV : Blk (((w.alloc (.cells #[.int .i64 num, .string cl, .string tx, .slice Ae ne ce, .slice Ac nc cc] 26)).alloc (.cells #[.string x.path, .int .i64 x.act, .int .i64 x.ty.base, .bool x.ty.k, .bool x.ty.l, .bool x.ty.x, .int .u64 x.sum, .int .i64 x.size, .int .i64 x.base, .string x.frm, .int .i64 x.fnum, .int .i64 x.fence] 48)).alloc (.cells #[.string ⟨#[]⟩, .int .i64 0, .int .i64 0, .int .i64 0, .int .i64 0, .bool false, .bool false, .bool false, .int .u64 0, .int .i64 0, .string ⟨#[]⟩, .int .i64 0] 45)) (w.heap.size + 1) 48 [.string x.path, .int .i64 x.act, .int .i64 x.ty.base, .bool x.ty.k, .bool x.ty.l, .bool x.ty.x, .int .u64 x.sum, .int .i64 x.size, .int .i64 x.base, .string x.frm, .int .i64 x.fnum, .int .i64 x.fence] := by
    have h1 := (blk_new (w.alloc (.cells #[.int .i64 num, .string cl, .string tx, .slice Ae ne ce, .slice Ac nc cc] 26)) [.string x.path, .int .i64 x.act, .int .i64 x.ty.base, .bool x.ty.k, .bool x.ty.l, .bool x.ty.x, .int .u64 x.sum, .int .i64 x.size, .int .i64 x.base, .string x.frm, .int .i64 x.fnum, .int .i64 x.fence] 48).alloc (.cells #[.string ⟨#[]⟩, .int .i64 0, .int .i64 0, .int .i64 0, .int .i64 0, .bool false, .bool false, .bool false, .int .u64 0, .int .i64 0, .string ⟨#[]⟩, .int .i64 0] 45)
    simp only [World.size_alloc] at h1
    exact h1
  have hB : Blk (((w.alloc (.cells #[.int .i64 num, .string cl, .string tx, .slice Ae ne ce, .slice Ac nc cc] 26)).alloc (.cells #[.string x.path, .int .i64 x.act, .int .i64 x.ty.base, .bool x.ty.k, .bool x.ty.l, .bool x.ty.x, .int .u64 x.sum, .int .i64 x.size, .int .i64 x.base, .string x.frm, .int .i64 x.fnum, .int .i64 x.fence] 48)).alloc (.cells #[.string ⟨#[]⟩, .int .i64 0, .int .i64 0, .int .i64 0, .int .i64 0, .bool false, .bool false, .bool false, .int .u64 0, .int .i64 0, .string ⟨#[]⟩, .int .i64 0] 45)) w.heap.size 26 [.int .i64 num, .string cl, .string tx, .slice Ae ne ce, .slice Ac nc cc] := ((blk_new w _ _).alloc _).alloc _
  have b0 : 0 ≤ x.base := hb.1
  have b1 : x.base ≤ 1000000 := hb.2
  clear hb
  go_enter Tryd.func24, Tryd.ntmps24
  go_upto_region 1 with fail
  generalize ((w.alloc (.cells #[.int .i64 num, .string cl, .string tx, .slice Ae ne ce, .slice Ac nc cc] 26)).alloc (.cells #[.string x.path, .int .i64 x.act, .int .i64 x.ty.base, .bool x.ty.k, .bool x.ty.l, .bool x.ty.x, .int .u64 x.sum, .int .i64 x.size, .int .i64 x.base, .string x.frm, .int .i64 x.fnum, .int .i64 x.fence] 48)).alloc (.cells #[.string ⟨#[]⟩, .int .i64 0, .int .i64 0, .int .i64 0, .int .i64 0, .bool false, .bool false, .bool false, .int .u64 0, .int .i64 0, .string ⟨#[]⟩, .int .i64 0] 45) = W1 at hb0 hZ hV hB ⊢
  obtain ⟨d0, d1, d2, d3, d4⟩ := box5 hB
  obtain ⟨c0, c1, c2, c3, c4, c5, c6, c7, c8, c9, c10, c11⟩ := box12 hV
  obtain ⟨z0, z1, z2, z3, z4, z5, z6, z7, z8, z9, z10, z11⟩ := box12 hZ
  obtain ⟨y0, y1, y2, y3, y4, y5, y6, y7, y8, y9, y10, y11⟩ := frz12 hZ
  have HZ := Lib.hid hZ
  have Hb0 := Lib.hid hb0
  clear hb0 hZ hV hB
  go_wp2_with fail
  have hZ3 := set12 HZ.out (madeX num x)
  have hB3 := below12 Hb0.out (show w.heap.size ≤ w.heap.size + 1 + 1 by omega) (madeX num x)
  clear d0 d1 d2 d3 d4 c0 c1 c2 c3 c4 c5 c6 c7 c8 c9 c10 c11 z0 z1 z2 z3 z4 z5 z6 z7 z8 z9 z10 z11 y0 y1 y2 y3 y4 y5 y6 y7 y8 y9 y10 y11
  have e : ((((((((((((W1.setCell ⟨w.heap.size + 1 + 1, 0, none⟩ (.string (madeX num x).path)).setCell ⟨w.heap.size + 1 + 1, 1, none⟩ (.int .i64 (madeX num x).num)).setCell ⟨w.heap.size + 1 + 1, 2, none⟩ (.int .i64 (madeX num x).chg)).setCell ⟨w.heap.size + 1 + 1, 3, none⟩ (.int .i64 (madeX num x).act)).setCell ⟨w.heap.size + 1 + 1, 4, none⟩ (.int .i64 (madeX num x).ty.base)).setCell ⟨w.heap.size + 1 + 1, 5, none⟩ (.bool (madeX num x).ty.k)).setCell ⟨w.heap.size + 1 + 1, 6, none⟩ (.bool (madeX num x).ty.l)).setCell ⟨w.heap.size + 1 + 1, 7, none⟩ (.bool (madeX num x).ty.x)).setCell ⟨w.heap.size + 1 + 1, 8, none⟩ (.int .u64 (madeX num x).sum)).setCell ⟨w.heap.size + 1 + 1, 9, none⟩ (.int .i64 (madeX num x).size)).setCell ⟨w.heap.size + 1 + 1, 10, none⟩ (.string (madeX num x).frm)).setCell ⟨w.heap.size + 1 + 1, 11, none⟩ (.int .i64 (madeX num x).fnum)) = ((((((((((((W1.setCell ⟨w.heap.size + 1 + 1, 0, none⟩ (.string ((⟨x.path, x.base + 1, num, x.act, x.ty, x.sum, x.size, x.frm, x.fnum⟩ : Rev)).path)).setCell ⟨w.heap.size + 1 + 1, 1, none⟩ (.int .i64 ((⟨x.path, x.base + 1, num, x.act, x.ty, x.sum, x.size, x.frm, x.fnum⟩ : Rev)).num)).setCell ⟨w.heap.size + 1 + 1, 2, none⟩ (.int .i64 ((⟨x.path, x.base + 1, num, x.act, x.ty, x.sum, x.size, x.frm, x.fnum⟩ : Rev)).chg)).setCell ⟨w.heap.size + 1 + 1, 3, none⟩ (.int .i64 ((⟨x.path, x.base + 1, num, x.act, x.ty, x.sum, x.size, x.frm, x.fnum⟩ : Rev)).act)).setCell ⟨w.heap.size + 1 + 1, 4, none⟩ (.int .i64 ((⟨x.path, x.base + 1, num, x.act, x.ty, x.sum, x.size, x.frm, x.fnum⟩ : Rev)).ty.base)).setCell ⟨w.heap.size + 1 + 1, 5, none⟩ (.bool ((⟨x.path, x.base + 1, num, x.act, x.ty, x.sum, x.size, x.frm, x.fnum⟩ : Rev)).ty.k)).setCell ⟨w.heap.size + 1 + 1, 6, none⟩ (.bool ((⟨x.path, x.base + 1, num, x.act, x.ty, x.sum, x.size, x.frm, x.fnum⟩ : Rev)).ty.l)).setCell ⟨w.heap.size + 1 + 1, 7, none⟩ (.bool ((⟨x.path, x.base + 1, num, x.act, x.ty, x.sum, x.size, x.frm, x.fnum⟩ : Rev)).ty.x)).setCell ⟨w.heap.size + 1 + 1, 8, none⟩ (.int .u64 ((⟨x.path, x.base + 1, num, x.act, x.ty, x.sum, x.size, x.frm, x.fnum⟩ : Rev)).sum)).setCell ⟨w.heap.size + 1 + 1, 9, none⟩ (.int .i64 ((⟨x.path, x.base + 1, num, x.act, x.ty, x.sum, x.size, x.frm, x.fnum⟩ : Rev)).size)).setCell ⟨w.heap.size + 1 + 1, 10, none⟩ (.string ((⟨x.path, x.base + 1, num, x.act, x.ty, x.sum, x.size, x.frm, x.fnum⟩ : Rev)).frm)).setCell ⟨w.heap.size + 1 + 1, 11, none⟩ (.int .i64 ((⟨x.path, x.base + 1, num, x.act, x.ty, x.sum, x.size, x.frm, x.fnum⟩ : Rev)).fnum)) := rfl
  dsimp only at e
  rw [← e]
  generalize ((((((((((((W1.setCell ⟨w.heap.size + 1 + 1, 0, none⟩ (.string (madeX num x).path)).setCell ⟨w.heap.size + 1 + 1, 1, none⟩ (.int .i64 (madeX num x).num)).setCell ⟨w.heap.size + 1 + 1, 2, none⟩ (.int .i64 (madeX num x).chg)).setCell ⟨w.heap.size + 1 + 1, 3, none⟩ (.int .i64 (madeX num x).act)).setCell ⟨w.heap.size + 1 + 1, 4, none⟩ (.int .i64 (madeX num x).ty.base)).setCell ⟨w.heap.size + 1 + 1, 5, none⟩ (.bool (madeX num x).ty.k)).setCell ⟨w.heap.size + 1 + 1, 6, none⟩ (.bool (madeX num x).ty.l)).setCell ⟨w.heap.size + 1 + 1, 7, none⟩ (.bool (madeX num x).ty.x)).setCell ⟨w.heap.size + 1 + 1, 8, none⟩ (.int .u64 (madeX num x).sum)).setCell ⟨w.heap.size + 1 + 1, 9, none⟩ (.int .i64 (madeX num x).size)).setCell ⟨w.heap.size + 1 + 1, 10, none⟩ (.string (madeX num x).frm)).setCell ⟨w.heap.size + 1 + 1, 11, none⟩ (.int .i64 (madeX num x).fnum)) = W3 at hZ3 hB3 ⊢
  obtain ⟨e0, e1, e2, e3, e4, e5, e6, e7, e8, e9, e10, e11⟩ := box12 hZ3
  refine bodyPost_ret (v := .agg #[.string (madeX num x).path, .int .i64 (madeX num x).num, .int .i64 (madeX num x).chg, .int .i64 (madeX num x).act, .int .i64 (madeX num x).ty.base, .bool (madeX num x).ty.k, .bool (madeX num x).ty.l, .bool (madeX num x).ty.x, .int .u64 (madeX num x).sum, .int .i64 (madeX num x).size, .string (madeX num x).frm, .int .i64 (madeX num x).fnum]) (by simp [results, Tryd.results24, go_sem, e0, e1, e2, e3, e4, e5, e6, e7, e8, e9, e10, e11]) rfl ⟨rfl, hB3⟩

def rLiveB (revs : List Rev) (p : ByteArray) : Bool := match rLast revs p with
  | none => false
  | some r => liveA r.act
theorem rLiveB_at {revs : List Rev} {p : ByteArray} : (rLast revs p = none → rLiveB revs p = false) ∧ ∀ r, rLast revs p = some r → rLiveB revs p = liveA r.act := by
  unfold rLiveB
  exact ⟨fun h => by rw [h], fun r h => by rw [h]⟩
set_option maxRecDepth 100000 in
set_option maxHeartbeats 4000000 in
theorem refLive_any (revs : List Rev) (p : ByteArray) (dv dr : Value) (w : World) (hR : Revs w dv revs) (hl : revs.length ≤ 1000000) :
    Calls Tryd.prog 57 #[.agg #[dv, dr], .string p] w fun e w' => e = .returned (.tuple #[.bool (rLiveB revs p), .int .i64 (someR (rLast revs p)).num]) ∧ Below w.heap.size w w' := by
  obtain ⟨Ar, cr, rfl, -⟩ := id hR
  have HR := Lib.hid hR
  clear hR
  have HAT := Lib.hid (@rLiveB_at revs p)
  go_enter Tryd.func57, Tryd.ntmps57
  have hb0 : Below w.heap.size w (w.alloc (.cells #[.slice Ar revs.length cr, dr] 31)) := (Below.refl _ _).alloc (Nat.le_refl _) _
  have hB := blk_new w [.slice Ar revs.length cr, dr] 31
  go_upto_region 1 with fail
  generalize w.alloc (.cells #[.slice Ar revs.length cr, dr] 31) = W1 at hb0 hB ⊢
  obtain ⟨d0, d1, -, -⟩ := box2 hB
  have HLS := Lib.hid (refLast_any revs p (.slice Ar revs.length cr) dr W1 (HR.out.below hb0) hl)
  have Hb0 := Lib.hid hb0
  clear hb0 hB
  go_wp2_with fail
  refine HLS.out.mono ?_
  rintro e w2 ⟨rfl, hb2⟩
  clear d0 d1 HLS
  have HB2 := Lib.hid hb2
  clear hb2
  generalize hro : rLast revs p = o at HAT ⊢
  have HRO := Lib.hid hro
  clear hro
  cases o with
  | none =>
    have HN := Lib.hid (HAT.out.1 rfl)
    have hY := blk_new w2 [.string zeroRev.path, .int .i64 zeroRev.num, .int .i64 zeroRev.chg, .int .i64 zeroRev.act, .int .i64 zeroRev.ty.base, .bool zeroRev.ty.k, .bool zeroRev.ty.l, .bool zeroRev.ty.x, .int .u64 zeroRev.sum, .int .i64 zeroRev.size, .string zeroRev.frm, .int .i64 zeroRev.fnum] 45
    have hA5 : Below w.heap.size w (w2.alloc (.cells #[.string zeroRev.path, .int .i64 zeroRev.num, .int .i64 zeroRev.chg, .int .i64 zeroRev.act, .int .i64 zeroRev.ty.base, .bool zeroRev.ty.k, .bool zeroRev.ty.l, .bool zeroRev.ty.x, .int .u64 zeroRev.sum, .int .i64 zeroRev.size, .string zeroRev.frm, .int .i64 zeroRev.fnum] 45)) := below_next Hb0.out (below_alloc' HB2.out _)
    have hsu : someR none = zeroRev := rfl
    go_upto_region 2 with fail
    clear hsu HAT
    generalize w2.alloc (.cells #[.string zeroRev.path, .int .i64 zeroRev.num, .int .i64 zeroRev.chg, .int .i64 zeroRev.act, .int .i64 zeroRev.ty.base, .bool zeroRev.ty.k, .bool zeroRev.ty.l, .bool zeroRev.ty.x, .int .u64 zeroRev.sum, .int .i64 zeroRev.size, .string zeroRev.frm, .int .i64 zeroRev.fnum] 45) = V3 at hY hA5 ⊢
    obtain ⟨b0, b1, b2, b3, b4, b5, b6, b7, b8, b9, b10, b11⟩ := box12 hY
    have HA5 := Lib.hid hA5
    clear hY hA5
    go_quiet (fail)
    go_wp2_with fail
    go_ret2
    exact ⟨by rw [HN.out, HRO.out]; rfl, below_dN HA5.out _⟩
  | some r =>
    have HN := Lib.hid (HAT.out.2 r rfl)
    have hY := blk_new w2 [.string r.path, .int .i64 r.num, .int .i64 r.chg, .int .i64 r.act, .int .i64 r.ty.base, .bool r.ty.k, .bool r.ty.l, .bool r.ty.x, .int .u64 r.sum, .int .i64 r.size, .string r.frm, .int .i64 r.fnum] 45
    have hA5 : Below w.heap.size w (w2.alloc (.cells #[.string r.path, .int .i64 r.num, .int .i64 r.chg, .int .i64 r.act, .int .i64 r.ty.base, .bool r.ty.k, .bool r.ty.l, .bool r.ty.x, .int .u64 r.sum, .int .i64 r.size, .string r.frm, .int .i64 r.fnum] 45)) := below_next Hb0.out (below_alloc' HB2.out _)
    have hsu : someR (some r) = r := rfl
    go_upto_region 2 with fail
    clear hsu HAT
    generalize w2.alloc (.cells #[.string r.path, .int .i64 r.num, .int .i64 r.chg, .int .i64 r.act, .int .i64 r.ty.base, .bool r.ty.k, .bool r.ty.l, .bool r.ty.x, .int .u64 r.sum, .int .i64 r.size, .string r.frm, .int .i64 r.fnum] 45) = V3 at hY hA5 ⊢
    generalize w2.heap.size = g6 at hY ⊢
    have HY := Lib.hid hY
    have HA5 := Lib.hid hA5
    obtain ⟨b0, b1, b2, b3, b4, b5, b6, b7, b8, b9, b10, b11⟩ := box12 hY
    have HGO := Lib.hid (fun X => refGone_any r X)
    clear hY hA5
    refine wp_region_noPanic ?_
    first
      | go_region_law (go_simp; go_at_call 60; refine (HGO.out _).mono ?_; rintro e w5 ⟨rfl, hX5⟩; have hS5 : Below V3.heap.size V3 w5 := (Below.refl _ _).drew.trans hX5; obtain ⟨k0, k1, k2, k3, k4, k5, k6, k7, k8, k9, k10, k11⟩ := box12 (HY.out.below hS5 HY.out.lt))
      | fail
    all_goals
      refine NoPanic.normal ?_
      go_wp2_with fail
      go_ret2
      exact ⟨by rw [HN.out, HRO.out]; cases liveA r.act <;> rfl, below_next HA5.out hS5⟩
end Go.Proofs.YtmhmnchdhacdbaaDoor
/-
  DERIVED: THE SHELF's CONTRACTS AT THIS DUMP, IN PLAIN WORDS (tools/lay-plain.mjs out of 'TrydShelf.lean', which tools/lay-shelf.mjs wrote): THE SAME DECLARATIONS UNDER THE SAME NAMES: 'import', 'namespace', 'open', 'def', 'theorem' AND NOTHING ELSE: no command of the shelf's: FOR A HAND-IN. Each laying: the table of numbers ('.._ren') and one theorem, a field a fact of the dump's own or the kernel's comparison; each contract: ONE APPLICATION.
-/
namespace Go.Proofs
open Go.Shelf
def Tryd.lays213_ren : Go.Shelf.Ren := ⟨fun | 213 => 83 | 265 => 87 | n => n, fun | 9 => 9 | 3 => 3 | n => n, fun | n => n⟩
theorem Tryd.lays213 : Go.Proofs.Lays.n213 Tryd.prog Tryd.lays213_ren := {
  mixed := by kernel_rfl
  f213 := Tryd.func83.trans (congrArg some (by kernel_rfl))
  f265 := Tryd.func87.trans (congrArg some (by kernel_rfl))
  t3 := Tryd.underlying3
  a3 := Tryd.isAgg3
  z3 := Tryd.sizeOf3
  v3 := Tryd.zeroValue3
  t9 := Tryd.underlying9
  a9 := Tryd.isAgg9
  z9 := Tryd.sizeOf9
  v9 := Tryd.zeroValue9 }
open Go.RowKit in
/-- internal/bytealg.CompareString (what strings.Compare calls): IT RETURNS 'Lib.compareBytes a b'; the world is as it was. (LAID: no walk: one application.) -/
theorem Tryd.bytealg_CompareString (a b : ByteArray) (w : World) :
    Calls Tryd.prog 83 #[.string a, .string b] w fun e w' => e = .returned (.int .i64 (Lib.compareBytes a.data.toList b.data.toList)) ∧ w' = w := Any.bytealg_CompareString Tryd.lays213 a b w
def Tryd.lays106_ren : Go.Shelf.Ren := ⟨fun | 106 => 74 | 213 => 83 | 265 => 87 | n => n, fun | 9 => 9 | 3 => 3 | n => n, fun | n => n⟩
theorem Tryd.lays106 : Go.Proofs.Lays.n106 Tryd.prog Tryd.lays106_ren := {
  mixed := by kernel_rfl
  f106 := Tryd.func74.trans (congrArg some (by kernel_rfl))
  f213 := Tryd.func83.trans (congrArg some (by kernel_rfl))
  f265 := Tryd.func87.trans (congrArg some (by kernel_rfl))
  t3 := Tryd.underlying3
  a3 := Tryd.isAgg3
  z3 := Tryd.sizeOf3
  v3 := Tryd.zeroValue3
  t9 := Tryd.underlying9
  a9 := Tryd.isAgg9
  z9 := Tryd.sizeOf9
  v9 := Tryd.zeroValue9 }
open Go.RowKit in
/-- strings.Compare: "Compare returns an integer comparing two strings lexicographically. The result will be 0 if a == b, -1 if a < b, and +1 if a > b.": IT RETURNS 'Lib.compareBytes a b'; the world is as it was. (LAID: no walk: one application.) -/
theorem Tryd.strings_Compare (a b : ByteArray) (w : World) :
    Calls Tryd.prog 74 #[.string a, .string b] w fun e w' => e = .returned (.int .i64 (Lib.compareBytes a.data.toList b.data.toList)) ∧ w' = w := Any.strings_Compare Tryd.lays106 a b w
def Tryd.lays137_ren : Go.Shelf.Ren := ⟨fun | 137 => 86 | 217 => 91 | 266 => 96 | n => n, fun | 9 => 9 | 5 => 5 | 3 => 3 | n => n, fun | n => n⟩
theorem Tryd.lays137 : Go.Proofs.Lays.n137 Tryd.prog Tryd.lays137_ren := {
  mixed := by kernel_rfl
  f137 := Tryd.func86.trans (congrArg some (by kernel_rfl))
  f217 := Tryd.func91.trans (congrArg some (by kernel_rfl))
  f266 := Tryd.func96.trans (congrArg some (by kernel_rfl))
  t3 := Tryd.underlying3
  a3 := Tryd.isAgg3
  z3 := Tryd.sizeOf3
  v3 := Tryd.zeroValue3
  t5 := Tryd.underlying5
  a5 := Tryd.isAgg5
  z5 := Tryd.sizeOf5
  v5 := Tryd.zeroValue5
  t9 := Tryd.underlying9
  a9 := Tryd.isAgg9
  z9 := Tryd.sizeOf9
  v9 := Tryd.zeroValue9 }
open Go.RowKit in
/-- strings.IndexByte: "IndexByte returns the index of the first instance of c in s, or -1 if c is not present in s.": IT RETURNS 'Lib.indexByte s c'; the world is as it was. (LAID: no walk: one application.) -/
theorem Tryd.strings_IndexByte (s : ByteArray) (c : Int) (w : World) :
    Calls Tryd.prog 86 #[.string s, .int .u8 c] w fun e w' => e = .returned (.int .i64 (Lib.indexByte s.data.toList c.toNat.toUInt8)) ∧ w' = w := Any.strings_IndexByte Tryd.lays137 s c w
def Tryd.lays215_ren : Go.Shelf.Ren := ⟨fun | 215 => 54 | n => n, fun | 3 => 3 | 4 => 4 | n => n, fun | n => n⟩
theorem Tryd.lays215 : Go.Proofs.Lays.n215 Tryd.prog Tryd.lays215_ren := {
  mixed := by kernel_rfl
  f215 := Tryd.func54.trans (congrArg some (by kernel_rfl))
  t3 := Tryd.underlying3
  a3 := Tryd.isAgg3
  z3 := Tryd.sizeOf3
  v3 := Tryd.zeroValue3
  t4 := Tryd.underlying4
  a4 := Tryd.isAgg4
  z4 := Tryd.sizeOf4
  v4 := Tryd.zeroValue4 }
open Go.RowKit in
/-- cmp.isNaN at int: 'x != x': false. (LAID: no walk: one application.) -/
theorem Tryd.cmp_isNaN_int (x : Int) (w : World) :
    Calls Tryd.prog 54 #[.int .i64 x] w fun e w' => e = .returned (.bool false) ∧ w' = w := Any.cmp_isNaN_int Tryd.lays215 x w
def Tryd.lays122_ren : Go.Shelf.Ren := ⟨fun | 122 => 42 | 215 => 54 | n => n, fun | 3 => 3 | 4 => 4 | n => n, fun | n => n⟩
theorem Tryd.lays122 : Go.Proofs.Lays.n122 Tryd.prog Tryd.lays122_ren := {
  mixed := by kernel_rfl
  f122 := Tryd.func42.trans (congrArg some (by kernel_rfl))
  f215 := Tryd.func54.trans (congrArg some (by kernel_rfl))
  t3 := Tryd.underlying3
  a3 := Tryd.isAgg3
  z3 := Tryd.sizeOf3
  v3 := Tryd.zeroValue3
  t4 := Tryd.underlying4
  a4 := Tryd.isAgg4
  z4 := Tryd.sizeOf4
  v4 := Tryd.zeroValue4 }
open Go.RowKit in
/-- cmp.Compare at int: "Compare returns -1 if x is less than y, 0 if x equals y, +1 if x is greater than y.": IT RETURNS 'Lib.compareInt x y'; the world is as it was. (LAID: no walk: one application.) -/
theorem Tryd.cmp_Compare_int (x y : Int) (w : World) :
    Calls Tryd.prog 42 #[.int .i64 x, .int .i64 y] w fun e w' => e = .returned (.int .i64 (Lib.compareInt x y)) ∧ w' = w := Any.cmp_Compare_int Tryd.lays122 x y w
def Tryd.lays195_ren : Go.Shelf.Ren := ⟨fun | 195 => 92 | n => n, fun | 9 => 9 | 3 => 3 | 0 => 0 | 4 => 4 | n => n, fun | n => n⟩
theorem Tryd.lays195 : Go.Proofs.Lays.n195 Tryd.prog Tryd.lays195_ren := {
  mixed := by kernel_rfl
  f195 := Tryd.func92.trans (congrArg some (by kernel_rfl))
  t0 := Tryd.underlying0
  a0 := Tryd.isAgg0
  z0 := Tryd.sizeOf0
  v0 := Tryd.zeroValue0
  t3 := Tryd.underlying3
  a3 := Tryd.isAgg3
  z3 := Tryd.sizeOf3
  v3 := Tryd.zeroValue3
  t4 := Tryd.underlying4
  a4 := Tryd.isAgg4
  z4 := Tryd.sizeOf4
  v4 := Tryd.zeroValue4
  t9 := Tryd.underlying9
  a9 := Tryd.isAgg9
  z9 := Tryd.sizeOf9
  v9 := Tryd.zeroValue9 }
open Go.RowKit in
/-- unicode/utf8.RuneCountInString: "RuneCountInString is like RuneCount but its input is a string." ("RuneCount returns the number of runes in p. Erroneous and short encodings are treated as single runes of width 1 byte."): EVERY STRING, valid UTF-8 or not: 'Lib.runeCount s' (plain Lean over the model's own 'Utf8.decode'; 'Lib.runeCount_le': at most len(s); 'Lib.runeCount_ascii': on ASCII: len(s)). THE ONE CONDITION: len(s) below 2^63 - 1 (the counter does not wrap): the form's reach pays it. THE WORLD BEHIND THE CALL: ONE BLOCK MORE: the model's iterator over s, at its end: all else as it was. (LAID: no walk: one application.) -/
theorem Tryd.utf8_RuneCountInString (s : ByteArray) (w : World) (hs : s.size < 9223372036854775807) :
    Calls Tryd.prog 92 #[.string s] w fun e w' => e = .returned (.int .i64 (Lib.runeCount s)) ∧ ∃ pos, w' = w.iter s pos := Any.utf8_RuneCountInString Tryd.lays195 s w hs
def Tryd.lays217_ren : Go.Shelf.Ren := ⟨fun | 217 => 91 | 266 => 96 | n => n, fun | 9 => 9 | 5 => 5 | 3 => 3 | n => n, fun | n => n⟩
theorem Tryd.lays217 : Go.Proofs.Lays.n217 Tryd.prog Tryd.lays217_ren := {
  mixed := by kernel_rfl
  f217 := Tryd.func91.trans (congrArg some (by kernel_rfl))
  f266 := Tryd.func96.trans (congrArg some (by kernel_rfl))
  t3 := Tryd.underlying3
  a3 := Tryd.isAgg3
  z3 := Tryd.sizeOf3
  v3 := Tryd.zeroValue3
  t5 := Tryd.underlying5
  a5 := Tryd.isAgg5
  z5 := Tryd.sizeOf5
  v5 := Tryd.zeroValue5
  t9 := Tryd.underlying9
  a9 := Tryd.isAgg9
  z9 := Tryd.sizeOf9
  v9 := Tryd.zeroValue9 }
open Go.RowKit Go.Lib in
/-- internal/stringslite.IndexByte (what strings.IndexByte calls): IT RETURNS 'Lib.indexByte s c'; the world is as it was. (LAID: no walk: one application.) -/
theorem Tryd.stringslite_IndexByte (s : ByteArray) (c : Int) (w : World) :
    Calls Tryd.prog 91 #[.string s, .int .u8 c] w fun e w' => e = .returned (.int .i64 (Lib.indexByte s.data.toList c.toNat.toUInt8)) ∧ w' = w := Any.stringslite_IndexByte Tryd.lays217 s c w
def Tryd.lays224_ren : Go.Shelf.Ren := ⟨fun | 224 => 99 | n => n, fun | 3 => 3 | n => n, fun | n => n⟩
theorem Tryd.lays224 : Go.Proofs.Lays.n224 Tryd.prog Tryd.lays224_ren := {
  mixed := by kernel_rfl
  f224 := Tryd.func99.trans (congrArg some (by kernel_rfl))
  t3 := Tryd.underlying3
  a3 := Tryd.isAgg3
  z3 := Tryd.sizeOf3
  v3 := Tryd.zeroValue3 }
open Go.RowKit Go.Lib in
/-- internal/bytealg.Cutover: "Cutover reports the number of failures of IndexByte we should tolerate before switching over to Index. n is the number of bytes processed so far.": on amd64: (n + 16) / 8. (LAID: no walk: one application.) -/
theorem Tryd.bytealg_Cutover (n : Int) (h0 : 0 ≤ n) (h1 : n < 4611686018427387904) (w : World) :
    Calls Tryd.prog 99 #[.int .i64 n] w fun e w' => e = .returned (.int .i64 ((n + 16) / 8)) ∧ w' = w := Any.bytealg_Cutover Tryd.lays224 n h0 h1 w
def Tryd.lays314_ren : Go.Shelf.Ren := ⟨fun | 314 => 101 | n => n, fun | 9 => 9 | 51 => 137 | 3 => 3 | 4 => 4 | 5 => 5 | 46 => 120 | n => n, fun | n => n⟩
theorem Tryd.lays314 : Go.Proofs.Lays.n314 Tryd.prog Tryd.lays314_ren := {
  mixed := by kernel_rfl
  f314 := Tryd.func101.trans (congrArg some (by kernel_rfl))
  t3 := Tryd.underlying3
  a3 := Tryd.isAgg3
  z3 := Tryd.sizeOf3
  v3 := Tryd.zeroValue3
  t4 := Tryd.underlying4
  a4 := Tryd.isAgg4
  z4 := Tryd.sizeOf4
  v4 := Tryd.zeroValue4
  t5 := Tryd.underlying5
  a5 := Tryd.isAgg5
  z5 := Tryd.sizeOf5
  v5 := Tryd.zeroValue5
  t9 := Tryd.underlying9
  a9 := Tryd.isAgg9
  z9 := Tryd.sizeOf9
  v9 := Tryd.zeroValue9
  t46 := Tryd.underlying120
  a46 := Tryd.isAgg120
  z46 := Tryd.sizeOf120
  v46 := Tryd.zeroValue120
  t51 := Tryd.underlying137
  a51 := Tryd.isAgg137
  z51 := Tryd.sizeOf137
  v51 := Tryd.zeroValue137 }
open Go.RowKit Go.Lib in
/-- hashStr: "returns the hash and the appropriate multiplicative factor for use in Rabin-Karp algorithm": THE HASH OF ALL OF sep, AND 16777619 ^ len(sep), both in uint32. (LAID: no walk: one application.) -/
theorem Tryd.bytealg_hashStr (sep : ByteArray) (hs : sep.size < 4294967281) (w : World) :
    Calls Tryd.prog 101 #[.string sep] w fun e w' => e = .returned (.tuple #[.int .u32 (RK.H sep.data.toList % 4294967296), .int .u32 (16777619 ^ sep.size % 4294967296)]) ∧ w' = w := Any.bytealg_hashStr Tryd.lays314 sep hs w
def Tryd.lays267_ren : Go.Shelf.Ren := ⟨fun | 267 => 100 | 314 => 101 | n => n, fun | 9 => 9 | 3 => 3 | 146 => 138 | 51 => 137 | 4 => 4 | 5 => 5 | 46 => 120 | n => n, fun | n => n⟩
theorem Tryd.lays267 : Go.Proofs.Lays.n267 Tryd.prog Tryd.lays267_ren := {
  mixed := by kernel_rfl
  f267 := Tryd.func100.trans (congrArg some (by kernel_rfl))
  f314 := Tryd.func101.trans (congrArg some (by kernel_rfl))
  t3 := Tryd.underlying3
  a3 := Tryd.isAgg3
  z3 := Tryd.sizeOf3
  v3 := Tryd.zeroValue3
  t4 := Tryd.underlying4
  a4 := Tryd.isAgg4
  z4 := Tryd.sizeOf4
  v4 := Tryd.zeroValue4
  t5 := Tryd.underlying5
  a5 := Tryd.isAgg5
  z5 := Tryd.sizeOf5
  v5 := Tryd.zeroValue5
  t9 := Tryd.underlying9
  a9 := Tryd.isAgg9
  z9 := Tryd.sizeOf9
  v9 := Tryd.zeroValue9
  t46 := Tryd.underlying120
  a46 := Tryd.isAgg120
  z46 := Tryd.sizeOf120
  v46 := Tryd.zeroValue120
  t51 := Tryd.underlying137
  a51 := Tryd.isAgg137
  z51 := Tryd.sizeOf137
  v51 := Tryd.zeroValue137
  t146 := Tryd.underlying138
  a146 := Tryd.isAgg138
  z146 := Tryd.sizeOf138
  v146 := Tryd.zeroValue138 }
open Go.RowKit Go.Lib in
theorem Tryd.bytealg_IndexRabinKarp (s sep : ByteArray) (h1 : 1 ≤ sep.size) (h2 : sep.size ≤ s.size) (hs : s.size < 4294967281) (w : World) :
    Calls Tryd.prog 100 #[.string s, .string sep] w fun e w' => e = .returned (.int .i64 (Lib.index s.data.toList sep.data.toList)) ∧ w' = w := Any.bytealg_IndexRabinKarp Tryd.lays267 s sep h1 h2 hs w
def Tryd.lays219_ren : Go.Shelf.Ren := ⟨fun | 219 => 95 | 217 => 91 | 225 => 98 | 224 => 99 | 267 => 100 | 266 => 96 | 314 => 101 | n => n, fun | 9 => 9 | 3 => 3 | 4 => 4 | 5 => 5 | 46 => 120 | 146 => 138 | 51 => 137 | n => n, fun | 1 => 0 | n => n⟩
theorem Tryd.lays219 : Go.Proofs.Lays.n219 Tryd.prog Tryd.lays219_ren := {
  mixed := by kernel_rfl
  f217 := Tryd.func91.trans (congrArg some (by kernel_rfl))
  f219 := Tryd.func95.trans (congrArg some (by kernel_rfl))
  f224 := Tryd.func99.trans (congrArg some (by kernel_rfl))
  f225 := Tryd.func98.trans (congrArg some (by kernel_rfl))
  f266 := Tryd.func96.trans (congrArg some (by kernel_rfl))
  f267 := Tryd.func100.trans (congrArg some (by kernel_rfl))
  f314 := Tryd.func101.trans (congrArg some (by kernel_rfl))
  t3 := Tryd.underlying3
  a3 := Tryd.isAgg3
  z3 := Tryd.sizeOf3
  v3 := Tryd.zeroValue3
  t4 := Tryd.underlying4
  a4 := Tryd.isAgg4
  z4 := Tryd.sizeOf4
  v4 := Tryd.zeroValue4
  t5 := Tryd.underlying5
  a5 := Tryd.isAgg5
  z5 := Tryd.sizeOf5
  v5 := Tryd.zeroValue5
  t9 := Tryd.underlying9
  a9 := Tryd.isAgg9
  z9 := Tryd.sizeOf9
  v9 := Tryd.zeroValue9
  t46 := Tryd.underlying120
  a46 := Tryd.isAgg120
  z46 := Tryd.sizeOf120
  v46 := Tryd.zeroValue120
  t51 := Tryd.underlying137
  a51 := Tryd.isAgg137
  z51 := Tryd.sizeOf137
  v51 := Tryd.zeroValue137
  t146 := Tryd.underlying138
  a146 := Tryd.isAgg138
  z146 := Tryd.sizeOf138
  v146 := Tryd.zeroValue138
  g1 := by kernel_rfl }
open Go.RowKit Go.Lib in
/-- internal/stringslite.Index (what strings.Index calls) AT A substr OF ONE BYTE c: IT RETURNS 'Lib.indexByte s c'; the world is as it was. (LAID: no walk: one application.) -/
theorem Tryd.stringslite_Index_one (s : ByteArray) (c : UInt8) (w : World) :
    Calls Tryd.prog 95 #[.string s, .string ⟨#[c]⟩] w fun e w' => e = .returned (.int .i64 (Lib.indexByte s.data.toList c)) ∧ w' = w := Any.stringslite_Index_one Tryd.lays219 s c w
open Go.RowKit Go.Lib in
/-- internal/stringslite.Index (what strings.Index calls) AT A substr OF WHATEVER LENGTH: IT RETURNS 'Lib.index s substr'; the world is as it was. 'm': what internal/bytealg.MaxLen holds: whatever. (LAID: no walk: one application.) -/
theorem Tryd.stringslite_Index (s sub : ByteArray) (m : Int) (w : World) (hs : s.size < 4294967281) (hm : w.cell? ⟨0, 0, none⟩ = some (.int .i64 m)) :
    Calls Tryd.prog 95 #[.string s, .string sub] w fun e w' => e = .returned (.int .i64 (Lib.index s.data.toList sub.data.toList)) ∧ w' = w := Any.stringslite_Index Tryd.lays219 s sub m w hs hm
def Tryd.lays143_ren : Go.Shelf.Ren := ⟨fun | 143 => 90 | 219 => 95 | 217 => 91 | 225 => 98 | 224 => 99 | 267 => 100 | 266 => 96 | 314 => 101 | n => n, fun | 9 => 9 | 3 => 3 | 4 => 4 | 5 => 5 | 46 => 120 | 146 => 138 | 51 => 137 | n => n, fun | 1 => 0 | n => n⟩
theorem Tryd.lays143 : Go.Proofs.Lays.n143 Tryd.prog Tryd.lays143_ren := {
  mixed := by kernel_rfl
  f143 := Tryd.func90.trans (congrArg some (by kernel_rfl))
  f217 := Tryd.func91.trans (congrArg some (by kernel_rfl))
  f219 := Tryd.func95.trans (congrArg some (by kernel_rfl))
  f224 := Tryd.func99.trans (congrArg some (by kernel_rfl))
  f225 := Tryd.func98.trans (congrArg some (by kernel_rfl))
  f266 := Tryd.func96.trans (congrArg some (by kernel_rfl))
  f267 := Tryd.func100.trans (congrArg some (by kernel_rfl))
  f314 := Tryd.func101.trans (congrArg some (by kernel_rfl))
  t3 := Tryd.underlying3
  a3 := Tryd.isAgg3
  z3 := Tryd.sizeOf3
  v3 := Tryd.zeroValue3
  t4 := Tryd.underlying4
  a4 := Tryd.isAgg4
  z4 := Tryd.sizeOf4
  v4 := Tryd.zeroValue4
  t5 := Tryd.underlying5
  a5 := Tryd.isAgg5
  z5 := Tryd.sizeOf5
  v5 := Tryd.zeroValue5
  t9 := Tryd.underlying9
  a9 := Tryd.isAgg9
  z9 := Tryd.sizeOf9
  v9 := Tryd.zeroValue9
  t46 := Tryd.underlying120
  a46 := Tryd.isAgg120
  z46 := Tryd.sizeOf120
  v46 := Tryd.zeroValue120
  t51 := Tryd.underlying137
  a51 := Tryd.isAgg137
  z51 := Tryd.sizeOf137
  v51 := Tryd.zeroValue137
  t146 := Tryd.underlying138
  a146 := Tryd.isAgg138
  z146 := Tryd.sizeOf138
  v146 := Tryd.zeroValue138
  g1 := by kernel_rfl }
open Go.RowKit Go.Lib in
/-- strings.Index: "Index returns the index of the first instance of substr in s, or -1 if substr is not present in s.": AT A substr OF ONE BYTE c: IT RETURNS 'Lib.indexByte s c'; the world is as it was. (LAID: no walk: one application.) -/
theorem Tryd.strings_Index_one (s : ByteArray) (c : UInt8) (w : World) :
    Calls Tryd.prog 90 #[.string s, .string ⟨#[c]⟩] w fun e w' => e = .returned (.int .i64 (Lib.indexByte s.data.toList c)) ∧ w' = w := Any.strings_Index_one Tryd.lays143 s c w
open Go.RowKit Go.Lib in
/-- strings.Index: "Index returns the index of the first instance of substr in s, or -1 if substr is not present in s.": IT RETURNS 'Lib.index s substr'; the world is as it was. (LAID: no walk: one application.) -/
theorem Tryd.strings_Index (s sub : ByteArray) (m : Int) (w : World) (hs : s.size < 4294967281) (hm : w.cell? ⟨0, 0, none⟩ = some (.int .i64 m)) :
    Calls Tryd.prog 90 #[.string s, .string sub] w fun e w' => e = .returned (.int .i64 (Lib.index s.data.toList sub.data.toList)) ∧ w' = w := Any.strings_Index Tryd.lays143 s sub m w hs hm
def Tryd.lays138_ren : Go.Shelf.Ren := ⟨fun | 138 => 89 | 195 => 92 | 218 => 94 | 143 => 90 | 219 => 95 | 217 => 91 | 225 => 98 | 224 => 99 | 267 => 100 | 266 => 96 | 314 => 101 | n => n, fun | 9 => 9 | 3 => 3 | 4 => 4 | 5 => 5 | 0 => 0 | 46 => 120 | 146 => 138 | 51 => 137 | n => n, fun | 1 => 0 | n => n⟩
theorem Tryd.lays138 : Go.Proofs.Lays.n138 Tryd.prog Tryd.lays138_ren := {
  mixed := by kernel_rfl
  f138 := Tryd.func89.trans (congrArg some (by kernel_rfl))
  f143 := Tryd.func90.trans (congrArg some (by kernel_rfl))
  f195 := Tryd.func92.trans (congrArg some (by kernel_rfl))
  f217 := Tryd.func91.trans (congrArg some (by kernel_rfl))
  f218 := Tryd.func94.trans (congrArg some (by kernel_rfl))
  f219 := Tryd.func95.trans (congrArg some (by kernel_rfl))
  f224 := Tryd.func99.trans (congrArg some (by kernel_rfl))
  f225 := Tryd.func98.trans (congrArg some (by kernel_rfl))
  f266 := Tryd.func96.trans (congrArg some (by kernel_rfl))
  f267 := Tryd.func100.trans (congrArg some (by kernel_rfl))
  f314 := Tryd.func101.trans (congrArg some (by kernel_rfl))
  t0 := Tryd.underlying0
  a0 := Tryd.isAgg0
  z0 := Tryd.sizeOf0
  v0 := Tryd.zeroValue0
  t3 := Tryd.underlying3
  a3 := Tryd.isAgg3
  z3 := Tryd.sizeOf3
  v3 := Tryd.zeroValue3
  t4 := Tryd.underlying4
  a4 := Tryd.isAgg4
  z4 := Tryd.sizeOf4
  v4 := Tryd.zeroValue4
  t5 := Tryd.underlying5
  a5 := Tryd.isAgg5
  z5 := Tryd.sizeOf5
  v5 := Tryd.zeroValue5
  t9 := Tryd.underlying9
  a9 := Tryd.isAgg9
  z9 := Tryd.sizeOf9
  v9 := Tryd.zeroValue9
  t46 := Tryd.underlying120
  a46 := Tryd.isAgg120
  z46 := Tryd.sizeOf120
  v46 := Tryd.zeroValue120
  t51 := Tryd.underlying137
  a51 := Tryd.isAgg137
  z51 := Tryd.sizeOf137
  v51 := Tryd.zeroValue137
  t146 := Tryd.underlying138
  a146 := Tryd.isAgg138
  z146 := Tryd.sizeOf138
  v146 := Tryd.zeroValue138
  g1 := by kernel_rfl }
open Go.RowKit Go.Lib in
/-- strings.Count AT A substr OF ONE BYTE ('hp'): "Count counts the number of non-overlapping instances of substr in s.": IT RETURNS 'Lib.countByte s (that byte)'; the world is as it was. ✋ NO CONTRACT HERE YET at an empty substr (utf8.RuneCountInString) or at a longer one (a loop over strings.Index). (LAID: no walk: one application.) -/
theorem Tryd.strings_Count_one (s : ByteArray) (c : UInt8) (w : World) :
    Calls Tryd.prog 89 #[.string s, .string ⟨#[c]⟩] w fun e w' => e = .returned (.int .i64 (Lib.countByte s.data.toList c)) ∧ w' = w := Any.strings_Count_one Tryd.lays138 s c w
open Go.RowKit Go.Lib in
/-- strings.Count AT A substr OF TWO BYTES OR MORE: "Count counts the number of non-overlapping instances of substr in s.": IT RETURNS 'Lib.count s substr'; the world is as it was. (LAID: no walk: one application.) -/
theorem Tryd.strings_Count (s sub : ByteArray) (m : Int) (w : World) (hs : s.size < 4294967281) (hm : w.cell? ⟨0, 0, none⟩ = some (.int .i64 m)) (h2 : 2 ≤ sub.size) :
    Calls Tryd.prog 89 #[.string s, .string sub] w fun e w' => e = .returned (.int .i64 (Lib.countB s sub)) ∧ w' = w := Any.strings_Count Tryd.lays138 s sub m w hs hm h2
def Tryd.laysM219_ren : Go.Shelf.Ren := ⟨fun | 219 => 95 | 217 => 91 | 225 => 98 | 224 => 99 | 267 => 100 | 266 => 96 | 314 => 101 | n => n, fun | 9 => 9 | 3 => 3 | 4 => 4 | 5 => 5 | 46 => 120 | 146 => 138 | 51 => 137 | n => n, fun | 1 => 0 | n => n⟩
theorem Tryd.laysM219 : Go.Proofs.LaysM.n219 Tryd.prog Tryd.laysM219_ren := {
  mixed := by kernel_rfl
  f217 := Tryd.func91.trans (congrArg some (by kernel_rfl))
  f219 := Tryd.func95.trans (congrArg some (by kernel_rfl))
  f224 := Tryd.func99.trans (congrArg some (by kernel_rfl))
  f225 := Tryd.func98.trans (congrArg some (by kernel_rfl))
  f266 := Tryd.func96.trans (congrArg some (by kernel_rfl))
  f267 := Tryd.func100.trans (congrArg some (by kernel_rfl))
  f314 := Tryd.func101.trans (congrArg some (by kernel_rfl))
  t3 := Tryd.underlying3
  a3 := Tryd.isAgg3
  z3 := Tryd.sizeOf3
  v3 := Tryd.zeroValue3
  t4 := Tryd.underlying4
  a4 := Tryd.isAgg4
  z4 := Tryd.sizeOf4
  v4 := Tryd.zeroValue4
  t5 := Tryd.underlying5
  a5 := Tryd.isAgg5
  z5 := Tryd.sizeOf5
  v5 := Tryd.zeroValue5
  t9 := Tryd.underlying9
  a9 := Tryd.isAgg9
  z9 := Tryd.sizeOf9
  v9 := Tryd.zeroValue9
  t46 := Tryd.underlying120
  a46 := Tryd.isAgg120
  z46 := Tryd.sizeOf120
  v46 := Tryd.zeroValue120
  t51 := Tryd.underlying137
  a51 := Tryd.isAgg137
  z51 := Tryd.sizeOf137
  v51 := Tryd.zeroValue137
  t146 := Tryd.underlying138
  a146 := Tryd.isAgg138
  z146 := Tryd.sizeOf138
  v146 := Tryd.zeroValue138
  g1 := by kernel_rfl
  i3 := by kernel_rfl
  i4 := by kernel_rfl
  i5 := by kernel_rfl
  i9 := by kernel_rfl
  i46 := by kernel_rfl
  i51 := by kernel_rfl
  i146 := by kernel_rfl
  m1 := by kernel_rfl
  s1_3 := fun w h => Go.Proofs.cell_of_shapedOpen_int (zero := #[.int .i64 0]) (t := 3) h (of_decide_eq_true (by kernel_rfl)) (by kernel_rfl) rfl (by kernel_rfl) (by kernel_rfl) Tryd.underlying3 }
open Go.RowKit Go.Lib in
theorem Tryd.stringslite_Index_shaped (s sub : ByteArray) (w : World) (h : w.ShapedOpen Tryd.prog) (hs : s.size < 4294967281) :
    Calls Tryd.prog 95 #[.string s, .string sub] w fun e w' => e = .returned (.int .i64 (Lib.index s.data.toList sub.data.toList)) ∧ w' = w := Any.stringslite_Index_shaped Tryd.laysM219 s sub w h hs
def Tryd.laysM143_ren : Go.Shelf.Ren := ⟨fun | 143 => 90 | 219 => 95 | 217 => 91 | 225 => 98 | 224 => 99 | 267 => 100 | 266 => 96 | 314 => 101 | n => n, fun | 9 => 9 | 3 => 3 | 4 => 4 | 5 => 5 | 46 => 120 | 146 => 138 | 51 => 137 | n => n, fun | 1 => 0 | n => n⟩
theorem Tryd.laysM143 : Go.Proofs.LaysM.n143 Tryd.prog Tryd.laysM143_ren := {
  mixed := by kernel_rfl
  f143 := Tryd.func90.trans (congrArg some (by kernel_rfl))
  f217 := Tryd.func91.trans (congrArg some (by kernel_rfl))
  f219 := Tryd.func95.trans (congrArg some (by kernel_rfl))
  f224 := Tryd.func99.trans (congrArg some (by kernel_rfl))
  f225 := Tryd.func98.trans (congrArg some (by kernel_rfl))
  f266 := Tryd.func96.trans (congrArg some (by kernel_rfl))
  f267 := Tryd.func100.trans (congrArg some (by kernel_rfl))
  f314 := Tryd.func101.trans (congrArg some (by kernel_rfl))
  t3 := Tryd.underlying3
  a3 := Tryd.isAgg3
  z3 := Tryd.sizeOf3
  v3 := Tryd.zeroValue3
  t4 := Tryd.underlying4
  a4 := Tryd.isAgg4
  z4 := Tryd.sizeOf4
  v4 := Tryd.zeroValue4
  t5 := Tryd.underlying5
  a5 := Tryd.isAgg5
  z5 := Tryd.sizeOf5
  v5 := Tryd.zeroValue5
  t9 := Tryd.underlying9
  a9 := Tryd.isAgg9
  z9 := Tryd.sizeOf9
  v9 := Tryd.zeroValue9
  t46 := Tryd.underlying120
  a46 := Tryd.isAgg120
  z46 := Tryd.sizeOf120
  v46 := Tryd.zeroValue120
  t51 := Tryd.underlying137
  a51 := Tryd.isAgg137
  z51 := Tryd.sizeOf137
  v51 := Tryd.zeroValue137
  t146 := Tryd.underlying138
  a146 := Tryd.isAgg138
  z146 := Tryd.sizeOf138
  v146 := Tryd.zeroValue138
  g1 := by kernel_rfl
  i3 := by kernel_rfl
  i4 := by kernel_rfl
  i5 := by kernel_rfl
  i9 := by kernel_rfl
  i46 := by kernel_rfl
  i51 := by kernel_rfl
  i146 := by kernel_rfl
  m1 := by kernel_rfl
  s1_3 := fun w h => Go.Proofs.cell_of_shapedOpen_int (zero := #[.int .i64 0]) (t := 3) h (of_decide_eq_true (by kernel_rfl)) (by kernel_rfl) rfl (by kernel_rfl) (by kernel_rfl) Tryd.underlying3 }
open Go.RowKit Go.Lib in
theorem Tryd.strings_Index_shaped (s sub : ByteArray) (w : World) (h : w.ShapedOpen Tryd.prog) (hs : s.size < 4294967281) :
    Calls Tryd.prog 90 #[.string s, .string sub] w fun e w' => e = .returned (.int .i64 (Lib.index s.data.toList sub.data.toList)) ∧ w' = w := Any.strings_Index_shaped Tryd.laysM143 s sub w h hs
def Tryd.laysM138_ren : Go.Shelf.Ren := ⟨fun | 138 => 89 | 195 => 92 | 218 => 94 | 143 => 90 | 219 => 95 | 217 => 91 | 225 => 98 | 224 => 99 | 267 => 100 | 266 => 96 | 314 => 101 | n => n, fun | 9 => 9 | 3 => 3 | 4 => 4 | 5 => 5 | 0 => 0 | 46 => 120 | 146 => 138 | 51 => 137 | n => n, fun | 1 => 0 | n => n⟩
theorem Tryd.laysM138 : Go.Proofs.LaysM.n138 Tryd.prog Tryd.laysM138_ren := {
  mixed := by kernel_rfl
  f138 := Tryd.func89.trans (congrArg some (by kernel_rfl))
  f143 := Tryd.func90.trans (congrArg some (by kernel_rfl))
  f195 := Tryd.func92.trans (congrArg some (by kernel_rfl))
  f217 := Tryd.func91.trans (congrArg some (by kernel_rfl))
  f218 := Tryd.func94.trans (congrArg some (by kernel_rfl))
  f219 := Tryd.func95.trans (congrArg some (by kernel_rfl))
  f224 := Tryd.func99.trans (congrArg some (by kernel_rfl))
  f225 := Tryd.func98.trans (congrArg some (by kernel_rfl))
  f266 := Tryd.func96.trans (congrArg some (by kernel_rfl))
  f267 := Tryd.func100.trans (congrArg some (by kernel_rfl))
  f314 := Tryd.func101.trans (congrArg some (by kernel_rfl))
  t0 := Tryd.underlying0
  a0 := Tryd.isAgg0
  z0 := Tryd.sizeOf0
  v0 := Tryd.zeroValue0
  t3 := Tryd.underlying3
  a3 := Tryd.isAgg3
  z3 := Tryd.sizeOf3
  v3 := Tryd.zeroValue3
  t4 := Tryd.underlying4
  a4 := Tryd.isAgg4
  z4 := Tryd.sizeOf4
  v4 := Tryd.zeroValue4
  t5 := Tryd.underlying5
  a5 := Tryd.isAgg5
  z5 := Tryd.sizeOf5
  v5 := Tryd.zeroValue5
  t9 := Tryd.underlying9
  a9 := Tryd.isAgg9
  z9 := Tryd.sizeOf9
  v9 := Tryd.zeroValue9
  t46 := Tryd.underlying120
  a46 := Tryd.isAgg120
  z46 := Tryd.sizeOf120
  v46 := Tryd.zeroValue120
  t51 := Tryd.underlying137
  a51 := Tryd.isAgg137
  z51 := Tryd.sizeOf137
  v51 := Tryd.zeroValue137
  t146 := Tryd.underlying138
  a146 := Tryd.isAgg138
  z146 := Tryd.sizeOf138
  v146 := Tryd.zeroValue138
  g1 := by kernel_rfl
  i0 := by kernel_rfl
  i3 := by kernel_rfl
  i4 := by kernel_rfl
  i5 := by kernel_rfl
  i9 := by kernel_rfl
  i46 := by kernel_rfl
  i51 := by kernel_rfl
  i146 := by kernel_rfl
  m1 := by kernel_rfl
  s1_3 := fun w h => Go.Proofs.cell_of_shapedOpen_int (zero := #[.int .i64 0]) (t := 3) h (of_decide_eq_true (by kernel_rfl)) (by kernel_rfl) rfl (by kernel_rfl) (by kernel_rfl) Tryd.underlying3 }
open Go.RowKit Go.Lib in
theorem Tryd.strings_Count_shaped (s sub : ByteArray) (w : World) (h : w.ShapedOpen Tryd.prog) (hs : s.size < 4294967281) (h2 : 2 ≤ sub.size) :
    Calls Tryd.prog 89 #[.string s, .string sub] w fun e w' => e = .returned (.int .i64 (Lib.countB s sub)) ∧ w' = w := Any.strings_Count_shaped Tryd.laysM138 s sub w h hs h2
def Tryd.lays206_ren : Go.Shelf.Ren := ⟨fun | 206 => 76 | n => n, fun | 9 => 9 | 4 => 4 | 3 => 3 | n => n, fun | n => n⟩
theorem Tryd.lays206 : Go.Proofs.Lays.n206 Tryd.prog Tryd.lays206_ren := {
  mixed := by kernel_rfl
  f206 := Tryd.func76.trans (congrArg some (by kernel_rfl))
  t3 := Tryd.underlying3
  a3 := Tryd.isAgg3
  z3 := Tryd.sizeOf3
  v3 := Tryd.zeroValue3
  t4 := Tryd.underlying4
  a4 := Tryd.isAgg4
  z4 := Tryd.sizeOf4
  v4 := Tryd.zeroValue4
  t9 := Tryd.underlying9
  a9 := Tryd.isAgg9
  z9 := Tryd.sizeOf9
  v9 := Tryd.zeroValue9 }
open Go.RowKit Go.Lib in
/-- internal/stringslite.HasPrefix (what strings.HasPrefix calls). (LAID: no walk: one application.) -/
theorem Tryd.stringslite_HasPrefix (s p : ByteArray) (w : World) :
    Calls Tryd.prog 76 #[.string s, .string p] w fun e w' => e = .returned (.bool (Lib.hasPrefix s.data.toList p.data.toList)) ∧ w' = w := Any.stringslite_HasPrefix Tryd.lays206 s p w
def Tryd.lays99_ren : Go.Shelf.Ren := ⟨fun | 99 => 65 | 206 => 76 | n => n, fun | 9 => 9 | 4 => 4 | 3 => 3 | n => n, fun | n => n⟩
theorem Tryd.lays99 : Go.Proofs.Lays.n99 Tryd.prog Tryd.lays99_ren := {
  mixed := by kernel_rfl
  f99 := Tryd.func65.trans (congrArg some (by kernel_rfl))
  f206 := Tryd.func76.trans (congrArg some (by kernel_rfl))
  t3 := Tryd.underlying3
  a3 := Tryd.isAgg3
  z3 := Tryd.sizeOf3
  v3 := Tryd.zeroValue3
  t4 := Tryd.underlying4
  a4 := Tryd.isAgg4
  z4 := Tryd.sizeOf4
  v4 := Tryd.zeroValue4
  t9 := Tryd.underlying9
  a9 := Tryd.isAgg9
  z9 := Tryd.sizeOf9
  v9 := Tryd.zeroValue9 }
open Go.RowKit Go.Lib in
/-- strings.HasPrefix: "HasPrefix reports whether the string s begins with prefix.": IT RETURNS 'Lib.hasPrefix s prefix'; the world is as it was. (LAID: no walk: one application.) -/
theorem Tryd.strings_HasPrefix (s p : ByteArray) (w : World) :
    Calls Tryd.prog 65 #[.string s, .string p] w fun e w' => e = .returned (.bool (Lib.hasPrefix s.data.toList p.data.toList)) ∧ w' = w := Any.strings_HasPrefix Tryd.lays99 s p w
open Go.RowKit Go.Lib in
/-- strings.Count at whatever sep that is not empty: the two roads under one statement. (LAID: no walk: one application.) -/
theorem Tryd.strings_Count_any (s sep : ByteArray) (m : Int) (w : World) (hs : s.size < 4294967281) (hm : w.cell? ⟨0, 0, none⟩ = some (.int .i64 m)) (h1 : 1 ≤ sep.size) :
    Calls Tryd.prog 89 #[.string s, .string sep] w fun e w' => e = .returned (.int .i64 (Lib.countB s sep)) ∧ w' = w := Any.strings_Count_any Tryd.lays138 s sep m w hs hm h1
def Tryd.lays221_ren : Go.Shelf.Ren := ⟨fun | 221 => 85 | 268 => 88 | 138 => 89 | 143 => 90 | 195 => 92 | 197 => 93 | 218 => 94 | 219 => 95 | 260 => 97 | 217 => 91 | 225 => 98 | 224 => 99 | 267 => 100 | 266 => 96 | 314 => 101 | n => n, fun | 9 => 9 | 3 => 3 | 31 => 106 | 4 => 4 | 0 => 0 | 105 => 130 | 21 => 21 | 5 => 5 | 46 => 120 | 119 => 133 | 139 => 136 | 138 => 135 | 146 => 138 | 51 => 137 | n => n, fun | 1 => 0 | 3 => 1 | 4 => 2 | n => n⟩
theorem Tryd.lays221 : Go.Proofs.Lays.n221 Tryd.prog Tryd.lays221_ren := {
  mixed := by kernel_rfl
  f138 := Tryd.func89.trans (congrArg some (by kernel_rfl))
  f143 := Tryd.func90.trans (congrArg some (by kernel_rfl))
  f195 := Tryd.func92.trans (congrArg some (by kernel_rfl))
  f197 := Tryd.func93.trans (congrArg some (by kernel_rfl))
  f217 := Tryd.func91.trans (congrArg some (by kernel_rfl))
  f218 := Tryd.func94.trans (congrArg some (by kernel_rfl))
  f219 := Tryd.func95.trans (congrArg some (by kernel_rfl))
  f221 := Tryd.func85.trans (congrArg some (by kernel_rfl))
  f224 := Tryd.func99.trans (congrArg some (by kernel_rfl))
  f225 := Tryd.func98.trans (congrArg some (by kernel_rfl))
  f260 := Tryd.func97.trans (congrArg some (by kernel_rfl))
  f266 := Tryd.func96.trans (congrArg some (by kernel_rfl))
  f267 := Tryd.func100.trans (congrArg some (by kernel_rfl))
  f268 := Tryd.func88.trans (congrArg some (by kernel_rfl))
  f314 := Tryd.func101.trans (congrArg some (by kernel_rfl))
  t0 := Tryd.underlying0
  a0 := Tryd.isAgg0
  z0 := Tryd.sizeOf0
  v0 := Tryd.zeroValue0
  t3 := Tryd.underlying3
  a3 := Tryd.isAgg3
  z3 := Tryd.sizeOf3
  v3 := Tryd.zeroValue3
  t4 := Tryd.underlying4
  a4 := Tryd.isAgg4
  z4 := Tryd.sizeOf4
  v4 := Tryd.zeroValue4
  t5 := Tryd.underlying5
  a5 := Tryd.isAgg5
  z5 := Tryd.sizeOf5
  v5 := Tryd.zeroValue5
  t9 := Tryd.underlying9
  a9 := Tryd.isAgg9
  z9 := Tryd.sizeOf9
  v9 := Tryd.zeroValue9
  t21 := Tryd.underlying21
  a21 := Tryd.isAgg21
  z21 := Tryd.sizeOf21
  v21 := Tryd.zeroValue21
  t31 := Tryd.underlying106
  a31 := Tryd.isAgg106
  z31 := Tryd.sizeOf106
  v31 := Tryd.zeroValue106
  t46 := Tryd.underlying120
  a46 := Tryd.isAgg120
  z46 := Tryd.sizeOf120
  v46 := Tryd.zeroValue120
  t51 := Tryd.underlying137
  a51 := Tryd.isAgg137
  z51 := Tryd.sizeOf137
  v51 := Tryd.zeroValue137
  t105 := Tryd.underlying130
  a105 := Tryd.isAgg130
  z105 := Tryd.sizeOf130
  v105 := Tryd.zeroValue130
  t119 := Tryd.underlying133
  a119 := Tryd.isAgg133
  z119 := Tryd.sizeOf133
  t138 := Tryd.underlying135
  a138 := Tryd.isAgg135
  z138 := Tryd.sizeOf135
  v138 := Tryd.zeroValue135
  t139 := Tryd.underlying136
  a139 := Tryd.isAgg136
  z139 := Tryd.sizeOf136
  v139 := Tryd.zeroValue136
  t146 := Tryd.underlying138
  a146 := Tryd.isAgg138
  z146 := Tryd.sizeOf138
  v146 := Tryd.zeroValue138
  g1 := by kernel_rfl
  g3 := by kernel_rfl
  g4 := by kernel_rfl }
open Go.RowKit Go.Lib in
theorem Tryd.strings_genSplit (s sep : ByteArray) (sv : Nat) (n : Int) (N : Nat) (m : Int) (w : World) (hs : s.size < 4294967281) (hm : w.cell? ⟨0, 0, none⟩ = some (.int .i64 m)) (h1 : 1 ≤ sep.size) (hsv : sv ≤ sep.size) (hn0 : n ≠ 0) (hn63 : n ≤ 9223372036854775807) (hN : (N : Int) = min (if n < 0 then (Lib.countB s sep : Int) + 1 else n) ((s.size : Int) + 1)) :
    Calls Tryd.prog 85 #[.string s, .string sep, .int .i64 sv, .int .i64 n] w fun e w' =>
      e = .returned (.slice (some ⟨w.heap.size, 0, none⟩) (Lib.splitB sep sv (N - 1) s).length N) ∧ w' = w.alloc (.cells (Lib.cellsOf (Lib.splitB sep sv (N - 1) s) N) 9) := Any.strings_genSplit Tryd.lays221 (by kernel_rfl) s sep sv n N m w hs hm h1 hsv hn0 hn63 hN
def Tryd.lays146_ren : Go.Shelf.Ren := ⟨fun | 146 => 81 | 221 => 85 | 268 => 88 | 138 => 89 | 143 => 90 | 195 => 92 | 197 => 93 | 218 => 94 | 219 => 95 | 260 => 97 | 217 => 91 | 225 => 98 | 224 => 99 | 267 => 100 | 266 => 96 | 314 => 101 | n => n, fun | 9 => 9 | 31 => 106 | 3 => 3 | 4 => 4 | 0 => 0 | 105 => 130 | 21 => 21 | 5 => 5 | 46 => 120 | 119 => 133 | 139 => 136 | 138 => 135 | 146 => 138 | 51 => 137 | n => n, fun | 1 => 0 | 3 => 1 | 4 => 2 | n => n⟩
theorem Tryd.lays146 : Go.Proofs.Lays.n146 Tryd.prog Tryd.lays146_ren := {
  mixed := by kernel_rfl
  f138 := Tryd.func89.trans (congrArg some (by kernel_rfl))
  f143 := Tryd.func90.trans (congrArg some (by kernel_rfl))
  f146 := Tryd.func81.trans (congrArg some (by kernel_rfl))
  f195 := Tryd.func92.trans (congrArg some (by kernel_rfl))
  f197 := Tryd.func93.trans (congrArg some (by kernel_rfl))
  f217 := Tryd.func91.trans (congrArg some (by kernel_rfl))
  f218 := Tryd.func94.trans (congrArg some (by kernel_rfl))
  f219 := Tryd.func95.trans (congrArg some (by kernel_rfl))
  f221 := Tryd.func85.trans (congrArg some (by kernel_rfl))
  f224 := Tryd.func99.trans (congrArg some (by kernel_rfl))
  f225 := Tryd.func98.trans (congrArg some (by kernel_rfl))
  f260 := Tryd.func97.trans (congrArg some (by kernel_rfl))
  f266 := Tryd.func96.trans (congrArg some (by kernel_rfl))
  f267 := Tryd.func100.trans (congrArg some (by kernel_rfl))
  f268 := Tryd.func88.trans (congrArg some (by kernel_rfl))
  f314 := Tryd.func101.trans (congrArg some (by kernel_rfl))
  t0 := Tryd.underlying0
  a0 := Tryd.isAgg0
  z0 := Tryd.sizeOf0
  v0 := Tryd.zeroValue0
  t3 := Tryd.underlying3
  a3 := Tryd.isAgg3
  z3 := Tryd.sizeOf3
  v3 := Tryd.zeroValue3
  t4 := Tryd.underlying4
  a4 := Tryd.isAgg4
  z4 := Tryd.sizeOf4
  v4 := Tryd.zeroValue4
  t5 := Tryd.underlying5
  a5 := Tryd.isAgg5
  z5 := Tryd.sizeOf5
  v5 := Tryd.zeroValue5
  t9 := Tryd.underlying9
  a9 := Tryd.isAgg9
  z9 := Tryd.sizeOf9
  v9 := Tryd.zeroValue9
  t21 := Tryd.underlying21
  a21 := Tryd.isAgg21
  z21 := Tryd.sizeOf21
  v21 := Tryd.zeroValue21
  t31 := Tryd.underlying106
  a31 := Tryd.isAgg106
  z31 := Tryd.sizeOf106
  v31 := Tryd.zeroValue106
  t46 := Tryd.underlying120
  a46 := Tryd.isAgg120
  z46 := Tryd.sizeOf120
  v46 := Tryd.zeroValue120
  t51 := Tryd.underlying137
  a51 := Tryd.isAgg137
  z51 := Tryd.sizeOf137
  v51 := Tryd.zeroValue137
  t105 := Tryd.underlying130
  a105 := Tryd.isAgg130
  z105 := Tryd.sizeOf130
  v105 := Tryd.zeroValue130
  t119 := Tryd.underlying133
  a119 := Tryd.isAgg133
  z119 := Tryd.sizeOf133
  t138 := Tryd.underlying135
  a138 := Tryd.isAgg135
  z138 := Tryd.sizeOf135
  v138 := Tryd.zeroValue135
  t139 := Tryd.underlying136
  a139 := Tryd.isAgg136
  z139 := Tryd.sizeOf136
  v139 := Tryd.zeroValue136
  t146 := Tryd.underlying138
  a146 := Tryd.isAgg138
  z146 := Tryd.sizeOf138
  v146 := Tryd.zeroValue138
  g1 := by kernel_rfl
  g3 := by kernel_rfl
  g4 := by kernel_rfl }
open Go.RowKit Go.Lib in
/-- strings.Split. (LAID: no walk: one application.) -/
theorem Tryd.strings_Split (s sep : ByteArray) (m : Int) (w : World) (hs : s.size < 4294967281) (hm : w.cell? ⟨0, 0, none⟩ = some (.int .i64 m)) (h1 : 1 ≤ sep.size) :
    Calls Tryd.prog 81 #[.string s, .string sep] w fun e w' =>
      e = .returned (.slice (some ⟨w.heap.size, 0, none⟩) (Lib.countB s sep + 1) (Lib.countB s sep + 1)) ∧ w' = w.alloc (.cells ((Lib.splitB sep 0 (Lib.countB s sep) s).map Value.string).toArray 9) := Any.strings_Split Tryd.lays146 (by kernel_rfl) s sep m w hs hm h1
def Tryd.laysM146_ren : Go.Shelf.Ren := ⟨fun | 146 => 81 | 221 => 85 | 268 => 88 | 138 => 89 | 143 => 90 | 195 => 92 | 197 => 93 | 218 => 94 | 219 => 95 | 260 => 97 | 217 => 91 | 225 => 98 | 224 => 99 | 267 => 100 | 266 => 96 | 314 => 101 | n => n, fun | 9 => 9 | 31 => 106 | 3 => 3 | 4 => 4 | 0 => 0 | 105 => 130 | 21 => 21 | 5 => 5 | 46 => 120 | 119 => 133 | 139 => 136 | 138 => 135 | 146 => 138 | 51 => 137 | n => n, fun | 1 => 0 | 3 => 1 | 4 => 2 | n => n⟩
theorem Tryd.laysM146 : Go.Proofs.LaysM.n146 Tryd.prog Tryd.laysM146_ren := {
  mixed := by kernel_rfl
  f138 := Tryd.func89.trans (congrArg some (by kernel_rfl))
  f143 := Tryd.func90.trans (congrArg some (by kernel_rfl))
  f146 := Tryd.func81.trans (congrArg some (by kernel_rfl))
  f195 := Tryd.func92.trans (congrArg some (by kernel_rfl))
  f197 := Tryd.func93.trans (congrArg some (by kernel_rfl))
  f217 := Tryd.func91.trans (congrArg some (by kernel_rfl))
  f218 := Tryd.func94.trans (congrArg some (by kernel_rfl))
  f219 := Tryd.func95.trans (congrArg some (by kernel_rfl))
  f221 := Tryd.func85.trans (congrArg some (by kernel_rfl))
  f224 := Tryd.func99.trans (congrArg some (by kernel_rfl))
  f225 := Tryd.func98.trans (congrArg some (by kernel_rfl))
  f260 := Tryd.func97.trans (congrArg some (by kernel_rfl))
  f266 := Tryd.func96.trans (congrArg some (by kernel_rfl))
  f267 := Tryd.func100.trans (congrArg some (by kernel_rfl))
  f268 := Tryd.func88.trans (congrArg some (by kernel_rfl))
  f314 := Tryd.func101.trans (congrArg some (by kernel_rfl))
  t0 := Tryd.underlying0
  a0 := Tryd.isAgg0
  z0 := Tryd.sizeOf0
  v0 := Tryd.zeroValue0
  t3 := Tryd.underlying3
  a3 := Tryd.isAgg3
  z3 := Tryd.sizeOf3
  v3 := Tryd.zeroValue3
  t4 := Tryd.underlying4
  a4 := Tryd.isAgg4
  z4 := Tryd.sizeOf4
  v4 := Tryd.zeroValue4
  t5 := Tryd.underlying5
  a5 := Tryd.isAgg5
  z5 := Tryd.sizeOf5
  v5 := Tryd.zeroValue5
  t9 := Tryd.underlying9
  a9 := Tryd.isAgg9
  z9 := Tryd.sizeOf9
  v9 := Tryd.zeroValue9
  t21 := Tryd.underlying21
  a21 := Tryd.isAgg21
  z21 := Tryd.sizeOf21
  v21 := Tryd.zeroValue21
  t31 := Tryd.underlying106
  a31 := Tryd.isAgg106
  z31 := Tryd.sizeOf106
  v31 := Tryd.zeroValue106
  t46 := Tryd.underlying120
  a46 := Tryd.isAgg120
  z46 := Tryd.sizeOf120
  v46 := Tryd.zeroValue120
  t51 := Tryd.underlying137
  a51 := Tryd.isAgg137
  z51 := Tryd.sizeOf137
  v51 := Tryd.zeroValue137
  t105 := Tryd.underlying130
  a105 := Tryd.isAgg130
  z105 := Tryd.sizeOf130
  v105 := Tryd.zeroValue130
  t119 := Tryd.underlying133
  a119 := Tryd.isAgg133
  z119 := Tryd.sizeOf133
  t138 := Tryd.underlying135
  a138 := Tryd.isAgg135
  z138 := Tryd.sizeOf135
  v138 := Tryd.zeroValue135
  t139 := Tryd.underlying136
  a139 := Tryd.isAgg136
  z139 := Tryd.sizeOf136
  v139 := Tryd.zeroValue136
  t146 := Tryd.underlying138
  a146 := Tryd.isAgg138
  z146 := Tryd.sizeOf138
  v146 := Tryd.zeroValue138
  g1 := by kernel_rfl
  g3 := by kernel_rfl
  g4 := by kernel_rfl
  i0 := by kernel_rfl
  i3 := by kernel_rfl
  i4 := by kernel_rfl
  i5 := by kernel_rfl
  i9 := by kernel_rfl
  i21 := by kernel_rfl
  i31 := by kernel_rfl
  i46 := by kernel_rfl
  i51 := by kernel_rfl
  i105 := by kernel_rfl
  i138 := by kernel_rfl
  i139 := by kernel_rfl
  i146 := by kernel_rfl
  m1 := by kernel_rfl
  s1_3 := fun w h => Go.Proofs.cell_of_shapedOpen_int (zero := #[.int .i64 0]) (t := 3) h (of_decide_eq_true (by kernel_rfl)) (by kernel_rfl) rfl (by kernel_rfl) (by kernel_rfl) Tryd.underlying3
  m3 := by kernel_rfl
  m4 := by kernel_rfl }
open Go.RowKit Go.Lib in
/-- strings.Split, sep not empty. (LAID: no walk: one application.) -/
theorem Tryd.strings_Split_shaped (s sep : ByteArray) (w : World) (h : w.ShapedOpen Tryd.prog) (hs : s.size < 4294967281) (h1 : 1 ≤ sep.size) :
    Calls Tryd.prog 81 #[.string s, .string sep] w fun e w' =>
      e = .returned (.slice (some ⟨w.heap.size, 0, none⟩) (Lib.countB s sep + 1) (Lib.countB s sep + 1)) ∧ w' = w.alloc (.cells ((Lib.splitB sep 0 (Lib.countB s sep) s).map Value.string).toArray 9) := Any.strings_Split_shaped Tryd.laysM146 s sep w h hs h1
def Tryd.lays197_ren : Go.Shelf.Ren := ⟨fun | 197 => 93 | 260 => 97 | n => n, fun | 9 => 9 | 21 => 21 | 3 => 3 | 4 => 4 | 5 => 5 | 105 => 130 | 119 => 133 | 0 => 0 | 46 => 120 | 139 => 136 | 138 => 135 | n => n, fun | 3 => 1 | 4 => 2 | n => n⟩
theorem Tryd.lays197 : Go.Proofs.Lays.n197 Tryd.prog Tryd.lays197_ren := {
  mixed := by kernel_rfl
  f197 := Tryd.func93.trans (congrArg some (by kernel_rfl))
  f260 := Tryd.func97.trans (congrArg some (by kernel_rfl))
  t0 := Tryd.underlying0
  a0 := Tryd.isAgg0
  z0 := Tryd.sizeOf0
  v0 := Tryd.zeroValue0
  t3 := Tryd.underlying3
  a3 := Tryd.isAgg3
  z3 := Tryd.sizeOf3
  v3 := Tryd.zeroValue3
  t4 := Tryd.underlying4
  a4 := Tryd.isAgg4
  z4 := Tryd.sizeOf4
  v4 := Tryd.zeroValue4
  t5 := Tryd.underlying5
  a5 := Tryd.isAgg5
  z5 := Tryd.sizeOf5
  v5 := Tryd.zeroValue5
  t9 := Tryd.underlying9
  a9 := Tryd.isAgg9
  z9 := Tryd.sizeOf9
  v9 := Tryd.zeroValue9
  t21 := Tryd.underlying21
  a21 := Tryd.isAgg21
  z21 := Tryd.sizeOf21
  v21 := Tryd.zeroValue21
  t46 := Tryd.underlying120
  a46 := Tryd.isAgg120
  z46 := Tryd.sizeOf120
  v46 := Tryd.zeroValue120
  t105 := Tryd.underlying130
  a105 := Tryd.isAgg130
  z105 := Tryd.sizeOf130
  v105 := Tryd.zeroValue130
  t119 := Tryd.underlying133
  a119 := Tryd.isAgg133
  z119 := Tryd.sizeOf133
  t138 := Tryd.underlying135
  a138 := Tryd.isAgg135
  z138 := Tryd.sizeOf135
  v138 := Tryd.zeroValue135
  t139 := Tryd.underlying136
  a139 := Tryd.isAgg136
  z139 := Tryd.sizeOf136
  v139 := Tryd.zeroValue136
  g3 := by kernel_rfl
  g4 := by kernel_rfl }
open Go.RowKit Go.Lib in
/-- unicode/utf8.DecodeRuneInString: "DecodeRuneInString is like DecodeRune but its input is a string.": ("DecodeRune unpacks the first UTF-8 encoding in p and returns the rune and its width in bytes."): WHERE s BEGINS WITH AN ASCII BYTE x: (x, 1). (LAID: no walk: one application.) -/
theorem Tryd.utf8_DecodeRuneInString_ascii (s : ByteArray) (x : UInt8) (w : World) (h0 : s.data.toList[0]? = some x) (hx : x.toNat < 128) :
    Calls Tryd.prog 93 #[.string s] w fun e w' => e = .returned (.tuple #[.int .i32 x.toNat, .int .i64 1]) ∧ w' = w := Any.utf8_DecodeRuneInString_ascii Tryd.lays197 s x w h0 hx
open Go.RowKit Go.Lib in
theorem Tryd.utf8_RuneCountInString_ascii (s : ByteArray) (w : World) (hs : s.size < 4294967281) (hascii : ∀ (j : Nat) b, s.data.toList[j]? = some b → b.toNat < 128) :
    Calls Tryd.prog 92 #[.string s] w fun e w' => e = .returned (.int .i64 s.size) ∧ w' = w.iter s s.size := Any.utf8_RuneCountInString_ascii Tryd.lays195 s w hs hascii
def Tryd.lays268_ren : Go.Shelf.Ren := ⟨fun | 268 => 88 | 195 => 92 | 197 => 93 | 260 => 97 | n => n, fun | 9 => 9 | 3 => 3 | 31 => 106 | 4 => 4 | 105 => 130 | 21 => 21 | 0 => 0 | 5 => 5 | 119 => 133 | 46 => 120 | 139 => 136 | 138 => 135 | n => n, fun | 3 => 1 | 4 => 2 | n => n⟩
theorem Tryd.lays268 : Go.Proofs.Lays.n268 Tryd.prog Tryd.lays268_ren := {
  mixed := by kernel_rfl
  f195 := Tryd.func92.trans (congrArg some (by kernel_rfl))
  f197 := Tryd.func93.trans (congrArg some (by kernel_rfl))
  f260 := Tryd.func97.trans (congrArg some (by kernel_rfl))
  f268 := Tryd.func88.trans (congrArg some (by kernel_rfl))
  t0 := Tryd.underlying0
  a0 := Tryd.isAgg0
  z0 := Tryd.sizeOf0
  v0 := Tryd.zeroValue0
  t3 := Tryd.underlying3
  a3 := Tryd.isAgg3
  z3 := Tryd.sizeOf3
  v3 := Tryd.zeroValue3
  t4 := Tryd.underlying4
  a4 := Tryd.isAgg4
  z4 := Tryd.sizeOf4
  v4 := Tryd.zeroValue4
  t5 := Tryd.underlying5
  a5 := Tryd.isAgg5
  z5 := Tryd.sizeOf5
  v5 := Tryd.zeroValue5
  t9 := Tryd.underlying9
  a9 := Tryd.isAgg9
  z9 := Tryd.sizeOf9
  v9 := Tryd.zeroValue9
  t21 := Tryd.underlying21
  a21 := Tryd.isAgg21
  z21 := Tryd.sizeOf21
  v21 := Tryd.zeroValue21
  t31 := Tryd.underlying106
  a31 := Tryd.isAgg106
  z31 := Tryd.sizeOf106
  v31 := Tryd.zeroValue106
  t46 := Tryd.underlying120
  a46 := Tryd.isAgg120
  z46 := Tryd.sizeOf120
  v46 := Tryd.zeroValue120
  t105 := Tryd.underlying130
  a105 := Tryd.isAgg130
  z105 := Tryd.sizeOf130
  v105 := Tryd.zeroValue130
  t119 := Tryd.underlying133
  a119 := Tryd.isAgg133
  z119 := Tryd.sizeOf133
  t138 := Tryd.underlying135
  a138 := Tryd.isAgg135
  z138 := Tryd.sizeOf135
  v138 := Tryd.zeroValue135
  t139 := Tryd.underlying136
  a139 := Tryd.isAgg136
  z139 := Tryd.sizeOf136
  v139 := Tryd.zeroValue136
  g3 := by kernel_rfl
  g4 := by kernel_rfl }
open Go.RowKit Go.Lib in
theorem Tryd.strings_explode_all (s : ByteArray) (n : Int) (w : World) (hn : n < 0) (hs : s.size < 4294967281) (hascii : ∀ (j : Nat) b, s.data.toList[j]? = some b → b.toNat < 128) :
    Calls Tryd.prog 88 #[.string s, .int .i64 n] w fun e w' =>
      e = .returned (.slice (some ⟨(w.iter s s.size).heap.size, 0, none⟩) s.size s.size) ∧ w' = (w.iter s s.size).alloc (.cells ((Lib.charsB s).map Value.string).toArray 9) := Any.strings_explode_all Tryd.lays268 (by kernel_rfl) s n w hn hs hascii
open Go.RowKit Go.Lib in
/-- strings.genSplit at sep == "", n < 0: 'return explode(s, n)'. (LAID: no walk: one application.) -/
theorem Tryd.strings_genSplit_chars (s sep : ByteArray) (sv n : Int) (w : World) (h0 : sep.size = 0) (hn : n < 0) (hs : s.size < 4294967281) (hascii : ∀ (j : Nat) b, s.data.toList[j]? = some b → b.toNat < 128) :
    Calls Tryd.prog 85 #[.string s, .string sep, .int .i64 sv, .int .i64 n] w fun e w' =>
      e = .returned (.slice (some ⟨(w.iter s s.size).heap.size, 0, none⟩) s.size s.size) ∧ w' = (w.iter s s.size).alloc (.cells ((Lib.charsB s).map Value.string).toArray 9) := Any.strings_genSplit_chars Tryd.lays221 (by kernel_rfl) s sep sv n w h0 hn hs hascii
open Go.RowKit Go.Lib in
/-- strings.Split(s, ""), s ASCII: a piece a byte. (LAID: no walk: one application.) -/
theorem Tryd.strings_Split_chars (s sep : ByteArray) (w : World) (h0 : sep.size = 0) (hs : s.size < 4294967281) (hascii : ∀ (j : Nat) b, s.data.toList[j]? = some b → b.toNat < 128) :
    Calls Tryd.prog 81 #[.string s, .string sep] w fun e w' =>
      e = .returned (.slice (some ⟨(w.iter s s.size).heap.size, 0, none⟩) s.size s.size) ∧ w' = (w.iter s s.size).alloc (.cells ((Lib.charsB s).map Value.string).toArray 9) := Any.strings_Split_chars Tryd.lays146 (by kernel_rfl) s sep w h0 hs hascii
def Tryd.lays260_ren : Go.Shelf.Ren := ⟨fun | 260 => 97 | n => n, fun | 9 => 9 | 21 => 21 | 3 => 3 | 4 => 4 | 5 => 5 | 119 => 133 | 0 => 0 | 46 => 120 | 139 => 136 | 138 => 135 | n => n, fun | 3 => 1 | 4 => 2 | n => n⟩
theorem Tryd.lays260 : Go.Proofs.Lays.n260 Tryd.prog Tryd.lays260_ren := {
  mixed := by kernel_rfl
  f260 := Tryd.func97.trans (congrArg some (by kernel_rfl))
  t0 := Tryd.underlying0
  a0 := Tryd.isAgg0
  z0 := Tryd.sizeOf0
  v0 := Tryd.zeroValue0
  t3 := Tryd.underlying3
  a3 := Tryd.isAgg3
  z3 := Tryd.sizeOf3
  v3 := Tryd.zeroValue3
  t4 := Tryd.underlying4
  a4 := Tryd.isAgg4
  z4 := Tryd.sizeOf4
  v4 := Tryd.zeroValue4
  t5 := Tryd.underlying5
  a5 := Tryd.isAgg5
  z5 := Tryd.sizeOf5
  v5 := Tryd.zeroValue5
  t9 := Tryd.underlying9
  a9 := Tryd.isAgg9
  z9 := Tryd.sizeOf9
  v9 := Tryd.zeroValue9
  t21 := Tryd.underlying21
  a21 := Tryd.isAgg21
  z21 := Tryd.sizeOf21
  v21 := Tryd.zeroValue21
  t46 := Tryd.underlying120
  a46 := Tryd.isAgg120
  z46 := Tryd.sizeOf120
  v46 := Tryd.zeroValue120
  t119 := Tryd.underlying133
  a119 := Tryd.isAgg133
  z119 := Tryd.sizeOf133
  t138 := Tryd.underlying135
  a138 := Tryd.isAgg135
  z138 := Tryd.sizeOf135
  v138 := Tryd.zeroValue135
  t139 := Tryd.underlying136
  a139 := Tryd.isAgg136
  z139 := Tryd.sizeOf136
  v139 := Tryd.zeroValue136
  g3 := by kernel_rfl
  g4 := by kernel_rfl }
open Go.RowKit Go.Lib in
theorem Tryd.utf8_decodeRuneInStringSlow (s : ByteArray) (w : World) (hT : Lib.Utf8Tabs 1 2 w) :
    Calls Tryd.prog 97 #[.string s] w fun e w' => e = .returned (.tuple #[.int .i32 (Lib.decodeGo s).1, .int .i64 (Lib.decodeGo s).2]) ∧ Below w.heap.size w w' := Any.utf8_decodeRuneInStringSlow Tryd.lays260 s w hT
open Go.RowKit Go.Lib in
/-- **unicode/utf8.DecodeRuneInString AT EVERY STRING.** (LAID: no walk: one application.) -/
theorem Tryd.utf8_DecodeRuneInString (s : ByteArray) (w : World) (hT : Lib.Utf8Tabs 1 2 w) :
    Calls Tryd.prog 93 #[.string s] w fun e w' => e = .returned (.tuple #[.int .i32 (Lib.decodeGo s).1, .int .i64 (Lib.decodeGo s).2]) ∧ Below w.heap.size w w' := Any.utf8_DecodeRuneInString Tryd.lays197 s w hT
def Tryd.laysNm237_ren : Go.Shelf.Ren := ⟨fun | 37 => 54 | n => n, fun | 3 => 3 | 4 => 4 | n => n, fun | n => n⟩
theorem Tryd.laysNm237 : Go.Proofs.Lays2.n37 Tryd.prog Tryd.laysNm237_ren := {
  mixed := by kernel_rfl
  f37 := Tryd.func54.trans (congrArg some (by kernel_rfl))
  t3 := Tryd.underlying3
  a3 := Tryd.isAgg3
  z3 := Tryd.sizeOf3
  v3 := Tryd.zeroValue3
  t4 := Tryd.underlying4
  a4 := Tryd.isAgg4
  z4 := Tryd.sizeOf4
  v4 := Tryd.zeroValue4 }
open Go.RowKit Go.Lib in
/-- cmp.isNaN[int]: 'x != x': false. (LAID: no walk: one application.) -/
theorem Tryd.cmp_isNaN_int2 (x : Int) (w : World) :
    Calls Tryd.prog 54 #[.int .i64 x] w fun e w' => e = .returned (.bool false) ∧ w' = w := Any.cmp_isNaN_int2 Tryd.laysNm237 x w
end Go.Proofs
/- The contracts of path.components, Split, Join. -/
namespace Go.Proofs.YtmhmnchdhacdbaaDoor
open Go.RowKit
set_option linter.unusedVariables false

/-- The library's variable MaxLen holds some number. -/
def Env (w : World) : Prop := ∃ m : Int, w.cell? ⟨0, 0, none⟩ = some (.int .i64 m)
theorem Env.below {w w' : World} (h : Env w) (hb : Below w.heap.size w w') : Env w' := by
  obtain ⟨m, hm⟩ := h; exact ⟨m, (hb.cell (p := ⟨0, 0, none⟩) (cell_lt hm)).trans hm⟩
theorem Env.alloc {w : World} (h : Env w) (o : Obj) : Env (w.alloc o) := h.below ((Below.refl _ _).alloc (Nat.le_refl _) _)

def baL (p : List UInt8) : ByteArray := ⟨p.toArray⟩
def strCells (ps : List (List UInt8)) : List Value := ps.map fun p => .string (baL p)
theorem baL_data (p : List UInt8) : (baL p).data.toList = p := rfl
theorem baL_size (p : List UInt8) : (baL p).size = p.length := by simp [baL, ByteArray.size]

theorem split_any (s : ByteArray) (w : World) (he : Env w) (hs : s.size < 4294967281) :
    Calls Tryd.prog 81 #[.string s, .string ⟨#[47]⟩] w fun e w' =>
      e = .returned (.slice (some ⟨w.heap.size, 0, none⟩) (splitL s.data.toList).length (splitL s.data.toList).length) ∧ w.alloc (.cells (strCells (splitL s.data.toList)).toArray 9) = w' := by
  obtain ⟨m, hm⟩ := he
  refine (Tryd.strings_Split s ⟨#[47]⟩ m w hs hm (by decide)).mono ?_
  rintro e w' ⟨rfl, rfl⟩
  rw [countB_eq, splitB_eq]
  exact ⟨rfl, by unfold strCells; rw [List.map_map]; rfl⟩

theorem Blk.strs {w : World} {g : Nat} {ps : List (List UInt8)} (h : Blk w g 9 (strCells ps)) (k : Nat) (hk : k < ps.length) : w.cell? ⟨g, k, none⟩ = some (.string (baL ps[k])) := by
  rw [h.cell]; simp [strCells, hk]

theorem all_take {α : Type} (ps : List α) (f : α → Bool) (k : Nat) (hk : k < ps.length) (h : (ps.take k).all f = true) (hf : f ps[k] = true) : (ps.take (k + 1)).all f = true := by
  rw [List.take_succ_eq_append_getElem hk, List.all_append, h]; simp [hf]

end Go.Proofs.YtmhmnchdhacdbaaDoor
/- The contracts of path.Join and of the reference's Component, Parts, Path, Join. -/
namespace Go.Proofs.YtmhmnchdhacdbaaDoor
open Go.RowKit
set_option linter.unusedVariables false

def joinP (ps : List (List UInt8)) : List UInt8 := [47, 47] ++ Lib.join ps [47]
/-- The cells of a block from o on hold these texts. -/
def StrsAt (w : World) (bk o : Nat) (ps : List (List UInt8)) : Prop := ∀ k (hk : k < ps.length), w.cell? ⟨bk, o + k, none⟩ = some (.string (baL ps[k]))
theorem StrsAt.lt {w : World} {bk o : Nat} {ps : List (List UInt8)} (h : StrsAt w bk o ps) (h0 : 0 < ps.length) : bk < w.heap.size := cell_lt (h 0 h0)
theorem StrsAt.below {w w' : World} {bk o : Nat} {ps : List (List UInt8)} (h : StrsAt w bk o ps) (hb : Below w.heap.size w w') : StrsAt w' bk o ps := fun k hk => cell_below (h k hk) hb (cell_lt (h k hk))
theorem StrsAt.of_blk {w : World} {g : Nat} {ps : List (List UInt8)} (h : Blk w g 9 (strCells ps)) : StrsAt w g 0 ps := fun k hk => by rw [Nat.zero_add]; exact h.strs k hk

theorem strs_get (ps : List (List UInt8)) (j : Nat) (x : ByteArray) (h : (ps.map baL)[j]? = some x) : ∃ hk : j < ps.length, x = baL ps[j] := by
  rw [List.getElem?_map] at h
  rcases hj : ps[j]? with _ | p
  · rw [hj] at h; cases h
  · rw [hj] at h
    obtain ⟨hk, e⟩ := List.getElem?_eq_some_iff.1 hj
    exact ⟨hk, by rw [e]; simpa using h.symm⟩
theorem map_baL (ps : List (List UInt8)) : (ps.map baL).map (·.data.toList) = ps := by
  rw [List.map_map]; conv => rhs; rw [← List.map_id ps]
  exact List.map_congr_left fun p _ => baL_data p

/-! The reference. -/
def letters : List UInt8 := [65, 66, 67, 68, 69, 70, 71, 72, 73, 74, 75, 76, 77, 78, 79, 80, 81, 82, 83, 84, 85, 86, 87, 88, 89, 90, 97, 98, 99, 100, 101, 102, 103, 104, 105, 106, 107, 108, 109, 110, 111, 112, 113, 114, 115, 116, 117, 118, 119, 120, 121, 122, 48, 49, 50, 51, 52, 53, 54, 55, 56, 57, 95, 46, 43, 45]
theorem letters_fin : ∀ n : Fin 256, decide (Lib.indexByte letters (UInt8.ofNat n.val) < 0) = !byteB (n.val : Int) := by decide +kernel
theorem letters_all (c : UInt8) : decide (Lib.indexByte letters c < 0) = !byteB c.toNat := by
  have := letters_fin ⟨c.toNat, c.toNat_lt⟩
  simpa using this
theorem letters_int (c : UInt8) : ((c.toNat : Int)).toNat.toUInt8 = c := by simp
theorem refLetter (c : UInt8) (w : World) (b : Bool) (h : byteB c.toNat = b) : Calls Tryd.prog 86 #[.string ⟨letters.toArray⟩, .int .u8 c.toNat] w fun e w' => ∃ n : Int, e = .returned (.int .i64 n) ∧ decide (n < 0) = (!b) ∧ w = w' := by
  refine (Tryd.strings_IndexByte ⟨letters.toArray⟩ c.toNat w).mono ?_
  rintro e w' ⟨rfl, rfl⟩
  exact ⟨_, rfl, by rw [letters_int]; show decide (Lib.indexByte letters c < 0) = _; rw [letters_all, h], rfl⟩

set_option maxHeartbeats 1000000 in
theorem refComponent_any (s : ByteArray) (w : World) (hs : s.size ≤ maxLen) :
    Calls Tryd.prog 82 #[.string s] w fun e w' => e = .returned (.bool (compS s)) ∧ w = w' := by
  unfold maxLen at hs
  rcases Nat.eq_zero_or_pos s.size with h0 | h0
  · have hne : s.toList = [] := by rw [ByteArray.toList_eq]; exact List.eq_nil_of_length_eq_zero (by simpa using h0)
    have H0 := Lib.hid (compS_nil h0)
    clear h0
    go_enter Tryd.func82, Tryd.ntmps82
    go_wp2_with fail
    go_ret
    exact ⟨ret_bool H0.out.symm, rfl⟩
  · obtain ⟨c, t, hd, hc⟩ := size_pos_of h0
    have hne : s.toList.isEmpty = false := by rw [ByteArray.toList_eq, hd]; rfl
    have hne2 : ¬ s.toList = [] := by rw [ByteArray.toList_eq, hd]; simp
    have HD := Lib.hid hd
    by_cases hc46 : c = 46
    · have h46 : ((s[0].toNat : Int) == 46) = true := by rw [hc, hc46]; rfl
      clear hd hc
      go_enter Tryd.func82, Tryd.ntmps82
      go_wp2_with fail
      go_ret
      exact ⟨ret_bool (compS_dot HD.out hc46).symm, rfl⟩
    · have h46 : ((s[0].toNat : Int) == 46) = false := by
        rw [hc, beq_eq_false_iff_ne]; intro h; exact hc46 (UInt8.toNat.inj (show c.toNat = 46 by omega))
      have HE := Lib.hid (compS_all HD.out hc46)
      clear hd hc HD hc46
      go_enter Tryd.func82, Tryd.ntmps82
      go_wp2_with fail
      clear h46
      go_loop [3] (fun i => ∃ k : Nat, k ≤ s.size ∧ i = .int .i64 k ∧ (s.data.toList.take k).all (fun c => byteB c.toNat) = true) (fun i => s.size - (intOf i).toNat)
      case atStart => exact ⟨0, Nat.zero_le _, rfl, rfl⟩
      case round =>
        obtain ⟨k, hk, rfl, hall⟩ := hrel
        have HA := Lib.hid hall
        clear hall
        by_cases hlt : k < s.size
        · cases hl : byteB s[k].toNat
          · have HL := Lib.hid hl
            clear hl
            go_wp2_with fail
            refine (refLetter s[k] _ _ HL.out).mono ?_
            rintro e w' ⟨n, rfl, hn, rfl⟩
            have hn' : decide (n < 0) = true := hn
            clear hn
            go_wp2
            go_ret
            exact ⟨ret_bool (compS_no (all_stop s (fun c => byteB c.toNat) k hlt HL.out)).symm, rfl⟩
          · have HL := Lib.hid hl
            clear hl
            go_wp2_with fail
            refine (refLetter s[k] _ _ HL.out).mono ?_
            rintro e w' ⟨n, rfl, hn, rfl⟩
            have hn' : decide (n < 0) = false := hn
            clear hn
            go_wp2
            go_round
            case rel => exact ⟨k + 1, by omega, by go_num, all_step s (fun c => byteB c.toNat) k hlt HA.out HL.out⟩
            case measure => simp [intOf]; omega
        · go_wp2_with fail
          go_ret
          exact ⟨ret_bool (by rw [HE.out, all_end s _ k hlt HA.out]), rfl⟩

/-- The reference's Parts. -/
def partsL (l : List UInt8) : Option (List (List UInt8)) := dirL l 1
theorem partsL_some {l : List UInt8} {ps : List (List UInt8)} (h : dirL l 1 = some ps) : Lib.hasPrefix l [47, 47] = true ∧ ps = splitL (l.drop 2) ∧ ps.all compL = true := by
  unfold dirL at h
  split at h
  · rename_i hc; injection h with h; subst h; exact ⟨hc.1, rfl, hc.2.2⟩
  · cases h
theorem partsL_none {l : List UInt8} (h : dirL l 1 = none) (h1 : Lib.hasPrefix l [47, 47] = true) : (splitL (l.drop 2)).all compL = false := by
  unfold dirL at h
  split at h
  · cases h
  · rename_i hc
    cases hh : (splitL (l.drop 2)).all compL
    · rfl
    · exact absurd ⟨h1, by have := splitL_ne (l.drop 2); cases hs : splitL (l.drop 2) <;> simp_all, hh⟩ hc
theorem hasPrefix_sizeR {s : ByteArray} (h : Lib.hasPrefix s.data.toList [47, 47] = true) : 2 ≤ s.size := by
  have : s.data.toList.length = s.size := rfl
  rw [← this]
  cases hl : s.data.toList with
  | nil => rw [hl] at h; cases h
  | cons a l => cases l with
    | nil => rw [hl] at h; unfold Lib.hasPrefix at h; simp at h
    | cons b l => simp

theorem hasPR (s p : ByteArray) (w : World) (b : Bool) (h : Lib.hasPrefix s.data.toList p.data.toList = b) : Calls Tryd.prog 65 #[.string s, .string p] w fun e w' => e = .returned (.bool b) ∧ w = w' := by
  refine (Tryd.strings_HasPrefix s p w).mono ?_
  rintro e w' ⟨rfl, rfl⟩
  exact ⟨by rw [h], rfl⟩

theorem ext_eq (s : ByteArray) (k : Nat) : s.extract k s.size = baL (s.data.toList.drop k) := ba_ext (by
  rw [baL_data]; exact Lib.extract_to_end s k)
theorem split_ext (s : ByteArray) (k : Nat) (w : World) (he : Env w) (hs : s.size ≤ 2000000) :
    Calls Tryd.prog 81 #[.string (s.extract k s.size), .string ⟨#[47]⟩] w fun e w' =>
      e = .returned (.slice (some ⟨w.heap.size, 0, none⟩) (splitL (s.data.toList.drop k)).length (splitL (s.data.toList.drop k)).length) ∧ w.alloc (.cells (strCells (splitL (s.data.toList.drop k))).toArray 9) = w' := by
  rw [ext_eq]
  exact split_any (baL (s.data.toList.drop k)) w he (by rw [baL_size, List.length_drop]; have : s.data.toList.length = s.size := rfl; omega)
theorem split_bounds (s : ByteArray) (k : Nat) (hs : s.size ≤ 2000000) : (splitL (s.data.toList.drop k)).length ≤ 2000001 ∧ ∀ p ∈ splitL (s.data.toList.drop k), p.length ≤ 2000000 := by
  have h1 := splitL_length_le (s.data.toList.drop k)
  have hl : (s.data.toList.drop k).length ≤ 2000000 := by rw [List.length_drop]; have : s.data.toList.length = s.size := rfl; omega
  exact ⟨by omega, fun p hp => by have := (splitL_mem hp).2; omega⟩

set_option maxHeartbeats 1000000 in
theorem refParts_some (s : ByteArray) (ps : List (List UInt8)) (w : World) (he : Env w) (hs : s.size ≤ 2000000) (h : dirL s.data.toList 1 = some ps) :
    Calls Tryd.prog 73 #[.string s] w fun e w' => e = .returned (.tuple #[.slice (some ⟨w.heap.size, 0, none⟩) ps.length ps.length, .bool true]) ∧ w.alloc (.cells (strCells ps).toArray 9) = w' := by
  obtain ⟨h1, rfl, h3⟩ := partsL_some h
  have h2 := hasPrefix_sizeR h1
  have HP := Lib.hid (hasPR s ⟨#[47, 47]⟩ w true h1)
  obtain ⟨hb1, hb2⟩ := split_bounds s 2 hs
  have HS := Lib.hid (split_ext s 2 w he hs)
  clear h h1
  generalize splitL (s.data.toList.drop 2) = ps at *
  have HB := Lib.hid (blk_new w (strCells ps) 9)
  have HM := Lib.hid hb2
  have HA := Lib.hid h3
  clear hb2 h3
  generalize w.alloc (.cells (strCells ps).toArray 9) = W at HS HB ⊢
  go_enter Tryd.func73, Tryd.ntmps73
  go_wp2_with fail
  refine HP.out.mono ?_
  rintro e w' ⟨rfl, rfl⟩
  go_wp2_with fail
  refine HS.out.mono ?_
  rintro e w' ⟨rfl, rfl⟩
  go_wp2_with fail
  go_loop [15] (fun i => ∃ k : Nat, k ≤ ps.length ∧ i = .int .i64 k) (fun i => ps.length - (intOf i).toNat)
  case atStart => exact ⟨0, Nat.zero_le _, rfl⟩
  case round =>
    obtain ⟨k, hk, rfl⟩ := hrel
    by_cases hlt : k < ps.length
    · have hcell := HB.out.strs k hlt
      have hc2 := HM.out ps[k] (by simp)
      have hcs : compS (baL ps[k]) = true := List.all_eq_true.1 HA.out _ (List.getElem_mem hlt)
      go_wp2_with (go_at_call 82; refine (refComponent_any _ _ (by rw [baL_size]; unfold maxLen; omega)).mono ?_; rintro e w' ⟨rfl, rfl⟩)
      go_round
      case rel => exact ⟨k + 1, by omega, by go_num⟩
      case measure => simp [intOf]; omega
    · go_wp2
      go_ret2
      exact ⟨rfl, rfl⟩

set_option maxHeartbeats 1000000 in
theorem refParts_none (s : ByteArray) (w : World) (he : Env w) (hs : s.size ≤ 2000000) (h : dirL s.data.toList 1 = none) :
    Calls Tryd.prog 73 #[.string s] w fun e w' => e = .returned (.tuple #[.slice none 0 0, .bool false]) ∧ Below w.heap.size w w' := by
  cases h1 : Lib.hasPrefix s.data.toList [47, 47]
  · have HP := Lib.hid (hasPR s ⟨#[47, 47]⟩ w false h1)
    clear h h1
    go_enter Tryd.func73, Tryd.ntmps73
    go_wp2_with fail
    refine HP.out.mono ?_
    rintro e w' ⟨rfl, rfl⟩
    go_wp2
    go_ret2
    exact ⟨rfl, Below.refl _ _⟩
  · have h2 := hasPrefix_sizeR h1
    have HP := Lib.hid (hasPR s ⟨#[47, 47]⟩ w true h1)
    have HN := Lib.hid (partsL_none h h1)
    obtain ⟨hb1, hb2⟩ := split_bounds s 2 hs
    have HS := Lib.hid (split_ext s 2 w he hs)
    clear h h1
    generalize splitL (s.data.toList.drop 2) = ps at *
    have HB := Lib.hid (blk_new w (strCells ps) 9)
    have HM := Lib.hid hb2
    have hbw : Below w.heap.size w (w.alloc (.cells (strCells ps).toArray 9)) := (Below.refl _ _).alloc (Nat.le_refl _) _
    clear hb2
    generalize w.alloc (.cells (strCells ps).toArray 9) = W at HS HB hbw ⊢
    go_enter Tryd.func73, Tryd.ntmps73
    go_wp2_with fail
    refine HP.out.mono ?_
    rintro e w' ⟨rfl, rfl⟩
    go_wp2_with fail
    refine HS.out.mono ?_
    rintro e w' ⟨rfl, rfl⟩
    go_wp2_with fail
    go_loop [15] (fun i => ∃ k : Nat, k ≤ ps.length ∧ i = .int .i64 k ∧ (ps.take k).all compL = true) (fun i => ps.length - (intOf i).toNat)
    case atStart => exact ⟨0, Nat.zero_le _, rfl, rfl⟩
    case round =>
      obtain ⟨k, hk, rfl, hall⟩ := hrel
      have HA := Lib.hid hall
      clear hall
      by_cases hlt : k < ps.length
      · have hcell := HB.out.strs k hlt
        have hc2 := HM.out ps[k] (by simp)
        cases hc1 : compL ps[k]
        · have hcs : compS (baL ps[k]) = false := hc1
          clear hc1
          go_wp2_with (go_at_call 82; refine (refComponent_any _ _ (by rw [baL_size]; unfold maxLen; omega)).mono ?_; rintro e w' ⟨rfl, rfl⟩)
          go_ret2
          exact ⟨rfl, hbw⟩
        · have hcs : compS (baL ps[k]) = true := hc1
          have HD := Lib.hid hc1
          clear hc1
          go_wp2_with (go_at_call 82; refine (refComponent_any _ _ (by rw [baL_size]; unfold maxLen; omega)).mono ?_; rintro e w' ⟨rfl, rfl⟩)
          go_round
          case rel => exact ⟨k + 1, by omega, by go_num, all_take ps compL k hlt HA.out HD.out⟩
          case measure => simp [intOf]; omega
      · have := HA.out
        rw [List.take_of_length_le (by omega), HN.out] at this
        cases this

theorem dir_two {l : List UInt8} {ps : List (List UInt8)} (h : dirL l 2 = some ps) : dirL l 1 = some ps ∧ 2 ≤ ps.length := by
  unfold dirL at h ⊢
  split at h
  · rename_i hc
    injection h with h
    subst h
    exact ⟨if_pos ⟨hc.1, by omega, hc.2.2⟩, hc.2.1⟩
  · cases h
theorem dir_two_none {l : List UInt8} {ps : List (List UInt8)} (h : dirL l 2 = none) (h1 : dirL l 1 = some ps) : ps.length < 2 := by
  obtain ⟨a, rfl, c⟩ := partsL_some h1
  unfold dirL at h
  split at h
  · cases h
  · rename_i hc
    exact Nat.lt_of_not_le fun hh => hc ⟨a, hh, c⟩

set_option maxHeartbeats 1000000 in
theorem refPath_some (s : ByteArray) (ps : List (List UInt8)) (w : World) (he : Env w) (hs : s.size ≤ 2000000) (h : dirL s.data.toList 2 = some ps) :
    Calls Tryd.prog 55 #[.string s] w fun e w' => e = .returned (.tuple #[.slice (some ⟨w.heap.size, 0, none⟩) ps.length ps.length, .bool true]) ∧ w.alloc (.cells (strCells ps).toArray 9) = w' := by
  obtain ⟨h1, h2⟩ := dir_two h
  have H := Lib.hid (refParts_some s ps w he hs h1)
  clear h h1 he
  have hd : decide ((ps.length : Int) < 2) = false := by simp; omega
  generalize w.alloc (.cells (strCells ps).toArray 9) = W at H ⊢
  go_enter Tryd.func55, Tryd.ntmps55
  go_wp2_with fail
  refine H.out.mono ?_
  rintro e w' ⟨rfl, rfl⟩
  go_wp2
  go_ret2
  exact ⟨rfl, rfl⟩
set_option maxHeartbeats 1000000 in
theorem refPath_none (s : ByteArray) (w : World) (he : Env w) (hs : s.size ≤ 2000000) (h : dirL s.data.toList 2 = none) :
    Calls Tryd.prog 55 #[.string s] w fun e w' => e = .returned (.tuple #[.slice none 0 0, .bool false]) ∧ Below w.heap.size w w' := by
  cases h1 : dirL s.data.toList 1 with
  | none =>
    have H := Lib.hid (refParts_none s w he hs h1)
    clear h h1 he
    go_enter Tryd.func55, Tryd.ntmps55
    go_wp2_with fail
    refine H.out.mono ?_
    rintro e w' ⟨rfl, hb⟩
    go_wp2
    go_ret2
    exact ⟨rfl, hb⟩
  | some ps =>
    have h2 := dir_two_none h h1
    have H := Lib.hid (refParts_some s ps w he hs h1)
    have hd : decide ((ps.length : Int) < 2) = true := by simp; omega
    have hbw : Below w.heap.size w (w.alloc (.cells (strCells ps).toArray 9)) := (Below.refl _ _).alloc (Nat.le_refl _) _
    clear h h1 he
    generalize w.alloc (.cells (strCells ps).toArray 9) = W at H hbw
    go_enter Tryd.func55, Tryd.ntmps55
    go_wp2_with fail
    refine H.out.mono ?_
    rintro e w' ⟨rfl, rfl⟩
    go_wp2
    go_ret2
    exact ⟨rfl, hbw⟩

end Go.Proofs.YtmhmnchdhacdbaaDoor
