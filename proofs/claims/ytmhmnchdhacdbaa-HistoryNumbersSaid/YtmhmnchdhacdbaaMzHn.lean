/- Plain: the revisions of a path are numbered from 1 on (HistoryNumbers). -/
import Derived.Test.YtmhmnchdhacdbaaMgplay
namespace Go.Proofs.Ytmhmnchdhacdbaa
open Go.RowKit
set_option linter.unusedVariables false
set_option linter.unusedSimpArgs false

/-- The revisions of a path, as they stand. -/
def logOf (revs : List Rev) (p : ByteArray) : List Rev := revs.filter fun r => decide (r.path = p)
def addA (a : Int) : Bool := (a == 1) || (a == 4)
def altOk : Bool → List Rev → Bool
  | _, [] => true
  | live, v :: l => (addA v.act == !live) && altOk (liveA v.act) l
def lastLive (l : List Rev) : Bool := match l.getLast? with
  | none => false
  | some v => liveA v.act
theorem altOk_snoc (l : List Rev) (v : Rev) (live : Bool) : altOk live (l ++ [v]) = (altOk live l && (addA v.act == !(match l.getLast? with
    | none => live
    | some v => liveA v.act))) := by
  induction l generalizing live with
  | nil => simp [altOk]
  | cons x l ih =>
    rw [List.cons_append, altOk, altOk, ih]
    cases l with
    | nil => simp [Bool.and_assoc]
    | cons y l =>
      obtain ⟨z, hz⟩ : ∃ z, (y :: l).getLast? = some z := ⟨_, List.getLast?_eq_some_getLast (by simp)⟩
      rw [List.getLast?_cons_cons, hz, Bool.and_assoc]
/-- What holds of each path of a depot that was played. -/
structure LogOk (revs : List Rev) (p : ByteArray) : Prop where
  num : ∀ i (h : i < (logOf revs p).length), (logOf revs p)[i].num = (i : Int) + 1
  chg : (logOf revs p).Pairwise (fun a b => a.chg < b.chg)
  pos : ∀ v ∈ logOf revs p, 0 < v.chg
  last : lastOf revs p = (logOf revs p).getLast?
  alt : altOk false (logOf revs p) = true
theorem mem_log {revs : List Rev} {p : ByteArray} {v : Rev} : v ∈ logOf revs p ↔ v ∈ revs ∧ v.path = p := by
  unfold logOf; simp
theorem log_app (a b : List Rev) (p : ByteArray) : logOf (a ++ b) p = logOf a p ++ logOf b p := by unfold logOf; rw [List.filter_append]
theorem log_made (last : ByteArray → Option Rev) (n : Int) (es : List Edt) (hn : (es.map (·.path)).Nodup) (p : ByteArray) :
    (p ∉ es.map (·.path) ∧ logOf (es.map (madeR last n)) p = []) ∨ ∃ e ∈ es, e.path = p ∧ logOf (es.map (madeR last n)) p = [madeR last n e] := by
  induction es with
  | nil => left; simp [logOf]
  | cons x es ih =>
    rw [List.map_cons, List.nodup_cons] at hn
    by_cases hx : x.path = p
    · right
      refine ⟨x, List.mem_cons_self .., hx, ?_⟩
      have h0 : logOf (es.map (madeR last n)) p = [] := by
        unfold logOf
        rw [List.filter_eq_nil_iff]
        intro r hr
        obtain ⟨y, hy, rfl⟩ := List.mem_map.1 hr
        intro e
        exact hn.1 (List.mem_map.2 ⟨y, hy, (show y.path = p from of_decide_eq_true e).trans hx.symm⟩)
      unfold logOf at h0 ⊢
      rw [List.map_cons, List.filter_cons, h0]
      simp [madeR, hx]
    · have hc : logOf ((x :: es).map (madeR last n)) p = logOf (es.map (madeR last n)) p := by
        unfold logOf
        rw [List.map_cons, List.filter_cons]
        simp [madeR, hx]
      rcases ih hn.2 with ⟨h1, h2⟩ | ⟨e, he, h1, h2⟩
      · left
        refine ⟨?_, by rw [hc, h2]⟩
        rw [List.map_cons, List.mem_cons]
        rintro (h | h)
        · exact hx h.symm
        · exact h1 h
      · right
        exact ⟨e, List.mem_cons_of_mem _ he, h1, by rw [hc, h2]⟩
theorem actE_zero {last : ByteArray → Option Rev} {e : Edt} (h : actE last e = 0) : addA e.act = !isLast last e.path := by
  unfold actE at h
  unfold addA
  by_cases h1 : e.act = 1 ∨ e.act = 4
  · rw [if_pos h1] at h
    split at h
    · omega
    · rename_i hl
      have : isLast last e.path = false := by simpa using hl
      rw [this]
      rcases h1 with h1 | h1 <;> rw [h1] <;> rfl
  · rw [if_neg h1] at h
    by_cases h2 : e.act = 2 ∨ e.act = 3 ∨ e.act = 5
    · rw [if_pos h2] at h
      split at h
      · rename_i hl
        rw [hl]
        rcases h2 with h2 | h2 | h2 <;> rw [h2] <;> rfl
      · omega
    · rw [if_neg h2] at h; omega
theorem log_step {d : Dep} {c : Chg} (h : appE d c = 0) (p : ByteArray) (hd : LogOk d.revs p) : LogOk (newRevs d c) p := by
  obtain ⟨h1, h2, -, -, -⟩ := appE_zero h
  obtain ⟨p1, p2⟩ := everyE_paths h2
  obtain ⟨-, -, -, c1, -, hs⟩ := sizeE_zero h1
  have hn := paths_nodup p1
  have hlog : logOf (newRevs d c) p = logOf d.revs p ++ logOf (c.edits.map (madeR (lastOf d.revs) c.num)) p := by unfold newRevs; exact log_app _ _ _
  have hlst : lastOf (newRevs d c) p = (c.edits.map (madeR (lastOf d.revs) c.num)).foldl lastM (lastOf d.revs) p := by unfold newRevs; rw [lastOf_app]
  rcases log_made (lastOf d.revs) c.num c.edits hn p with ⟨k1, k2⟩ | ⟨e, he, k1, k2⟩
  · rw [k2, List.append_nil] at hlog
    rw [lasts_other _ _ (by rw [made_paths]; exact k1)] at hlst
    exact ⟨by rw [hlog]; exact hd.num, by rw [hlog]; exact hd.chg, by rw [hlog]; exact hd.pos, by rw [hlst, hlog]; exact hd.last, by rw [hlog]; exact hd.alt⟩
  · rw [k2] at hlog
    subst k1
    rw [lasts_made _ _ _ hn e he] at hlst
    obtain ⟨o1, o2, o3, o4⟩ := oneE_zero (p2 e he).2.2
    have hnum : (lastR (lastOf d.revs) e.path).num = (logOf d.revs e.path).length := by
      unfold lastR
      rw [hd.last, List.getLast?_eq_getElem?]
      by_cases h0 : (logOf d.revs e.path).length = 0
      · rw [h0, List.getElem?_eq_none (by omega)]; rfl
      · rw [List.getElem?_eq_getElem (by omega)]
        simp only [Option.getD_some]
        rw [hd.num]
        omega
    refine ⟨?_, ?_, ?_, ?_, ?_⟩
    · intro i hi
      simp only [hlog] at hi ⊢
      rw [List.length_append, List.length_singleton] at hi
      by_cases hil : i < (logOf d.revs e.path).length
      · rw [List.getElem_append_left hil]; exact hd.num i hil
      · rw [List.getElem_append_right (by omega)]
        simp only [List.getElem_singleton, madeR]
        omega
    · rw [hlog, List.pairwise_append]
      refine ⟨hd.chg, by simp, fun a ha b hb => ?_⟩
      rw [List.mem_singleton] at hb
      subst hb
      exact hs a (mem_log.1 ha).1
    · rw [hlog]
      intro v hv
      rcases List.mem_append.1 hv with hv | hv
      · exact hd.pos v hv
      · rw [List.mem_singleton] at hv; subst hv; simp only [madeR]; omega
    · rw [hlst, hlog]; simp
    · rw [hlog, altOk_snoc, hd.alt, Bool.true_and]
      have : isLast (lastOf d.revs) e.path = (match (logOf d.revs e.path).getLast? with
        | none => false
        | some v => liveA v.act) := by unfold isLast; rw [hd.last]; cases (logOf d.revs e.path).getLast? <;> rfl
      rw [← this]
      show (addA e.act == !isLast (lastOf d.revs) e.path) = true
      rw [actE_zero o1]; simp
theorem plays_log {l : List Chg} {d : Dep} (h : Plays l d) (p : ByteArray) : LogOk d.revs p := by
  induction h with
  | nil => exact ⟨fun i h => by simp [logOf] at h, by simp [logOf], by simp [logOf], rfl, rfl⟩
  | skip _ _ ih => exact ih
  | step _ h0 _ _ ih => exact log_step h0 p ih
/-- The last one of the first i. -/
def before (l : List Rev) (i : Nat) : Option Rev := (l.take i).getLast?
def liveAt (l : List Rev) (i : Nat) : Bool := lastLive (l.take i)
def chgAt (l : List Rev) (i : Nat) : Int := match (l.take i).getLast? with
  | none => 0
  | some v => v.chg
theorem liveAt_next (l : List Rev) (i : Nat) (h : i < l.length) : liveAt l (i + 1) = liveA l[i].act := by
  unfold liveAt lastLive; rw [List.take_succ_eq_append_getElem h, List.getLast?_concat]
theorem chgAt_next (l : List Rev) (i : Nat) (h : i < l.length) : chgAt l (i + 1) = l[i].chg := by
  unfold chgAt; rw [List.take_succ_eq_append_getElem h, List.getLast?_concat]
theorem altOk_take {l : List Rev} {live : Bool} (h : altOk live l = true) (i : Nat) : altOk live (l.take i) = true := by
  induction l generalizing live i with
  | nil => simpa using h
  | cons x l ih =>
    cases i with
    | zero => rfl
    | succ i =>
      rw [altOk, Bool.and_eq_true] at h
      rw [List.take_succ_cons, altOk, Bool.and_eq_true]
      exact ⟨h.1, ih h.2 i⟩
theorem LogOk.alt_at {revs : List Rev} {p : ByteArray} (h : LogOk revs p) (i : Nat) (hi : i < (logOf revs p).length) : addA (logOf revs p)[i].act = !liveAt (logOf revs p) i := by
  have := altOk_take h.alt (i + 1)
  rw [List.take_succ_eq_append_getElem hi, altOk_snoc, Bool.and_eq_true] at this
  have := this.2
  rw [beq_iff_eq] at this
  exact this
theorem LogOk.chg_at {revs : List Rev} {p : ByteArray} (h : LogOk revs p) (i : Nat) (hi : i < (logOf revs p).length) : chgAt (logOf revs p) i < (logOf revs p)[i].chg := by
  unfold chgAt
  cases hg : ((logOf revs p).take i).getLast? with
  | none => exact h.pos _ (List.getElem_mem _)
  | some v =>
    rw [List.getLast?_eq_getElem?, List.length_take, Nat.min_eq_left (by omega)] at hg
    have h0 : i ≠ 0 := by rintro rfl; simp at hg
    rw [List.getElem?_take_of_lt (by omega), List.getElem?_eq_getElem (by omega)] at hg
    injection hg with hg
    subst hg
    exact List.pairwise_iff_getElem.1 h.chg _ _ _ _ (by omega)
theorem greatest_some {revs : List Rev} {q : ByteArray} {p : Rev → Bool} {v : Rev} (hv : v ∈ revs) (h1 : v.path = q) (h2 : p v = true) : ∃ x, greatest revs q p = some x := by
  suffices H : ∀ (l : List Rev) (o : Option Rev), (o.isSome = true ∨ v ∈ l) → (l.foldl (fun o r => if r.path = q ∧ p r = true then (match o with
    | none => some r
    | some b => if b.num < r.num then some r else some b) else o) o).isSome = true by
    have := H revs none (.inr hv)
    exact Option.isSome_iff_exists.1 this
  intro l
  induction l with
  | nil => intro o h; rcases h with h | h
           · exact h
           · cases h
  | cons x l ih =>
    intro o h
    rw [List.foldl_cons]
    apply ih
    rcases h with h | h
    · left
      cases o with
      | none => cases h
      | some b => dsimp only; split
                  · split <;> rfl
                  · rfl
    · rcases List.mem_cons.1 h with rfl | h
      · left
        rw [if_pos ⟨h1, h2⟩]
        cases o with
        | none => rfl
        | some b => dsimp only; split <;> rfl
      · exact .inr h
theorem LogOk.uniq {revs : List Rev} {p : ByteArray} (h : LogOk revs p) {a b : Rev} (ha : a ∈ revs) (hb : b ∈ revs) (h1 : a.path = p) (h2 : b.path = p) (hn : a.num = b.num) : a = b := by
  obtain ⟨i, hi, rfl⟩ := List.mem_iff_getElem.1 (mem_log.2 ⟨ha, h1⟩)
  obtain ⟨j, hj, rfl⟩ := List.mem_iff_getElem.1 (mem_log.2 ⟨hb, h2⟩)
  rw [h.num i hi, h.num j hj] at hn
  have : i = j := by omega
  subst this; rfl
theorem LogOk.get {revs : List Rev} {p : ByteArray} (h : LogOk revs p) {v : Rev} (hv : v ∈ revs) (hp : v.path = p) : greatest revs p (fun r => decide (r.num = v.num)) = some v := by
  obtain ⟨x, hx⟩ := greatest_some (p := fun r => decide (r.num = v.num)) hv hp (by simp)
  obtain ⟨g1, g2, g3⟩ := greatest_mem hx
  rw [hx, h.uniq g1 hv g2 hp (by simpa using g3)]
theorem LogOk.sorted {revs : List Rev} {p : ByteArray} (h : LogOk revs p) : (logOf revs p).Pairwise (fun a b => a.num < b.num) := by
  rw [List.pairwise_iff_getElem]
  intro i j hi hj hij
  rw [h.num i hi, h.num j hj]; omega
/-- A list in another order, sorted by numbers, is the log itself. -/
theorem LogOk.sort_eq {revs : List Rev} {p : ByteArray} (h : LogOk revs p) {l : List Rev} (hp : l.Perm (logOf revs p)) (hs : l.Pairwise (fun a b => a.num ≤ b.num)) : l = logOf revs p := by
  refine List.Perm.eq_of_pairwise (le := fun a b : Rev => a.num ≤ b.num) ?_ hs (h.sorted.imp fun hab => Int.le_of_lt hab) hp
  intro a b ha hb h1 h2
  obtain ⟨a1, a2⟩ := mem_log.1 (hp.mem_iff.1 ha)
  obtain ⟨b1, b2⟩ := mem_log.1 hb
  exact h.uniq a1 b1 a2 b2 (by omega)
end Go.Proofs.Ytmhmnchdhacdbaa
