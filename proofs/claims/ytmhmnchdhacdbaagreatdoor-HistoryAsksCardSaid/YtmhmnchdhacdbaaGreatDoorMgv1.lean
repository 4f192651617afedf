/- Plain: the revisions of a path are numbered from 1 on (HistoryNumbers). -/
import Derived.Test.YtmhmnchdhacdbaaGreatDoorMgv0
import Derived.Test.YtmhmnchdhacdbaaGreatDoorHo
import Derived.Test.YtmhmnchdhacdbaaGreatDoorClone
namespace Go.Proofs.YtmhmnchdhacdbaaGreatDoor
open Go.RowKit
set_option linter.unusedVariables false
set_option linter.unusedSimpArgs false

/-- The revisions of a path, as they stand. -/
def logOf (revs : List Rev) (p : ByteArray) : List Rev := revs.filter fun r => decide (r.path = p)
def addA (a : Int) : Bool := (a == 1) || (a == 4)
def altOk : Bool → List Rev → Bool
  | _, [] => true
  | live, v :: l => (addA v.act == !live) && altOk (liveA v.act) l
def lastLive (l : List Rev) : Bool := match l.getLast? with
  | none => false
  | some v => liveA v.act
theorem altOk_snoc (l : List Rev) (v : Rev) (live : Bool) : altOk live (l ++ [v]) = (altOk live l && (addA v.act == !(match l.getLast? with
    | none => live
    | some v => liveA v.act))) := by
  induction l generalizing live with
  | nil => simp [altOk]
  | cons x l ih =>
    rw [List.cons_append, altOk, altOk, ih]
    cases l with
    | nil => simp [Bool.and_assoc]
    | cons y l =>
      obtain ⟨z, hz⟩ : ∃ z, (y :: l).getLast? = some z := ⟨_, List.getLast?_eq_some_getLast (by simp)⟩
      rw [List.getLast?_cons_cons, hz, Bool.and_assoc]
/-- What holds of each path of a depot that was played. -/
structure LogOk (revs : List Rev) (p : ByteArray) : Prop where
  num : ∀ i (h : i < (logOf revs p).length), (logOf revs p)[i].num = (i : Int) + 1
  chg : (logOf revs p).Pairwise (fun a b => a.chg < b.chg)
  pos : ∀ v ∈ logOf revs p, 0 < v.chg
  last : lastOf revs p = (logOf revs p).getLast?
  alt : altOk false (logOf revs p) = true
theorem mem_log {revs : List Rev} {p : ByteArray} {v : Rev} : v ∈ logOf revs p ↔ v ∈ revs ∧ v.path = p := by
  unfold logOf; simp
theorem log_app (a b : List Rev) (p : ByteArray) : logOf (a ++ b) p = logOf a p ++ logOf b p := by unfold logOf; rw [List.filter_append]
theorem log_made (last : ByteArray → Option Rev) (n : Int) (es : List Edt) (hn : (es.map (·.path)).Nodup) (p : ByteArray) :
    (p ∉ es.map (·.path) ∧ logOf (es.map (madeR last n)) p = []) ∨ ∃ e ∈ es, e.path = p ∧ logOf (es.map (madeR last n)) p = [madeR last n e] := by
  induction es with
  | nil => left; simp [logOf]
  | cons x es ih =>
    rw [List.map_cons, List.nodup_cons] at hn
    by_cases hx : x.path = p
    · right
      refine ⟨x, List.mem_cons_self .., hx, ?_⟩
      have h0 : logOf (es.map (madeR last n)) p = [] := by
        unfold logOf
        rw [List.filter_eq_nil_iff]
        intro r hr
        obtain ⟨y, hy, rfl⟩ := List.mem_map.1 hr
        intro e
        exact hn.1 (List.mem_map.2 ⟨y, hy, (show y.path = p from of_decide_eq_true e).trans hx.symm⟩)
      unfold logOf at h0 ⊢
      rw [List.map_cons, List.filter_cons, h0]
      simp [madeR, hx]
    · have hc : logOf ((x :: es).map (madeR last n)) p = logOf (es.map (madeR last n)) p := by
        unfold logOf
        rw [List.map_cons, List.filter_cons]
        simp [madeR, hx]
      rcases ih hn.2 with ⟨h1, h2⟩ | ⟨e, he, h1, h2⟩
      · left
        refine ⟨?_, by rw [hc, h2]⟩
        rw [List.map_cons, List.mem_cons]
        rintro (h | h)
        · exact hx h.symm
        · exact h1 h
      · right
        exact ⟨e, List.mem_cons_of_mem _ he, h1, by rw [hc, h2]⟩
theorem actE_zero {last : ByteArray → Option Rev} {e : Edt} (h : actE last e = 0) : addA e.act = !isLast last e.path := by
  unfold actE at h
  unfold addA
  by_cases h1 : e.act = 1 ∨ e.act = 4
  · rw [if_pos h1] at h
    split at h
    · omega
    · rename_i hl
      have : isLast last e.path = false := by simpa using hl
      rw [this]
      rcases h1 with h1 | h1 <;> rw [h1] <;> rfl
  · rw [if_neg h1] at h
    by_cases h2 : e.act = 2 ∨ e.act = 3 ∨ e.act = 5
    · rw [if_pos h2] at h
      split at h
      · rename_i hl
        rw [hl]
        rcases h2 with h2 | h2 | h2 <;> rw [h2] <;> rfl
      · omega
    · rw [if_neg h2] at h; omega
theorem log_step {d : Dep} {c : Chg} (h : appE d c = 0) (p : ByteArray) (hd : LogOk d.revs p) : LogOk (newRevs d c) p := by
  obtain ⟨h1, h2, -, -, -⟩ := appE_zero h
  obtain ⟨p1, p2⟩ := everyE_paths h2
  obtain ⟨-, -, -, c1, -, hs⟩ := sizeE_zero h1
  have hn := paths_nodup p1
  have hlog : logOf (newRevs d c) p = logOf d.revs p ++ logOf (c.edits.map (madeR (lastOf d.revs) c.num)) p := by unfold newRevs; exact log_app _ _ _
  have hlst : lastOf (newRevs d c) p = (c.edits.map (madeR (lastOf d.revs) c.num)).foldl lastM (lastOf d.revs) p := by unfold newRevs; rw [lastOf_app]
  rcases log_made (lastOf d.revs) c.num c.edits hn p with ⟨k1, k2⟩ | ⟨e, he, k1, k2⟩
  · rw [k2, List.append_nil] at hlog
    rw [lasts_other _ _ (by rw [made_paths]; exact k1)] at hlst
    exact ⟨by rw [hlog]; exact hd.num, by rw [hlog]; exact hd.chg, by rw [hlog]; exact hd.pos, by rw [hlst, hlog]; exact hd.last, by rw [hlog]; exact hd.alt⟩
  · rw [k2] at hlog
    subst k1
    rw [lasts_made _ _ _ hn e he] at hlst
    obtain ⟨o1, o2, o3, o4⟩ := oneE_zero (p2 e he).2.2
    have hnum : (lastR (lastOf d.revs) e.path).num = (logOf d.revs e.path).length := by
      unfold lastR
      rw [hd.last, List.getLast?_eq_getElem?]
      by_cases h0 : (logOf d.revs e.path).length = 0
      · rw [h0, List.getElem?_eq_none (by omega)]; rfl
      · rw [List.getElem?_eq_getElem (by omega)]
        simp only [Option.getD_some]
        rw [hd.num]
        omega
    refine ⟨?_, ?_, ?_, ?_, ?_⟩
    · intro i hi
      simp only [hlog] at hi ⊢
      rw [List.length_append, List.length_singleton] at hi
      by_cases hil : i < (logOf d.revs e.path).length
      · rw [List.getElem_append_left hil]; exact hd.num i hil
      · rw [List.getElem_append_right (by omega)]
        simp only [List.getElem_singleton, madeR]
        omega
    · rw [hlog, List.pairwise_append]
      refine ⟨hd.chg, by simp, fun a ha b hb => ?_⟩
      rw [List.mem_singleton] at hb
      subst hb
      exact hs a (mem_log.1 ha).1
    · rw [hlog]
      intro v hv
      rcases List.mem_append.1 hv with hv | hv
      · exact hd.pos v hv
      · rw [List.mem_singleton] at hv; subst hv; simp only [madeR]; omega
    · rw [hlst, hlog]; simp
    · rw [hlog, altOk_snoc, hd.alt, Bool.true_and]
      have : isLast (lastOf d.revs) e.path = (match (logOf d.revs e.path).getLast? with
        | none => false
        | some v => liveA v.act) := by unfold isLast; rw [hd.last]; cases (logOf d.revs e.path).getLast? <;> rfl
      rw [← this]
      show (addA e.act == !isLast (lastOf d.revs) e.path) = true
      rw [actE_zero o1]; simp
theorem plays_log {l : List Chg} {d : Dep} (h : Plays l d) (p : ByteArray) : LogOk d.revs p := by
  induction h with
  | nil => exact ⟨fun i h => by simp [logOf] at h, by simp [logOf], by simp [logOf], rfl, rfl⟩
  | skip _ _ ih => exact ih
  | step _ h0 _ _ ih => exact log_step h0 p ih
/-- The last one of the first i. -/
def before (l : List Rev) (i : Nat) : Option Rev := (l.take i).getLast?
def liveAt (l : List Rev) (i : Nat) : Bool := lastLive (l.take i)
def chgAt (l : List Rev) (i : Nat) : Int := match (l.take i).getLast? with
  | none => 0
  | some v => v.chg
theorem liveAt_next (l : List Rev) (i : Nat) (h : i < l.length) : liveAt l (i + 1) = liveA l[i].act := by
  unfold liveAt lastLive; rw [List.take_succ_eq_append_getElem h, List.getLast?_concat]
theorem chgAt_next (l : List Rev) (i : Nat) (h : i < l.length) : chgAt l (i + 1) = l[i].chg := by
  unfold chgAt; rw [List.take_succ_eq_append_getElem h, List.getLast?_concat]
theorem altOk_take {l : List Rev} {live : Bool} (h : altOk live l = true) (i : Nat) : altOk live (l.take i) = true := by
  induction l generalizing live i with
  | nil => simpa using h
  | cons x l ih =>
    cases i with
    | zero => rfl
    | succ i =>
      rw [altOk, Bool.and_eq_true] at h
      rw [List.take_succ_cons, altOk, Bool.and_eq_true]
      exact ⟨h.1, ih h.2 i⟩
theorem LogOk.alt_at {revs : List Rev} {p : ByteArray} (h : LogOk revs p) (i : Nat) (hi : i < (logOf revs p).length) : addA (logOf revs p)[i].act = !liveAt (logOf revs p) i := by
  have := altOk_take h.alt (i + 1)
  rw [List.take_succ_eq_append_getElem hi, altOk_snoc, Bool.and_eq_true] at this
  have := this.2
  rw [beq_iff_eq] at this
  exact this
theorem LogOk.chg_at {revs : List Rev} {p : ByteArray} (h : LogOk revs p) (i : Nat) (hi : i < (logOf revs p).length) : chgAt (logOf revs p) i < (logOf revs p)[i].chg := by
  unfold chgAt
  cases hg : ((logOf revs p).take i).getLast? with
  | none => exact h.pos _ (List.getElem_mem _)
  | some v =>
    rw [List.getLast?_eq_getElem?, List.length_take, Nat.min_eq_left (by omega)] at hg
    have h0 : i ≠ 0 := by rintro rfl; simp at hg
    rw [List.getElem?_take_of_lt (by omega), List.getElem?_eq_getElem (by omega)] at hg
    injection hg with hg
    subst hg
    exact List.pairwise_iff_getElem.1 h.chg _ _ _ _ (by omega)
theorem greatest_some {revs : List Rev} {q : ByteArray} {p : Rev → Bool} {v : Rev} (hv : v ∈ revs) (h1 : v.path = q) (h2 : p v = true) : ∃ x, greatest revs q p = some x := by
  suffices H : ∀ (l : List Rev) (o : Option Rev), (o.isSome = true ∨ v ∈ l) → (l.foldl (fun o r => if r.path = q ∧ p r = true then (match o with
    | none => some r
    | some b => if b.num < r.num then some r else some b) else o) o).isSome = true by
    have := H revs none (.inr hv)
    exact Option.isSome_iff_exists.1 this
  intro l
  induction l with
  | nil => intro o h; rcases h with h | h
           · exact h
           · cases h
  | cons x l ih =>
    intro o h
    rw [List.foldl_cons]
    apply ih
    rcases h with h | h
    · left
      cases o with
      | none => cases h
      | some b => dsimp only; split
                  · split <;> rfl
                  · rfl
    · rcases List.mem_cons.1 h with rfl | h
      · left
        rw [if_pos ⟨h1, h2⟩]
        cases o with
        | none => rfl
        | some b => dsimp only; split <;> rfl
      · exact .inr h
theorem LogOk.uniq {revs : List Rev} {p : ByteArray} (h : LogOk revs p) {a b : Rev} (ha : a ∈ revs) (hb : b ∈ revs) (h1 : a.path = p) (h2 : b.path = p) (hn : a.num = b.num) : a = b := by
  obtain ⟨i, hi, rfl⟩ := List.mem_iff_getElem.1 (mem_log.2 ⟨ha, h1⟩)
  obtain ⟨j, hj, rfl⟩ := List.mem_iff_getElem.1 (mem_log.2 ⟨hb, h2⟩)
  rw [h.num i hi, h.num j hj] at hn
  have : i = j := by omega
  subst this; rfl
theorem LogOk.get {revs : List Rev} {p : ByteArray} (h : LogOk revs p) {v : Rev} (hv : v ∈ revs) (hp : v.path = p) : greatest revs p (fun r => decide (r.num = v.num)) = some v := by
  obtain ⟨x, hx⟩ := greatest_some (p := fun r => decide (r.num = v.num)) hv hp (by simp)
  obtain ⟨g1, g2, g3⟩ := greatest_mem hx
  rw [hx, h.uniq g1 hv g2 hp (by simpa using g3)]
theorem LogOk.sorted {revs : List Rev} {p : ByteArray} (h : LogOk revs p) : (logOf revs p).Pairwise (fun a b => a.num < b.num) := by
  rw [List.pairwise_iff_getElem]
  intro i j hi hj hij
  rw [h.num i hi, h.num j hj]; omega
/-- A list in another order, sorted by numbers, is the log itself. -/
theorem LogOk.sort_eq {revs : List Rev} {p : ByteArray} (h : LogOk revs p) {l : List Rev} (hp : l.Perm (logOf revs p)) (hs : l.Pairwise (fun a b => a.num ≤ b.num)) : l = logOf revs p := by
  refine List.Perm.eq_of_pairwise (le := fun a b : Rev => a.num ≤ b.num) ?_ hs (h.sorted.imp fun hab => Int.le_of_lt hab) hp
  intro a b ha hb h1 h2
  obtain ⟨a1, a2⟩ := mem_log.1 (hp.mem_iff.1 ha)
  obtain ⟨b1, b2⟩ := mem_log.1 hb
  exact h.uniq a1 b1 a2 b2 (by omega)
end Go.Proofs.YtmhmnchdhacdbaaGreatDoor
/- Plain: the order of paths by their components is the order by their bytes. -/
namespace Go.Proofs.YtmhmnchdhacdbaaGreatDoor
open Go.RowKit
set_option linter.unusedVariables false
set_option linter.unusedSimpArgs false

/-- Both paths of a record are paths. -/
def Rcd.val_ (r : Rcd) : Prop := validS r.frm = true ∧ validS r.to = true
def cmpC : List (List UInt8) → List (List UInt8) → Int
  | [], [] => 0
  | [], _ :: _ => -1
  | _ :: _, [] => 1
  | a :: l, b :: m => if Lib.compareBytes a b = 0 then cmpC l m else Lib.compareBytes a b
/-- Components, each behind its slash. -/
def tailL : List (List UInt8) → List UInt8
  | [] => []
  | p :: ps => 47 :: p ++ tailL ps
theorem join_tail (p : List UInt8) (ps : List (List UInt8)) : 47 :: Lib.join (p :: ps) [47] = tailL (p :: ps) := by
  induction ps generalizing p with
  | nil => simp [Lib.join_one, tailL]
  | cons q ps ih =>
    rw [join_cons2 p (q :: ps) (by simp), tailL, ← ih q]
    simp
def Starts (l : List UInt8) : Prop := l = [] ∨ ∃ r, l = 47 :: r
theorem tail_starts (ps : List (List UInt8)) : Starts (tailL ps) := by
  cases ps with
  | nil => exact .inl rfl
  | cons p ps => exact .inr ⟨p ++ tailL ps, by simp [tailL]⟩
theorem cmp_app : ∀ (p q X Y : List UInt8), (47 : UInt8) ∉ p → (47 : UInt8) ∉ q → Starts X → Starts Y → cmpL (p ++ X) (q ++ Y) = if Lib.compareBytes p q = 0 then cmpL X Y else Lib.compareBytes p q
  | [], [], X, Y, _, _, _, _ => by simp [Lib.compareBytes]
  | [], b :: q, X, Y, _, hq, hX, _ => by
    have hb : b ≠ 47 := fun e => hq (by rw [e]; exact List.mem_cons_self ..)
    rcases hX with rfl | ⟨r, rfl⟩
    · simp [Lib.compareBytes, cmpL]
    · simp [Lib.compareBytes, cmpL]
      exact fun e => absurd e.symm hb
  | a :: p, [], X, Y, hp, _, _, hY => by
    have ha : a ≠ 47 := fun e => hp (by rw [e]; exact List.mem_cons_self ..)
    rcases hY with rfl | ⟨r, rfl⟩
    · simp [Lib.compareBytes, cmpL]
    · simp [Lib.compareBytes, cmpL, ha]
  | a :: p, b :: q, X, Y, hp, hq, hX, hY => by
    have ha : a ≠ 47 := fun e => hp (by rw [e]; exact List.mem_cons_self ..)
    have hb : b ≠ 47 := fun e => hq (by rw [e]; exact List.mem_cons_self ..)
    have ih := cmp_app p q X Y (fun h => hp (List.mem_cons_of_mem _ h)) (fun h => hq (List.mem_cons_of_mem _ h)) hX hY
    rw [List.cons_append, List.cons_append, cmpL, Lib.compareBytes]
    by_cases e : a = b
    · subst e
      have hlt : ¬ a < a := by rw [UInt8.lt_iff_toNat_lt]; omega
      rw [if_pos rfl, if_neg hlt, if_neg hlt]
      exact ih
    · rw [if_neg e, if_neg ha, if_neg hb]
      by_cases hl : a < b
      · rw [if_pos hl, if_pos hl]; simp
      · have hg : b < a := by
          have : a.toNat ≠ b.toNat := fun h => e (UInt8.toNat_inj.1 h)
          rw [UInt8.lt_iff_toNat_lt] at hl ⊢; omega
        rw [if_neg hl, if_neg hl, if_pos hg]; simp
theorem cmp_tail : ∀ (ps qs : List (List UInt8)), (∀ p ∈ ps, (47 : UInt8) ∉ p) → (∀ q ∈ qs, (47 : UInt8) ∉ q) → cmpL (tailL ps) (tailL qs) = cmpC ps qs
  | [], [], _, _ => rfl
  | [], q :: qs, _, _ => by simp [tailL, cmpL, cmpC]
  | p :: ps, [], _, _ => by simp [tailL, cmpL, cmpC]
  | p :: ps, q :: qs, hp, hq => by
    have ih := cmp_tail ps qs (fun x hx => hp x (List.mem_cons_of_mem _ hx)) (fun x hx => hq x (List.mem_cons_of_mem _ hx))
    rw [tailL, tailL, List.cons_append, List.cons_append, cmpL, if_pos rfl, cmp_app p q _ _ (hp p (List.mem_cons_self ..)) (hq q (List.mem_cons_self ..)) (tail_starts _) (tail_starts _), cmpC, ih]
theorem dir_tail {l : List UInt8} {least : Nat} {ps : List (List UInt8)} (h : dirL l least = some ps) : l = 47 :: tailL ps ∧ ∀ p ∈ ps, (47 : UInt8) ∉ p := by
  unfold dirL at h
  split at h
  · rename_i hc
    injection h with h
    subst h
    have hp := hc.1
    have hl : l = 47 :: 47 :: l.drop 2 := by
      match l, hp with
      | [], hp => simp [Lib.hasPrefix] at hp
      | [a], hp => simp [Lib.hasPrefix] at hp
      | a :: b :: r, hp =>
        simp [Lib.hasPrefix] at hp
        obtain ⟨rfl, rfl⟩ := hp
        rfl
    have hj := join_splitL (l.drop 2)
    refine ⟨?_, fun p hp => (splitL_mem hp).1⟩
    cases hs : splitL (l.drop 2) with
    | nil => exact absurd hs (splitL_ne _)
    | cons p ps =>
      rw [← join_tail, ← hs, hj]
      exact hl
  · cases h
/-- The order of two paths by their components. -/
theorem cmpP_comps {a b : ByteArray} {ps qs : List (List UInt8)} (ha : dirL a.data.toList 2 = some ps) (hb : dirL b.data.toList 2 = some qs) : cmpP a b = cmpC ps qs := by
  have va : validS a = true := by unfold validS validB; rw [ha]; rfl
  have vb : validS b = true := by unfold validS validB; rw [hb]; rfl
  obtain ⟨a1, a2⟩ := dir_tail ha
  obtain ⟨b1, b2⟩ := dir_tail hb
  rw [cmpP_valid va vb, a1, b1, cmpL, if_pos rfl, cmp_tail ps qs a2 b2]
end Go.Proofs.YtmhmnchdhacdbaaGreatDoor
/- Plain: what history.Valid does with any depot, and that a depot that was played is valid. -/
namespace Go.Proofs.YtmhmnchdhacdbaaGreatDoor
open Go.RowKit
set_option linter.unusedVariables false
set_option linter.unusedSimpArgs false

/-- The edit that made a revision, with the machine's own subtraction. -/
def edtW (r : Rev) : Edt := ⟨r.path, r.act, r.ty, r.sum, r.size, IntKind.i64.wrap (r.num - 1), r.frm, r.fnum, 0⟩
def chgOf (revs : List Rev) : Fil → Option Int := revs.foldl (fun f r => upd f (r.path, r.num) r.chg) fun _ => none
def recsAt (D : Dep) (n : Int) : List Rcd := D.recs.filter (fun r => decide (chgOf D.revs (r.to, r.num) = some n))
def runAt (revs : List Rev) (k : Nat) (n : Int) : List Rev := (revs.drop k).takeWhile (fun r => decide (r.chg = n))
def chgV (D : Dep) (k : Nat) (n : Int) : Chg := ⟨n, emptyS, emptyS, (runAt D.revs k n).map edtW, recsAt D n⟩
/-- The depots that Valid makes anew: of the first k revisions, d. -/
inductive Repl (D : Dep) : Nat → Dep → Prop where
  | start : Repl D 0 ⟨[], []⟩
  | step {k : Nat} {d : Dep} {rs : List Rcd} (h : k < D.revs.length) : Repl D k d → appE d (chgV D k (D.revs[k]).chg) = 0 → rs.Perm (d.recs ++ (chgV D k (D.revs[k]).chg).recs) → rs.Pairwise (fun a b => 0 ≤ cmpR b a) → Repl D (k + (runAt D.revs k (D.revs[k]).chg).length) ⟨newRevs d (chgV D k (D.revs[k]).chg), rs⟩
/-- Why Valid says no. -/
inductive Bad (D : Dep) : Prop where
  | revs : 512 < D.revs.length → Bad D
  | recs : 512 < D.recs.length → Bad D
  | lost (r : Rcd) : r ∈ D.recs → chgOf D.revs (r.to, r.num) = none → Bad D
  | stuck (k : Nat) (d : Dep) (h : k < D.revs.length) : Repl D k d → appE d (chgV D k (D.revs[k]).chg) ≠ 0 → Bad D
  | other (d : Dep) : Repl D D.revs.length d → ¬ (d.revs = D.revs ∧ d.recs = D.recs) → Bad D
/-- Why it says yes. -/
structure Good (D : Dep) : Prop where
  len : D.revs.length ≤ 512 ∧ D.recs.length ≤ 512
  found : ∀ r ∈ D.recs, ∃ n, chgOf D.revs (r.to, r.num) = some n
  repl : Repl D D.revs.length D

/-! What holds of the records of a depot that was played. -/
theorem cmpR_anti (a b : Rcd) : cmpR b a = - cmpR a b := by
  have hI : ∀ x y : Int, cmpI y x = - cmpI x y := fun x y => by unfold cmpI; split <;> split <;> omega
  unfold cmpR
  rw [cmpP_anti a.to b.to, hI a.num b.num, cmpP_anti a.frm b.frm, hI a.first b.first]
  unfold orI
  split <;> split <;> (try split) <;> (try split) <;> (try split) <;> (try split) <;> omega
abbrev VRcd := { r : Rcd // validS r.frm = true ∧ validS r.to = true }
theorem vRcd_tot : TotC (fun a b : VRcd => cmpR a.1 b.1) := TotC.or (totP (f := fun r : VRcd => r.1.to) fun r => r.2.2) (TotC.or (totI (f := fun r : VRcd => r.1.num)) (TotC.or (totP (f := fun r : VRcd => r.1.frm) fun r => r.2.1) (totI (f := fun r : VRcd => r.1.first))))
theorem cmpR_trans {a b c : Rcd} (ha : a.val_) (hb : b.val_) (hc : c.val_) (h1 : cmpR a b < 0) (h2 : cmpR b c < 0) : cmpR a c < 0 := vRcd_tot.trans ⟨a, ha⟩ ⟨b, hb⟩ ⟨c, hc⟩ h1 h2
theorem cmpR_key {a b : Rcd} (ha : a.val_) (hb : b.val_) (h : cmpR a b = 0) : a.to = b.to ∧ a.num = b.num := by
  unfold cmpR orI at h
  split at h
  · rename_i h1
    refine ⟨cmpP_eq ha.2 hb.2 h1, ?_⟩
    split at h
    · rename_i h2; unfold cmpI at h2; split at h2 <;> (try split at h2) <;> omega
    · rename_i h2; exact absurd h h2
  · rename_i h1; exact absurd h h1
structure RecOk (d : Dep) : Prop where
  path : ∀ r ∈ d.revs, validS r.path = true
  val_ : ∀ r ∈ d.recs, r.val_
  strict : d.recs.Pairwise (fun a b => cmpR a b < 0)
  inn : ∀ r ∈ d.recs, ∃ v ∈ d.revs, v.path = r.to ∧ v.num = r.num
theorem recsF_pair {revs : List Rev} {c : Chg} {ed : ByteArray → Option Edt} : ∀ (rs : List Rcd) (b : Option Rcd), (∀ r ∈ rs, r.val_) → (∀ x, b = some x → x.val_) → recsF revs c ed b rs = true → (∀ x, b = some x → ∀ r ∈ rs, cmpR x r < 0) ∧ rs.Pairwise (fun a b => cmpR a b < 0)
  | [], b, _, _, h => ⟨fun x _ r hr => (by cases hr), List.Pairwise.nil⟩
  | r :: rs, b, hv, hb, h => by
    unfold recsF at h
    simp only [Bool.and_eq_true] at h
    have hr := hv r (List.mem_cons_self ..)
    obtain ⟨i1, i2⟩ := recsF_pair rs (some r) (fun y hy => hv y (List.mem_cons_of_mem _ hy)) (fun x hx => by injection hx with hx; exact hx ▸ hr) h.2
    refine ⟨fun x hx y hy => ?_, List.pairwise_cons.2 ⟨i1 r rfl, i2⟩⟩
    subst hx
    have h1 : cmpR x r < 0 := by simpa using h.1.1
    rcases List.mem_cons.1 hy with rfl | hy
    · exact h1
    · exact cmpR_trans (hb x rfl) hr (hv y (List.mem_cons_of_mem _ hy)) h1 (i1 r rfl y hy)
/-- What is known of the records of a change that is accepted. -/
theorem app_recs {d : Dep} {c : Chg} (hp : ∀ r ∈ d.revs, validS r.path = true) (h : appE d c = 0) : ∀ r ∈ c.recs, r.val_ ∧ ∃ e ∈ c.edits, e.path = r.to ∧ (lastR (lastOf d.revs) e.path).num + 1 = r.num := by
  obtain ⟨-, h2, -, h4, -⟩ := appE_zero h
  obtain ⟨p1, p2⟩ := everyE_paths h2
  intro r hr
  have h1 := recsF_all _ _ (recsE_zero h4) r hr
  unfold recOk at h1
  rw [Bool.and_eq_true] at h1
  obtain ⟨⟨e, he, -, hn⟩, v, hv⟩ := isRec_parts h1.1
  obtain ⟨g1, g2, -⟩ := greatest_mem hv
  obtain ⟨k1, k2⟩ := editsOf_mem _ _ _ he
  obtain ⟨v1, -, v3⟩ := p2 e k1
  refine ⟨⟨?_, ?_⟩, e, k1, k2, ?_⟩
  · rw [← g2]; exact hp v g1
  · rw [← k2]; exact v1
  · have := (oneE_zero v3).2.1; omega
theorem app_strict {d : Dep} {c : Chg} (hp : ∀ r ∈ d.revs, validS r.path = true) (h : appE d c = 0) : c.recs.Pairwise (fun a b => cmpR a b < 0) :=
  (recsF_pair _ none (fun r hr => (app_recs hp h r hr).1) (fun x hx => by cases hx) (recsE_zero (appE_zero h).2.2.2.1)).2
theorem last_bound {revs : List Rev} (hl : ∀ p, LogOk revs p) {v : Rev} (hv : v ∈ revs) : v.num ≤ (lastR (lastOf revs) v.path).num := by
  have h := hl v.path
  obtain ⟨i, hi, he⟩ := List.mem_iff_getElem.1 (mem_log.2 ⟨hv, rfl⟩)
  have h2 := h.num i hi
  rw [he] at h2
  unfold lastR
  rw [h.last, List.getLast?_eq_getElem?, List.getElem?_eq_getElem (by omega)]
  simp only [Option.getD_some]
  rw [h.num, h2]
  omega
/-- Records of the depot and of the change that is accepted are never equal in their order. -/
theorem app_apart {d : Dep} {c : Chg} (hl : ∀ p, LogOk d.revs p) (hd : RecOk d) (h : appE d c = 0) {a b : Rcd} (ha : a ∈ d.recs) (hb : b ∈ c.recs) : cmpR a b ≠ 0 := by
  intro e
  obtain ⟨b1, x, hx, x1, x2⟩ := app_recs hd.path h b hb
  obtain ⟨k1, k2⟩ := cmpR_key (hd.val_ a ha) b1 e
  obtain ⟨v, hv, v1, v2⟩ := hd.inn a ha
  have := last_bound hl hv
  rw [v1, k1, ← x1] at this
  omega
theorem app_recOk {d : Dep} {c : Chg} {rs : List Rcd} (hl : ∀ p, LogOk d.revs p) (hd : RecOk d) (h : appE d c = 0) (hp : rs.Perm (d.recs ++ c.recs)) (hs : rs.Pairwise (fun a b => 0 ≤ cmpR b a)) : RecOk ⟨newRevs d c, rs⟩ := by
  obtain ⟨-, h2, -, -, -⟩ := appE_zero h
  refine ⟨fun r hr => ?_, fun r hr => ?_, ?_, fun r hr => ?_⟩
  · rcases List.mem_append.1 hr with hr | hr
    · exact hd.path r hr
    · obtain ⟨e, he, rfl⟩ := List.mem_map.1 hr
      exact ((everyE_paths h2).2 e he).1
  · rcases List.mem_append.1 (hp.mem_iff.1 hr) with hr | hr
    · exact hd.val_ r hr
    · exact (app_recs hd.path h r hr).1
  · have hne : (d.recs ++ c.recs).Pairwise (fun a b => cmpR a b ≠ 0) := by
      rw [List.pairwise_append]
      exact ⟨hd.strict.imp fun h => by omega, (app_strict hd.path h).imp fun h => by omega, fun a ha b hb => app_apart hl hd h ha hb⟩
    have hne2 := hne.perm hp.symm (fun {x y} hxy => by rw [cmpR_anti]; omega)
    refine (hs.and hne2).imp ?_
    rintro a b ⟨h1, h2⟩
    rw [cmpR_anti] at h1
    omega
  · show ∃ v ∈ newRevs d c, _
    unfold newRevs
    rcases List.mem_append.1 (hp.mem_iff.1 hr) with hr | hr
    · obtain ⟨v, h1, h2⟩ := hd.inn r hr
      exact ⟨v, List.mem_append_left _ h1, h2⟩
    · obtain ⟨-, e, he, e1, e2⟩ := app_recs hd.path h r hr
      exact ⟨_, List.mem_append_right _ (List.mem_map_of_mem he), e1, e2⟩
theorem plays_recOk {l : List Chg} {d : Dep} (h : Plays l d) : RecOk d := by
  induction h with
  | nil => exact ⟨fun r hr => (by cases hr), fun r hr => (by cases hr), List.Pairwise.nil, fun r hr => (by cases hr)⟩
  | skip _ _ ih => exact ih
  | step hp h0 h1 h2 ih => exact app_recOk (fun p => plays_log hp p) ih h0 h1 h2
theorem strict_uniq {l m : List Rcd} (h1 : l.Pairwise (fun a b => cmpR a b < 0)) (h2 : m.Pairwise (fun a b => cmpR a b < 0)) (hp : l.Perm m) : l = m := by
  refine List.Perm.eq_of_pairwise (le := fun a b => cmpR a b < 0) ?_ h1 h2 hp
  intro a b _ _ h1 h2
  rw [cmpR_anti] at h2
  omega
theorem strict_nodup {l : List Rcd} (h : l.Pairwise (fun a b => cmpR a b < 0)) : l.Nodup := by
  refine h.imp ?_
  rintro a b h rfl
  have := cmpR_anti a a
  omega

/-! A depot that was played, and the depots on the way to it. -/
inductive Chain : Dep → Dep → Prop where
  | refl (d : Dep) : Chain d d
  | step {d D : Dep} {c : Chg} {rs : List Rcd} : appE d c = 0 → rs.Perm (d.recs ++ c.recs) → rs.Pairwise (fun a b => 0 ≤ cmpR b a) → Chain ⟨newRevs d c, rs⟩ D → Chain d D
theorem Chain.snoc {d E : Dep} {c : Chg} {rs : List Rcd} (h : Chain d E) (h0 : appE E c = 0) (h1 : rs.Perm (E.recs ++ c.recs)) (h2 : rs.Pairwise (fun a b => 0 ≤ cmpR b a)) : Chain d ⟨newRevs E c, rs⟩ := by
  induction h with
  | refl d => exact .step h0 h1 h2 (.refl _)
  | step a b e _ ih => exact .step a b e (ih h0 h1)
theorem plays_chain {l : List Chg} {D : Dep} (h : Plays l D) : Chain ⟨[], []⟩ D := by
  induction h with
  | nil => exact .refl _
  | skip _ _ ih => exact ih
  | step _ h0 h1 h2 ih => exact ih.snoc h0 h1 h2
structure OnWay (d D : Dep) : Prop where
  tail : ∃ t, D.revs = d.revs ++ t ∧ (∀ v ∈ t, ∀ u ∈ d.revs, u.chg < v.chg) ∧ ∀ r ∈ D.recs, r ∈ d.recs ∨ ∃ v ∈ t, v.path = r.to ∧ v.num = r.num
  recs : ∀ r ∈ d.recs, r ∈ D.recs
theorem chain_way {d D : Dep} (h : Chain d D) (hd : RecOk d) (hl : ∀ p, LogOk d.revs p) : OnWay d D := by
  induction h with
  | refl d => exact ⟨⟨[], (by simp), fun v hv => (by cases hv), fun r hr => .inl hr⟩, fun r hr => hr⟩
  | @step d D c rs h0 h1 h2 _ ih =>
    obtain ⟨⟨t, t1, t2, t3⟩, i2⟩ := ih (app_recOk hl hd h0 h1 h2) (fun p => log_step h0 p (hl p))
    have hs := (sizeE_zero (appE_zero h0).1).2.2.2.2.2
    refine ⟨⟨c.edits.map (madeR (lastOf d.revs) c.num) ++ t, ?_, ?_, ?_⟩, fun r hr => i2 r (h1.mem_iff.2 (List.mem_append_left _ hr))⟩
    · rw [t1]; unfold newRevs; simp
    · intro v hv u hu
      rcases List.mem_append.1 hv with hv | hv
      · obtain ⟨e, -, rfl⟩ := List.mem_map.1 hv
        exact hs u hu
      · exact t2 v hv u (List.mem_append_left _ hu)
    · intro r hr
      rcases t3 r hr with h3 | ⟨v, v1, v2⟩
      · rcases List.mem_append.1 (h1.mem_iff.1 h3) with h3 | h3
        · exact .inl h3
        · obtain ⟨-, e, he, e1, e2⟩ := app_recs hd.path h0 r h3
          exact .inr ⟨_, List.mem_append_left _ (List.mem_map_of_mem he), e1, e2⟩
      · exact .inr ⟨v, List.mem_append_right _ v1, v2⟩
theorem chain_log {d D : Dep} (h : Chain d D) (hl : ∀ p, LogOk d.revs p) : ∀ p, LogOk D.revs p := by
  induction h with
  | refl d => exact hl
  | step h0 _ _ _ ih => exact ih fun p => log_step h0 p (hl p)
theorem chain_rec {d D : Dep} (h : Chain d D) (hl : ∀ p, LogOk d.revs p) (hd : RecOk d) : RecOk D := by
  induction h with
  | refl d => exact hd
  | step h0 h1 h2 _ ih => exact ih (fun p => log_step h0 p (hl p)) (app_recOk hl hd h0 h1 h2)
/-- The number of the change of a revision. -/
theorem chgOf_some {revs : List Rev} (hl : ∀ p, LogOk revs p) {v : Rev} (hv : v ∈ revs) : chgOf revs (v.path, v.num) = some v.chg := by
  suffices H : ∀ (l : List Rev) (f : Fil → Option Int), (∀ r ∈ l, r ∈ revs) → (v ∈ l ∨ f (v.path, v.num) = some v.chg) → l.foldl (fun f r => upd f (r.path, r.num) r.chg) f (v.path, v.num) = some v.chg by
    exact H revs _ (fun r h => h) (.inl hv)
  intro l
  induction l with
  | nil => intro f _ h; rcases h with h | h
           · cases h
           · exact h
  | cons x l ih =>
    intro f hm h
    rw [List.foldl_cons]
    refine ih _ (fun r hr => hm r (List.mem_cons_of_mem _ hr)) ?_
    by_cases he : (v.path, v.num) = (x.path, x.num)
    · right
      injection he with e1 e2
      have hx := hm x (List.mem_cons_self ..)
      have : x = v := (hl v.path).uniq hx hv e1.symm rfl e2.symm
      subst this
      unfold upd; simp
    · rcases h with h | h
      · rcases List.mem_cons.1 h with rfl | h
        · exact absurd rfl he
        · exact .inl h
      · right
        unfold upd; rw [if_neg he]; exact h
theorem edtW_made {d : Dep} {c : Chg} {e : Edt} (h2 : everyE (lastOf d.revs) emptyS c.edits = 0) (hb : ∀ p, LogOk d.revs p) (hlen : d.revs.length ≤ 1000000) (he : e ∈ c.edits) : edtW (madeR (lastOf d.revs) c.num e) = { e with fence := 0 } := by
  obtain ⟨-, hB, -, -⟩ := oneE_zero ((everyE_paths h2).2 e he).2.2
  have hr : 0 ≤ (lastR (lastOf d.revs) e.path).num ∧ (lastR (lastOf d.revs) e.path).num ≤ 1000000 := by
    have h := hb e.path
    unfold lastR
    rw [h.last, List.getLast?_eq_getElem?]
    by_cases h0 : (logOf d.revs e.path).length = 0
    · rw [h0, List.getElem?_eq_none (by omega)]; simp [zeroRev]
    · rw [List.getElem?_eq_getElem (by omega)]
      simp only [Option.getD_some]
      rw [h.num]
      have : (logOf d.revs e.path).length ≤ d.revs.length := List.length_filter_le ..
      omega
  have hw : IntKind.i64.wrap ((lastR (lastOf d.revs) e.path).num + 1 - 1) = e.base := by
    rw [hB, show (lastR (lastOf d.revs) e.path).num + 1 - 1 = (lastR (lastOf d.revs) e.path).num by omega]
    exact IntWalk.i64_in _ (by omega)
  obtain ⟨e1, e2, e3, e4, e5, e6, e7, e8, e9⟩ := e
  unfold edtW madeR
  simp only [Edt.mk.injEq, true_and, and_true]
  exact hw
/-! Fences, client and text do not count. -/
def noFence (e : Edt) : Edt := { e with fence := 0 }
theorem everyE_fence (last : ByteArray → Option Rev) (b : ByteArray) (es : List Edt) : everyE last b (es.map noFence) = everyE last b es := by
  induction es generalizing b with
  | nil => rfl
  | cons e es ih =>
    rw [List.map_cons, everyE, everyE]
    have h1 : editE last b (noFence e) = editE last b e := rfl
    have h2 : (noFence e).path = e.path := rfl
    rw [h1, h2, ih]
theorem editsOf_fence (es : List Edt) (p : ByteArray) : editsOf (es.map noFence) p = (editsOf es p).map noFence := by
  suffices H : ∀ (l : List Edt) (f g : ByteArray → Option Edt), (∀ p, g p = (f p).map noFence) → (l.map noFence).foldl (fun f e => upd f e.path e) g p = (l.foldl (fun f e => upd f e.path e) f p).map noFence from H es _ _ (fun _ => rfl)
  intro l
  induction l with
  | nil => intro f g h; exact h p
  | cons x l ih =>
    intro f g h
    rw [List.map_cons, List.foldl_cons, List.foldl_cons]
    refine ih _ _ fun q => ?_
    have : (noFence x).path = x.path := rfl
    unfold upd
    rw [this]
    split
    · rfl
    · exact h q
theorem arrivals_fence (es : List Edt) (p : ByteArray) : arrivals (es.map noFence) p = arrivals es p := by
  unfold arrivals; rw [List.countP_map]; rfl
theorem movesE_fence (es : List Edt) : movesE (es.map noFence) = movesE es := by
  unfold movesE
  have : (es.map noFence).all (moveOk (es.map noFence) (editsOf (es.map noFence))) = es.all (moveOk es (editsOf es)) := by
    rw [List.all_map]
    congr 1
    funext e
    show moveOk (es.map noFence) (editsOf (es.map noFence)) (noFence e) = moveOk es (editsOf es) e
    have hg : ((editsOf (es.map noFence) e.frm).getD zeroEdt).act = ((editsOf es e.frm).getD zeroEdt).act := by
      rw [editsOf_fence]
      cases editsOf es e.frm <;> rfl
    unfold moveOk
    show (if e.act = 5 then decide (arrivals (es.map noFence) e.path = 1) else if e.act = 4 then decide (((editsOf (es.map noFence) e.frm).getD zeroEdt).act = 5) else true) = _
    rw [arrivals_fence, hg]
  rw [this]
theorem recOk_fence (revs : List Rev) (num : Int) (c1 c2 t1 t2 : ByteArray) (es : List Edt) (rs : List Rcd) (r : Rcd) :
    recOk revs ⟨num, c1, t1, es.map noFence, rs⟩ (editsOf (es.map noFence)) r = recOk revs ⟨num, c2, t2, es, rs⟩ (editsOf es) r := by
  unfold recOk isRec
  dsimp only
  rw [editsOf_fence]
  cases editsOf es r.to <;> rfl
theorem recsF_fence (revs : List Rev) (num : Int) (c1 c2 t1 t2 : ByteArray) (es : List Edt) (rs : List Rcd) : ∀ (l : List Rcd) (b : Option Rcd),
    recsF revs ⟨num, c1, t1, es.map noFence, rs⟩ (editsOf (es.map noFence)) b l = recsF revs ⟨num, c2, t2, es, rs⟩ (editsOf es) b l
  | [], b => by unfold recsF; rfl
  | r :: l, b => by
    unfold recsF
    rw [recOk_fence revs num c1 c2 t1 t2, recsF_fence revs num c1 c2 t1 t2]
theorem appE_fence (d : Dep) (c : Chg) : appE d ⟨c.num, emptyS, emptyS, c.edits.map noFence, c.recs⟩ = appE d c := by
  obtain ⟨num, c1, t1, es, rs⟩ := c
  unfold appE
  have h1 : sizeE d.revs ⟨num, emptyS, emptyS, es.map noFence, rs⟩ = sizeE d.revs ⟨num, c1, t1, es, rs⟩ := by unfold sizeE; dsimp only; rw [List.length_map]
  have h2 : everyE (lastOf d.revs) emptyS (es.map noFence) = everyE (lastOf d.revs) emptyS es := everyE_fence _ _ _
  have h3 : movesE (es.map noFence) = movesE es := movesE_fence _
  have h4 : recsE d.revs ⟨num, emptyS, emptyS, es.map noFence, rs⟩ = recsE d.revs ⟨num, c1, t1, es, rs⟩ := by unfold recsE; dsimp only; rw [recsF_fence d.revs num emptyS c1 emptyS t1]
  have h5 : roomE d ⟨num, emptyS, emptyS, es.map noFence, rs⟩ = roomE d ⟨num, c1, t1, es, rs⟩ := by unfold roomE; dsimp only; rw [List.length_map]
  rw [h1, h4, h5]
  dsimp only
  rw [h2, h3]
theorem newRevs_fence (d : Dep) (c : Chg) : newRevs d ⟨c.num, emptyS, emptyS, c.edits.map noFence, c.recs⟩ = newRevs d c := by
  unfold newRevs; dsimp only; rw [List.map_map]; rfl
theorem takeWhile_app {α : Type} (p : α → Bool) (a b : List α) (ha : ∀ x ∈ a, p x = true) (hb : ∀ x ∈ b, p x = false) : (a ++ b).takeWhile p = a := by
  rw [List.takeWhile_append_of_pos ha]
  cases b with
  | nil => simp
  | cons x b => rw [List.takeWhile_cons_of_neg (by rw [hb x (List.mem_cons_self ..)]; simp)]; simp
/-- One step on the way: the change that Valid makes anew is the one that was accepted. -/
theorem way_step {d D : Dep} {c : Chg} {rs : List Rcd} (hl : ∀ p, LogOk d.revs p) (hd : RecOk d) (h0 : appE d c = 0) (h1 : rs.Perm (d.recs ++ c.recs)) (h2 : rs.Pairwise (fun a b => 0 ≤ cmpR b a)) (hC : Chain ⟨newRevs d c, rs⟩ D) :
    ∃ h : d.revs.length < D.revs.length, (D.revs[d.revs.length]).chg = c.num ∧ runAt D.revs d.revs.length c.num = c.edits.map (madeR (lastOf d.revs) c.num) ∧ chgV D d.revs.length c.num = ⟨c.num, emptyS, emptyS, c.edits.map noFence, c.recs⟩ := by
  obtain ⟨a1, a2, a3, a4, a5⟩ := appE_zero h0
  obtain ⟨s1, -, -, -, -, s6⟩ := sizeE_zero a1
  obtain ⟨r1, -⟩ := roomE_zero a5
  have hl2 := fun p => log_step h0 p (hl p)
  have hd2 := app_recOk hl hd h0 h1 h2
  obtain ⟨⟨t, t1, t2, t3⟩, t4⟩ := chain_way hC hd2 hl2
  have hlD := chain_log hC hl2
  have hdD := chain_rec hC hl2 hd2
  have ht : D.revs = d.revs ++ (c.edits.map (madeR (lastOf d.revs) c.num) ++ t) := by rw [t1]; unfold newRevs; simp
  have hgt : ∀ v ∈ t, c.num < v.chg := by
    intro v hv
    obtain ⟨e, he⟩ := List.exists_mem_of_length_pos (l := c.edits) (by omega)
    exact t2 v hv (madeR (lastOf d.revs) c.num e) (List.mem_append_right _ (List.mem_map_of_mem he))
  have hlt : d.revs.length < D.revs.length := by rw [ht]; simp; omega
  have hk : (D.revs[d.revs.length]).chg = c.num := by
    have h : D.revs[d.revs.length]? = (c.edits.map (madeR (lastOf d.revs) c.num))[0]? := by
      rw [ht, List.getElem?_append_right (Nat.le_refl _), Nat.sub_self, List.getElem?_append_left (by simp; omega)]
    rw [List.getElem?_eq_getElem hlt, List.getElem?_eq_getElem (by simp; omega)] at h
    injection h with h
    rw [h]; simp [madeR]
  have hrun : runAt D.revs d.revs.length c.num = c.edits.map (madeR (lastOf d.revs) c.num) := by
    unfold runAt
    rw [ht, List.drop_left]
    refine takeWhile_app _ _ _ (fun x hx => ?_) (fun x hx => ?_)
    · obtain ⟨e, -, rfl⟩ := List.mem_map.1 hx; exact decide_eq_true rfl
    · have := hgt x hx; exact decide_eq_false (by omega)
  have hrec : recsAt D c.num = c.recs := by
    refine strict_uniq (hdD.strict.sublist List.filter_sublist) (app_strict hd.path h0) ?_
    unfold recsAt
    rw [List.perm_ext_iff_of_nodup ((strict_nodup hdD.strict).sublist List.filter_sublist) (strict_nodup (app_strict hd.path h0))]
    intro r
    rw [List.mem_filter, decide_eq_true_eq]
    constructor
    · rintro ⟨r1, r2⟩
      rcases t3 r r1 with h | ⟨v, v1, v2, v3⟩
      · rcases List.mem_append.1 (h1.mem_iff.1 h) with h | h
        · obtain ⟨v, v1, v2, v3⟩ := hd.inn r h
          have hv := chgOf_some hlD (v := v) (by rw [ht]; exact List.mem_append_left _ v1)
          rw [v2, v3, r2] at hv
          injection hv with hv
          have := s6 v v1
          omega
        · exact h
      · have hv := chgOf_some hlD (v := v) (by rw [t1]; exact List.mem_append_right _ v1)
        rw [v2, v3, r2] at hv
        injection hv with hv
        have := hgt v v1
        omega
    · intro hr
      refine ⟨t4 r (h1.mem_iff.2 (List.mem_append_right _ hr)), ?_⟩
      obtain ⟨-, e, he, e1, e2⟩ := app_recs hd.path h0 r hr
      have hv := chgOf_some hlD (v := madeR (lastOf d.revs) c.num e) (by rw [ht]; exact List.mem_append_right _ (List.mem_append_left _ (List.mem_map_of_mem he)))
      rw [← e1, ← e2]
      exact hv
  refine ⟨hlt, hk, hrun, ?_⟩
  unfold chgV
  rw [hrun, hrec, List.map_map]
  congr 1
  refine List.map_congr_left fun e he => ?_
  exact edtW_made a2 hl (by omega) he
/-- Every depot that Valid makes anew is on the way. -/
theorem repl_way {D : Dep} (hD : Chain ⟨[], []⟩ D) {k : Nat} {d : Dep} (h : Repl D k d) : k = d.revs.length ∧ Chain d D ∧ RecOk d ∧ ∀ p, LogOk d.revs p := by
  induction h with
  | start => exact ⟨rfl, hD, plays_recOk Plays.nil, fun p => plays_log Plays.nil p⟩
  | @step k d rs hk hr h0 h1 h2 ih =>
    obtain ⟨rfl, hC, hR, hL⟩ := ih
    cases hC with
    | refl => exact absurd hk (Nat.lt_irrefl _)
    | @step _ _ c rs' a0 a1 a2 hC' =>
      obtain ⟨b1, b2, b3, b4⟩ := way_step hL hR a0 a1 a2 hC'
      rw [b2, b4] at h0 h1
      rw [b2, b3, b4]
      dsimp only at h1
      rw [newRevs_fence]
      have hrs : rs = rs' := strict_uniq (app_recOk hL hR a0 h1 h2).strict (app_recOk hL hR a0 a1 a2).strict (h1.trans a1.symm)
      subst hrs
      exact ⟨by unfold newRevs; simp, hC', app_recOk hL hR a0 a1 a2, fun p => log_step a0 p (hL p)⟩
theorem chain_len {d D : Dep} (h : Chain d D) : d.revs.length ≤ D.revs.length ∧ (d.revs.length = D.revs.length → d = D) := by
  induction h with
  | refl d => exact ⟨Nat.le_refl _, fun _ => rfl⟩
  | @step d D c rs h0 h1 h2 _ ih =>
    obtain ⟨s1, -⟩ := sizeE_zero (appE_zero h0).1
    have hn : (newRevs d c).length = d.revs.length + c.edits.length := by unfold newRevs; simp
    have := ih.1
    dsimp only at this
    exact ⟨by omega, fun e => by omega⟩
theorem plays_notBad {l : List Chg} {D : Dep} (h : Plays l D) (h1 : D.revs.length ≤ 512) (h2 : D.recs.length ≤ 512) : ¬ Bad D := by
  have hD := plays_chain h
  intro hb
  cases hb with
  | revs h => omega
  | recs h => omega
  | lost r hr hn =>
    obtain ⟨v, v1, v2, v3⟩ := (plays_recOk h).inn r hr
    have := chgOf_some (fun p => plays_log h p) v1
    rw [v2, v3, hn] at this
    cases this
  | stuck k d hk hr hn =>
    obtain ⟨rfl, hC, hR, hL⟩ := repl_way hD hr
    cases hC with
    | refl => exact absurd hk (Nat.lt_irrefl _)
    | @step _ _ c rs' a0 a1 a2 hC' =>
      obtain ⟨b1, b2, b3, b4⟩ := way_step hL hR a0 a1 a2 hC'
      rw [b2, b4, appE_fence] at hn
      exact hn a0
  | other d hr hn =>
    obtain ⟨e, hC, -, -⟩ := repl_way hD hr
    have := (chain_len hC).2 e.symm
    subst this
    exact hn ⟨rfl, rfl⟩
end Go.Proofs.YtmhmnchdhacdbaaGreatDoor
/- Plain: the reference's words for a depot's revisions, and that they say what the program's maps hold. -/
namespace Go.Proofs.YtmhmnchdhacdbaaGreatDoor
open Go.RowKit
set_option linter.unusedVariables false
set_option linter.unusedSimpArgs false

def rGet (D : List Rev) (p : ByteArray) (n : Int) : Option Rev := (logOf D p).find? fun v => decide (v.num = n)
def rLast (D : List Rev) (p : ByteArray) : Option Rev := (logOf D p).getLast?
def rPrev (D : List Rev) (v : Rev) : Option Rev := if v.act = 1 then none else if v.act = 4 then rGet D v.frm v.fnum else rGet D v.path (v.num - 1)
theorem rGet_mem {D : List Rev} {p : ByteArray} {n : Int} {v : Rev} (h : rGet D p n = some v) : v ∈ D ∧ v.path = p ∧ v.num = n := by
  have h1 := List.mem_of_find?_eq_some h
  have h2 := List.find?_some h
  obtain ⟨a, b⟩ := mem_log.1 h1
  exact ⟨a, b, by simpa using h2⟩
theorem rPrev_mem {D : List Rev} {u v : Rev} (h : rPrev D v = some u) : u ∈ D := by
  unfold rPrev at h
  split at h
  · cases h
  · split at h
    · exact (rGet_mem h).1
    · exact (rGet_mem h).1
theorem chg_count {D : List Rev} {u v : Rev} (hu : u ∈ D) (h : u.chg < v.chg) : D.countP (fun x => decide (x.chg < u.chg)) < D.countP (fun x => decide (x.chg < v.chg)) := by
  have h1 : D.countP (fun x => decide (x.chg < v.chg)) = D.countP (fun x => decide (x.chg < u.chg)) + D.countP (fun x => decide (u.chg ≤ x.chg) && decide (x.chg < v.chg)) := by
    clear hu
    induction D with
    | nil => rfl
    | cons x D ih =>
      rw [List.countP_cons, List.countP_cons, List.countP_cons, ih]
      by_cases a : x.chg < u.chg
      · have b : x.chg < v.chg := by omega
        have c : ¬ u.chg ≤ x.chg := by omega
        simp [a, b, c]; omega
      · by_cases b : x.chg < v.chg
        · have c : u.chg ≤ x.chg := by omega
          simp [a, b, c]; omega
        · simp [a, b]
  have h2 : 0 < D.countP (fun x => decide (u.chg ≤ x.chg) && decide (x.chg < v.chg)) := List.countP_pos_iff.2 ⟨u, hu, by simp [h]⟩
  omega
/-- The first member of the line of a revision. -/
def rFirst (D : List Rev) (v : Rev) : Fil :=
  match h : rPrev D v with
  | none => (v.path, v.num)
  | some u => if hc : u.chg < v.chg then rFirst D u else (v.path, v.num)
termination_by D.countP fun x => decide (x.chg < v.chg)
decreasing_by exact chg_count (rPrev_mem h) hc
theorem rFirst_none {D : List Rev} {v : Rev} (h : rPrev D v = none) : rFirst D v = (v.path, v.num) := by
  rw [rFirst]; split
  · rfl
  · rename_i u hu; rw [h] at hu; cases hu
theorem rFirst_some {D : List Rev} {u v : Rev} (h : rPrev D v = some u) (hc : u.chg < v.chg) : rFirst D v = rFirst D u := by
  conv => lhs; rw [rFirst]
  split
  · rename_i hu; rw [h] at hu; cases hu
  · rename_i w hu
    rw [h] at hu
    injection hu with hu
    subst hu
    rw [dif_pos hc]
theorem rFirst_stop {D : List Rev} {u v : Rev} (h : rPrev D v = some u) (hc : ¬ u.chg < v.chg) : rFirst D v = (v.path, v.num) := by
  rw [rFirst]
  split
  · rfl
  · rename_i w hu
    rw [h] at hu
    injection hu with hu
    subst hu
    rw [dif_neg hc]
theorem LogOk.rlast {D : List Rev} {p : ByteArray} (h : LogOk D p) : rLast D p = lastOf D p := h.last.symm
theorem LogOk.rget {D : List Rev} {p : ByteArray} (h : LogOk D p) {v : Rev} (hv : v ∈ D) (hp : v.path = p) : rGet D p v.num = some v := by
  cases hg : rGet D p v.num with
  | none =>
    exfalso
    have := List.find?_eq_none.1 hg v (mem_log.2 ⟨hv, hp⟩)
    simp at this
  | some u =>
    obtain ⟨a, b, c⟩ := rGet_mem hg
    rw [h.uniq a hv b hp c]
theorem LogOk.rget_eq {D : List Rev} {p : ByteArray} (h : LogOk D p) (n : Int) : rGet D p n = greatest D p (fun r => decide (r.num = n)) := by
  cases hg : rGet D p n with
  | some u =>
    obtain ⟨a, b, c⟩ := rGet_mem hg
    subst c
    exact (h.get a b).symm
  | none =>
    cases hq : greatest D p (fun r => decide (r.num = n)) with
    | none => rfl
    | some u =>
      obtain ⟨a, b, c⟩ := greatest_mem hq
      have := List.find?_eq_none.1 hg u (mem_log.2 ⟨a, b⟩)
      simp at this c
      exact absurd c this
theorem LogOk.rget_in {D : List Rev} {p : ByteArray} (h : LogOk D p) (n : Int) : (∃ v, rGet D p n = some v) ↔ 1 ≤ n ∧ n ≤ (logOf D p).length := by
  constructor
  · rintro ⟨v, hv⟩
    obtain ⟨a, b, c⟩ := rGet_mem hv
    obtain ⟨i, hi, e⟩ := List.mem_iff_getElem.1 (mem_log.2 ⟨a, b⟩)
    have := h.num i hi
    rw [e] at this
    omega
  · rintro ⟨h1, h2⟩
    have hi : n.toNat - 1 < (logOf D p).length := by omega
    have hn := h.num (n.toNat - 1) hi
    obtain ⟨a, b⟩ := mem_log.1 (List.getElem_mem hi)
    refine ⟨(logOf D p)[n.toNat - 1], ?_⟩
    have := h.rget a b
    rw [hn, show ((n.toNat - 1 : Nat) : Int) + 1 = n by omega] at this
    exact this
/-- Each revision follows one of an earlier change that is live, or begins a line. -/
structure PrevOk (D : List Rev) : Prop where
  act : ∀ v ∈ D, 1 ≤ v.act ∧ v.act ≤ 5
  num : ∀ v ∈ D, 1 ≤ v.num
  prev : ∀ v ∈ D, v.act = 1 ∨ ∃ u, rPrev D v = some u ∧ u.chg < v.chg ∧ liveA u.act = true
theorem rGet_app {D E : List Rev} {p : ByteArray} {n : Int} {u : Rev} (h : rGet D p n = some u) : rGet (D ++ E) p n = some u := by
  unfold rGet at h ⊢
  rw [log_app, List.find?_append, h]; rfl
theorem rPrev_app {D E : List Rev} {v u : Rev} (h : rPrev D v = some u) : rPrev (D ++ E) v = some u := by
  unfold rPrev at h ⊢
  split
  · rename_i h1; rw [if_pos h1] at h; cases h
  · rename_i h1
    rw [if_neg h1] at h
    split
    · rename_i h2; rw [if_pos h2] at h; exact rGet_app h
    · rename_i h2; rw [if_neg h2] at h; exact rGet_app h
theorem rFirst_app {D E : List Rev} (hD : PrevOk D) {v : Rev} (hv : v ∈ D) : rFirst (D ++ E) v = rFirst D v := by
  suffices H : ∀ (n : Nat) (v : Rev), v ∈ D → D.countP (fun x => decide (x.chg < v.chg)) ≤ n → rFirst (D ++ E) v = rFirst D v from H _ v hv (Nat.le_refl _)
  intro n
  induction n with
  | zero =>
    intro v hv hn
    rcases hD.prev v hv with h | ⟨u, hu, hc, -⟩
    · rw [rFirst_none (by unfold rPrev; rw [if_pos h]), rFirst_none (by unfold rPrev; rw [if_pos h])]
    · have := chg_count (rPrev_mem hu) hc; omega
  | succ n ih =>
    intro v hv hn
    rcases hD.prev v hv with h | ⟨u, hu, hc, -⟩
    · rw [rFirst_none (by unfold rPrev; rw [if_pos h]), rFirst_none (by unfold rPrev; rw [if_pos h])]
    · rw [rFirst_some hu hc, rFirst_some (rPrev_app hu) hc]
      have := chg_count (rPrev_mem hu) hc
      exact ih u (rPrev_mem hu) (by omega)
theorem rFirst_in {D : List Rev} (hD : PrevOk D) {v : Rev} (hv : v ∈ D) : ∃ u ∈ D, rFirst D v = (u.path, u.num) := by
  suffices H : ∀ (n : Nat) (v : Rev), v ∈ D → D.countP (fun x => decide (x.chg < v.chg)) ≤ n → ∃ u ∈ D, rFirst D v = (u.path, u.num) from H _ v hv (Nat.le_refl _)
  intro n
  induction n with
  | zero =>
    intro v hv hn
    rcases hD.prev v hv with h | ⟨u, hu, hc, -⟩
    · exact ⟨v, hv, rFirst_none (by unfold rPrev; rw [if_pos h])⟩
    · have := chg_count (rPrev_mem hu) hc; omega
  | succ n ih =>
    intro v hv hn
    rcases hD.prev v hv with h | ⟨u, hu, hc, -⟩
    · exact ⟨v, hv, rFirst_none (by unfold rPrev; rw [if_pos h])⟩
    · have := chg_count (rPrev_mem hu) hc
      obtain ⟨x, hx, e⟩ := ih u (rPrev_mem hu) (by omega)
      exact ⟨x, hx, by rw [rFirst_some hu hc]; exact e⟩
theorem last_in {D : List Rev} {p : ByteArray} (h : LogOk D p) {v : Rev} (hl : lastOf D p = some v) : v ∈ D ∧ v.path = p ∧ rGet D p v.num = some v := by
  obtain ⟨a, b⟩ := lastOf_mem _ _ _ hl
  exact ⟨a, b, h.rget a b⟩
/-- The revision that the one that an edit makes follows. -/
theorem made_prev2 {d : Dep} {c : Chg} (hl : ∀ p, LogOk d.revs p) (hs : ∀ r ∈ d.revs, r.chg < c.num) (h2 : everyE (lastOf d.revs) emptyS c.edits = 0) {e : Edt} (he : e ∈ c.edits) : e.act = 1 ∨ ∃ u, rPrev d.revs (madeR (lastOf d.revs) c.num e) = some u ∧ u.chg < c.num ∧ liveA u.act = true ∧ (if e.act = 4 then (u.path, u.num) = (e.frm, e.fnum) else (u.path, u.num) = (e.path, (lastR (lastOf d.revs) e.path).num)) := by
  obtain ⟨o1, o2, o3, -⟩ := oneE_zero ((everyE_paths h2).2 e he).2.2
  by_cases a1 : e.act = 1
  · exact .inl a1
  right
  by_cases a4 : e.act = 4
  · unfold fromE at o3
    rw [if_pos a4] at o3
    simp only [Bool.and_eq_true, decide_eq_true_eq] at o3
    obtain ⟨⟨f1, -⟩, f3⟩ := o3
    unfold isLast at f1
    unfold lastR at f3
    cases hx : lastOf d.revs e.frm with
    | none => rw [hx] at f1; cases f1
    | some u =>
      rw [hx] at f1 f3
      simp only [Option.getD_some] at f3
      obtain ⟨b1, b2, b3⟩ := last_in (hl _) hx
      refine ⟨u, ?_, hs u b1, f1, ?_⟩
      · unfold rPrev
        rw [if_neg (show ¬ (madeR (lastOf d.revs) c.num e).act = 1 from a1), if_pos (show (madeR (lastOf d.revs) c.num e).act = 4 from a4)]
        show rGet d.revs e.frm e.fnum = some u
        rw [f3]; exact b3
      · rw [if_pos a4, b2, f3]
  · have hadd := actE_zero o1
    have hna : addA e.act = false := by unfold addA; simp [a1, a4]
    rw [hna] at hadd
    have hlv : isLast (lastOf d.revs) e.path = true := by simpa using hadd.symm
    unfold isLast at hlv
    cases hx : lastOf d.revs e.path with
    | none => rw [hx] at hlv; cases hlv
    | some u =>
      rw [hx] at hlv
      obtain ⟨b1, b2, b3⟩ := last_in (hl _) hx
      have hR : lastR (lastOf d.revs) e.path = u := by unfold lastR; rw [hx]; rfl
      refine ⟨u, ?_, hs u b1, hlv, ?_⟩
      · unfold rPrev
        rw [if_neg (show ¬ (madeR (lastOf d.revs) c.num e).act = 1 from a1), if_neg (show ¬ (madeR (lastOf d.revs) c.num e).act = 4 from a4)]
        show rGet d.revs e.path ((lastR (lastOf d.revs) e.path).num + 1 - 1) = some u
        rw [hR, show u.num + 1 - 1 = u.num by omega]
        exact b3
      · rw [if_neg a4, hR, b2]
theorem made_prev {d : Dep} {c : Chg} (hl : ∀ p, LogOk d.revs p) (h : appE d c = 0) {e : Edt} (he : e ∈ c.edits) : e.act = 1 ∨ ∃ u, rPrev d.revs (madeR (lastOf d.revs) c.num e) = some u ∧ u.chg < c.num ∧ liveA u.act = true ∧ (if e.act = 4 then (u.path, u.num) = (e.frm, e.fnum) else (u.path, u.num) = (e.path, (lastR (lastOf d.revs) e.path).num)) :=
  made_prev2 hl (sizeE_zero (appE_zero h).1).2.2.2.2.2 (appE_zero h).2.1 he
theorem acts_ok {last : ByteArray → Option Rev} {e : Edt} (h : actE last e = 0) : 1 ≤ e.act ∧ e.act ≤ 5 := by
  unfold actE at h
  split at h
  · omega
  · split at h
    · omega
    · omega
theorem app_prevOk {d : Dep} {c : Chg} (hl : ∀ p, LogOk d.revs p) (hP : PrevOk d.revs) (h : appE d c = 0) : PrevOk (newRevs d c) := by
  obtain ⟨h1, h2, -, -, -⟩ := appE_zero h
  refine ⟨fun v hv => ?_, fun v hv => ?_, fun v hv => ?_⟩
  · rcases List.mem_append.1 hv with hv | hv
    · exact hP.act v hv
    · obtain ⟨e, he, rfl⟩ := List.mem_map.1 hv
      exact acts_ok (oneE_zero ((everyE_paths h2).2 e he).2.2).1
  · rcases List.mem_append.1 hv with hv | hv
    · exact hP.num v hv
    · obtain ⟨e, he, rfl⟩ := List.mem_map.1 hv
      show 1 ≤ (lastR (lastOf d.revs) e.path).num + 1
      unfold lastR
      cases hx : lastOf d.revs e.path with
      | none => simp [zeroRev]
      | some u => have := hP.num u (lastOf_mem _ _ _ hx).1; simp; omega
  · rcases List.mem_append.1 hv with hv | hv
    · rcases hP.prev v hv with h | ⟨u, a, b⟩
      · exact .inl h
      · exact .inr ⟨u, rPrev_app a, b⟩
    · obtain ⟨e, he, rfl⟩ := List.mem_map.1 hv
      rcases made_prev hl h he with h | ⟨u, a, b, c', -⟩
      · exact .inl h
      · exact .inr ⟨u, rPrev_app a, b, c'⟩
/-- The map of the lines holds the first members, and none of a file that moved away. -/
structure LineOk (D : List Rev) : Prop where
  live : ∀ v ∈ D, v.act ≠ 5 → linesOf D (v.path, v.num) = some (rFirst D v)
  none_ : ∀ f, (∀ v ∈ D, v.act ≠ 5 → (v.path, v.num) ≠ f) → linesOf D f = none
theorem lines_news (last : ByteArray → Option Rev) (n : Int) (g : Edt → Fil) : ∀ (es : List Edt) (f : Fil → Option Fil), (es.map (·.path)).Nodup → (∀ e ∈ es, e.act ≠ 5 → ∀ h : Fil → Option Fil, (∀ k, (∀ x ∈ es, k ≠ (x.path, (lastR last x.path).num + 1)) → h k = f k) → lineV h (madeR last n e) = g e) →
    ∀ k, ((es.map (madeR last n)).foldl lineM f) k = (match es.find? (fun e => decide (e.act ≠ 5) && decide ((e.path, (lastR last e.path).num + 1) = k)) with
      | some e => some (g e)
      | none => f k) := by
  intro es
  induction es with
  | nil => intro f _ _ k; rfl
  | cons e es ih =>
    intro f hn hg k
    rw [List.map_cons, List.nodup_cons] at hn
    rw [List.map_cons, List.foldl_cons]
    have hkey : ∀ x ∈ es, (e.path, (lastR last e.path).num + 1) ≠ (x.path, (lastR last x.path).num + 1) := by
      intro x hx h
      injection h with h _
      exact hn.1 (List.mem_map.2 ⟨x, hx, h.symm⟩)
    by_cases h5 : e.act = 5
    · have hl : lineM f (madeR last n e) = f := by unfold lineM; rw [if_pos (show (madeR last n e).act = 5 from h5)]
      rw [hl, List.find?_cons_of_neg (by simp [h5])]
      refine ih f hn.2 (fun x hx hx5 h hh => hg x (List.mem_cons_of_mem _ hx) hx5 h fun k hk => hh k fun y hy => hk y (List.mem_cons_of_mem _ hy)) k
    · have hv : lineV f (madeR last n e) = g e := hg e (List.mem_cons_self ..) h5 f fun _ _ => rfl
      have hl : lineM f (madeR last n e) = upd f (e.path, (lastR last e.path).num + 1) (g e) := by
        unfold lineM
        rw [if_neg (show ¬ (madeR last n e).act = 5 from h5), hv]
        rfl
      rw [hl]
      rw [ih (upd f (e.path, (lastR last e.path).num + 1) (g e)) hn.2 (fun x hx hx5 h hh => hg x (List.mem_cons_of_mem _ hx) hx5 h fun k hk => by
        rw [hh k fun y hy => hk y (List.mem_cons_of_mem _ hy)]
        unfold upd
        rw [if_neg (hk e (List.mem_cons_self ..))]) k]
      by_cases hk : (e.path, (lastR last e.path).num + 1) = k
      · rw [List.find?_cons_of_pos (by simp [h5, hk])]
        have hf : es.find? (fun e => decide (e.act ≠ 5) && decide ((e.path, (lastR last e.path).num + 1) = k)) = none := by
          rw [List.find?_eq_none]
          intro x hx hh
          rw [Bool.and_eq_true] at hh
          exact hkey x hx (hk.trans (of_decide_eq_true hh.2).symm)
        rw [hf]
        dsimp only
        unfold upd
        rw [if_pos hk.symm]
      · rw [List.find?_cons_of_neg (by simp [hk])]
        cases es.find? (fun e => decide (e.act ≠ 5) && decide ((e.path, (lastR last e.path).num + 1) = k)) with
        | some x => rfl
        | none =>
          dsimp only
          unfold upd
          rw [if_neg (fun h => hk h.symm)]
theorem find_edit {es : List Edt} (hn : (es.map (·.path)).Nodup) (last : ByteArray → Option Rev) {e : Edt} (he : e ∈ es) (h5 : e.act ≠ 5) : es.find? (fun x => decide (x.act ≠ 5) && decide ((x.path, (lastR last x.path).num + 1) = (e.path, (lastR last e.path).num + 1))) = some e := by
  induction es with
  | nil => cases he
  | cons x es ih =>
    rw [List.map_cons, List.nodup_cons] at hn
    rcases List.mem_cons.1 he with rfl | he
    · rw [List.find?_cons_of_pos (by simp [h5])]
    · have hne : x.path ≠ e.path := fun h => hn.1 (List.mem_map.2 ⟨e, he, h.symm⟩)
      rw [List.find?_cons_of_neg (by simp [hne])]
      exact ih hn.2 he
theorem app_lineOk {d : Dep} {c : Chg} (hl : ∀ p, LogOk d.revs p) (hP : PrevOk d.revs) (hL : LineOk d.revs) (h : appE d c = 0) : LineOk (newRevs d c) := by
  obtain ⟨h1, h2, -, -, -⟩ := appE_zero h
  obtain ⟨p1, p2⟩ := everyE_paths h2
  have hn := paths_nodup p1
  -- what the map holds of a revision that an edit follows
  have hold : ∀ u : Rev, u ∈ d.revs → liveA u.act = true → linesOf d.revs (u.path, u.num) = some (rFirst d.revs u) := fun u hu hl => hL.live u hu (fun h5 => by rw [h5] at hl; cases hl)
  have hkey : ∀ u ∈ d.revs, ∀ x ∈ c.edits, (u.path, u.num) ≠ (x.path, (lastR (lastOf d.revs) x.path).num + 1) := by
    intro u hu x hx e
    injection e with e1 e2
    have := last_bound hl hu
    rw [e1] at this
    omega
  have hlin : ∀ k, linesOf (newRevs d c) k = (match c.edits.find? (fun e => decide (e.act ≠ 5) && decide ((e.path, (lastR (lastOf d.revs) e.path).num + 1) = k)) with
      | some e => some (rFirst (newRevs d c) (madeR (lastOf d.revs) c.num e))
      | none => linesOf d.revs k) := by
    intro k
    have hf : linesOf (newRevs d c) = (c.edits.map (madeR (lastOf d.revs) c.num)).foldl lineM (linesOf d.revs) := by unfold newRevs linesOf; rw [List.foldl_append]
    rw [hf]
    refine lines_news (lastOf d.revs) c.num (fun e => rFirst (newRevs d c) (madeR (lastOf d.revs) c.num e)) c.edits (linesOf d.revs) hn ?_ k
    intro e he h5 g hg
    rcases made_prev hl h he with a1 | ⟨u, u1, u2, u3, u4⟩
    · rw [rFirst_none (by unfold rPrev; rw [if_pos (show (madeR (lastOf d.revs) c.num e).act = 1 from a1)])]
      unfold lineV
      rw [if_pos (show (madeR (lastOf d.revs) c.num e).act = 1 from a1)]
    · have hu := rPrev_mem u1
      have ha1 : e.act ≠ 1 := by
        intro a1
        unfold rPrev at u1
        rw [if_pos (show (madeR (lastOf d.revs) c.num e).act = 1 from a1)] at u1
        cases u1
      have hr : rFirst (newRevs d c) (madeR (lastOf d.revs) c.num e) = rFirst d.revs u := by
        show rFirst (d.revs ++ c.edits.map (madeR (lastOf d.revs) c.num)) (madeR (lastOf d.revs) c.num e) = _
        rw [rFirst_some (rPrev_app (E := c.edits.map (madeR (lastOf d.revs) c.num)) u1) u2]
        exact rFirst_app hP hu
      rw [hr]
      have hgu : g (u.path, u.num) = some (rFirst d.revs u) := by
        rw [hg _ (hkey u hu)]
        exact hold u hu u3
      unfold lineV
      rw [if_neg (show ¬ (madeR (lastOf d.revs) c.num e).act = 1 from ha1)]
      by_cases a4 : e.act = 4
      · rw [if_pos (show (madeR (lastOf d.revs) c.num e).act = 4 from a4)]
        rw [if_pos a4] at u4
        show (g (e.frm, e.fnum)).getD zeroFil = _
        rw [← u4, hgu]; rfl
      · rw [if_neg (show ¬ (madeR (lastOf d.revs) c.num e).act = 4 from a4)]
        rw [if_neg a4] at u4
        show (g (e.path, (lastR (lastOf d.revs) e.path).num + 1 - 1)).getD zeroFil = _
        rw [show (lastR (lastOf d.revs) e.path).num + 1 - 1 = (lastR (lastOf d.revs) e.path).num by omega, ← u4, hgu]; rfl
  refine ⟨fun v hv h5 => ?_, fun f hf => ?_⟩
  · rw [hlin]
    rcases List.mem_append.1 hv with hv | hv
    · have hnf : c.edits.find? (fun e => decide (e.act ≠ 5) && decide ((e.path, (lastR (lastOf d.revs) e.path).num + 1) = (v.path, v.num))) = none := by
        rw [List.find?_eq_none]
        intro x hx hh
        rw [Bool.and_eq_true] at hh
        exact hkey v hv x hx (of_decide_eq_true hh.2).symm
      rw [hnf]
      dsimp only
      rw [hL.live v hv h5]
      exact congrArg some (rFirst_app hP hv).symm
    · obtain ⟨e, he, rfl⟩ := List.mem_map.1 hv
      have := find_edit hn (lastOf d.revs) he h5
      rw [show ((madeR (lastOf d.revs) c.num e).path, (madeR (lastOf d.revs) c.num e).num) = (e.path, (lastR (lastOf d.revs) e.path).num + 1) from rfl, this]
  · rw [hlin]
    have hnf : c.edits.find? (fun e => decide (e.act ≠ 5) && decide ((e.path, (lastR (lastOf d.revs) e.path).num + 1) = f)) = none := by
      rw [List.find?_eq_none]
      intro x hx hh
      rw [Bool.and_eq_true] at hh
      exact hf (madeR (lastOf d.revs) c.num x) (List.mem_append_right _ (List.mem_map_of_mem hx)) (of_decide_eq_true hh.1) (of_decide_eq_true hh.2)
    rw [hnf]
    exact hL.none_ f fun v hv => hf v (List.mem_append_left _ hv)
/-- All that is known of a depot that was played. -/
structure DepOk (d : Dep) : Prop where
  log : ∀ p, LogOk d.revs p
  rec_ : RecOk d
  prev : PrevOk d.revs
  line : LineOk d.revs
theorem depOk_nil : DepOk ⟨[], []⟩ := ⟨fun p => plays_log Plays.nil p, plays_recOk Plays.nil, ⟨fun v hv => (by cases hv), fun v hv => (by cases hv), fun v hv => (by cases hv)⟩, ⟨fun v hv => (by cases hv), fun f _ => rfl⟩⟩
theorem DepOk.step {d : Dep} {c : Chg} {rs : List Rcd} (h : DepOk d) (h0 : appE d c = 0) (h1 : rs.Perm (d.recs ++ c.recs)) (h2 : rs.Pairwise (fun a b => 0 ≤ cmpR b a)) : DepOk ⟨newRevs d c, rs⟩ :=
  ⟨fun p => log_step h0 p (h.log p), app_recOk h.log h.rec_ h0 h1 h2, app_prevOk h.log h.prev h0, app_lineOk h.log h.prev h.line h0⟩
theorem plays_depOk {l : List Chg} {d : Dep} (h : Plays l d) : DepOk d := by
  induction h with
  | nil => exact depOk_nil
  | skip _ _ ih => exact ih
  | step _ h0 h1 h2 ih => exact ih.step h0 h1 h2
end Go.Proofs.YtmhmnchdhacdbaaGreatDoor
/- Plain: what the reference's At says, and that it says what the program's At says. -/
namespace Go.Proofs.YtmhmnchdhacdbaaGreatDoor
open Go.RowKit
set_option linter.unusedVariables false
set_option linter.unusedSimpArgs false

def atM (m : Int) (o v : Rev) : Rev := if v.chg ≤ m then v else o
/-- The reference's At: the last one of the log that counts. -/
def rAt (D : List Rev) (p : ByteArray) (m : Int) : Rev := (logOf D p).foldl (atM m) zeroRev
def gS (p : ByteArray) (f : Rev → Bool) (o : Option Rev) (r : Rev) : Option Rev := if r.path = p ∧ f r = true then (match o with
    | none => some r
    | some b => if b.num < r.num then some r else some b) else o
theorem greatest_gS (D : List Rev) (p : ByteArray) (f : Rev → Bool) : greatest D p f = D.foldl (gS p f) none := rfl
theorem gS_far {p : ByteArray} {f : Rev → Bool} {o : Option Rev} {r : Rev} (h : ¬ (r.path = p ∧ f r = true)) : gS p f o r = o := if_neg h
theorem gS_more {p : ByteArray} {f : Rev → Bool} {o : Option Rev} {r : Rev} (h : r.path = p ∧ f r = true) (ho : ∀ b, o = some b → b.num < r.num) : gS p f o r = some r := by
  unfold gS
  rw [if_pos h]
  cases o with
  | none => rfl
  | some b => exact if_pos (ho b rfl)
theorem greatest_log (D : List Rev) (p : ByteArray) (f : Rev → Bool) : greatest D p f = greatest (logOf D p) p f := by
  rw [greatest_gS, greatest_gS]
  unfold logOf
  rw [List.foldl_filter]
  congr 1
  funext o r
  by_cases h : r.path = p
  · simp [h]
  · rw [gS_far (fun e => h e.1)]; simp [h]
theorem at_fold (m : Int) (p : ByteArray) : ∀ (l : List Rev) (o : Option Rev), l.Pairwise (fun a b => a.num < b.num) → (∀ v ∈ l, 0 < v.num ∧ v.path = p) → (∀ b, o = some b → 0 < b.num ∧ ∀ v ∈ l, b.num < v.num) →
    someR (l.foldl (gS p (fun v => decide (v.chg ≤ m))) o) = l.foldl (atM m) (someR o) ∧ (l.foldl (gS p (fun v => decide (v.chg ≤ m))) o).isSome = decide (0 < (l.foldl (atM m) (someR o)).num)
  | [], o, _, _, ho => by
    refine ⟨rfl, ?_⟩
    cases o with
    | none => rfl
    | some b => have := (ho b rfl).1; simp [someR, this]
  | v :: l, o, hs, hn, ho => by
    obtain ⟨h1, h2⟩ := List.pairwise_cons.1 hs
    have hv := hn v (List.mem_cons_self ..)
    have hn2 : ∀ x ∈ l, 0 < x.num ∧ x.path = p := fun x hx => hn x (List.mem_cons_of_mem _ hx)
    rw [List.foldl_cons, List.foldl_cons]
    by_cases hc : v.chg ≤ m
    · have e2 : atM m (someR o) v = someR (some v) := by unfold atM; rw [if_pos hc]; rfl
      rw [gS_more ⟨hv.2, by simpa using hc⟩ (fun b hb => (ho b hb).2 v (List.mem_cons_self ..)), e2]
      exact at_fold m p l (some v) h2 hn2 (fun b hb => by injection hb with hb; subst hb; exact ⟨hv.1, h1⟩)
    · have e2 : atM m (someR o) v = someR o := by unfold atM; rw [if_neg hc]
      rw [gS_far (by simp [hc]), e2]
      exact at_fold m p l o h2 hn2 (fun b hb => ⟨(ho b hb).1, fun x hx => (ho b hb).2 x (List.mem_cons_of_mem _ hx)⟩)
theorem LogOk.rat_eq {D : List Rev} {p : ByteArray} (h : LogOk D p) (m : Int) : someR (greatest D p (fun v => decide (v.chg ≤ m))) = rAt D p m ∧ (greatest D p (fun v => decide (v.chg ≤ m))).isSome = decide (0 < (rAt D p m).num) := by
  rw [greatest_log, greatest_gS]
  refine at_fold m p (logOf D p) none h.sorted (fun v hv => ⟨?_, (mem_log.1 hv).2⟩) (fun b hb => by cases hb)
  obtain ⟨i, hi, e⟩ := List.mem_iff_getElem.1 hv
  have := h.num i hi
  rw [e] at this
  omega
end Go.Proofs.YtmhmnchdhacdbaaGreatDoor
/- Plain: the reference's examination of a record answers as the program's. -/
namespace Go.Proofs.YtmhmnchdhacdbaaGreatDoor
open Go.RowKit
set_option linter.unusedVariables false
set_option linter.unusedSimpArgs false

theorem editsOf_has {es : List Edt} (hn : (es.map (·.path)).Nodup) {e : Edt} (he : e ∈ es) : editsOf es e.path = some e := by
  have hfar : ∀ (l : List Edt) (f : ByteArray → Option Edt) (p : ByteArray), p ∉ l.map (·.path) → l.foldl (fun f e => upd f e.path e) f p = f p := by
    intro l
    induction l with
    | nil => intro f p _; rfl
    | cons x l ih =>
      intro f p hp
      rw [List.map_cons, List.mem_cons, not_or] at hp
      rw [List.foldl_cons, ih _ _ hp.2]
      unfold upd; rw [if_neg hp.1]
  have key : ∀ (l : List Edt) (f : ByteArray → Option Edt), (l.map (·.path)).Nodup → e ∈ l → l.foldl (fun f e => upd f e.path e) f e.path = some e := by
    intro l
    induction l with
    | nil => intro f _ h; cases h
    | cons x l ih =>
      intro f hn he
      rw [List.map_cons, List.nodup_cons] at hn
      rw [List.foldl_cons]
      rcases List.mem_cons.1 he with rfl | he
      · rw [hfar _ _ _ hn.1]; unfold upd; rw [if_pos rfl]
      · exact ih _ hn.2 he
  exact key es _ hn he
/-- The edit into which a record leads, by the reference. -/
def tgtM (x : Rcd) (o : Option Edt) (y : Edt) : Option Edt := if y.path = x.to ∧ y.base + 1 = x.num ∧ y.act ≠ 5 then some y else o
def tgt (es : List Edt) (x : Rcd) : Option Edt := es.foldl (tgtM x) none
theorem tgt_mem {es : List Edt} {x : Rcd} {t : Edt} (h : tgt es x = some t) : t ∈ es ∧ t.path = x.to ∧ t.base + 1 = x.num ∧ t.act ≠ 5 := by
  suffices H : ∀ (l : List Edt) (o : Option Edt) (S : Edt → Prop), (∀ y, o = some y → S y ∧ y.path = x.to ∧ y.base + 1 = x.num ∧ y.act ≠ 5) → (∀ y ∈ l, S y) → l.foldl (tgtM x) o = some t → S t ∧ t.path = x.to ∧ t.base + 1 = x.num ∧ t.act ≠ 5 by
    exact H es none (fun y => y ∈ es) (fun y hy => by cases hy) (fun y hy => hy) h
  intro l
  induction l with
  | nil => intro o S ho _ h; exact ho t h
  | cons z l ih =>
    intro o S ho hl h
    refine ih (tgtM x o z) S (fun y hy => ?_) (fun y hy => hl y (List.mem_cons_of_mem _ hy)) h
    unfold tgtM at hy
    split at hy
    · rename_i hc
      injection hy with hy
      subst hy
      exact ⟨hl _ (List.mem_cons_self ..), hc⟩
    · exact ho y hy
theorem tgt_has {es : List Edt} (hn : (es.map (·.path)).Nodup) {x : Rcd} {t : Edt} (ht : t ∈ es) (h1 : t.path = x.to) (h2 : t.base + 1 = x.num) (h3 : t.act ≠ 5) : tgt es x = some t := by
  have hsome : ∀ (l : List Edt) (o : Option Edt), (o.isSome = true ∨ t ∈ l) → (l.foldl (tgtM x) o).isSome = true := by
    intro l
    induction l with
    | nil => intro o h; rcases h with h | h
             · exact h
             · cases h
    | cons z l ih =>
      intro o h
      rw [List.foldl_cons]
      apply ih
      rcases h with h | h
      · left; unfold tgtM; split
        · rfl
        · exact h
      · rcases List.mem_cons.1 h with rfl | h
        · left; unfold tgtM; rw [if_pos ⟨h1, h2, h3⟩]; rfl
        · exact .inr h
  obtain ⟨u, hu⟩ := Option.isSome_iff_exists.1 (hsome es none (.inr ht))
  have hu' : tgt es x = some u := hu
  obtain ⟨a, b, -⟩ := tgt_mem hu'
  have e1 := editsOf_has hn a
  have e2 := editsOf_has hn ht
  rw [b] at e1
  rw [h1, e1] at e2
  injection e2 with e2
  rw [hu', e2]
def ignB (rs : List Rcd) (x : Rcd) : Bool := rs.all fun y => decide (y.to ≠ x.to ∨ y.num ≠ x.num ∨ y.how = 3)
def atR (D : List Rev) (p : ByteArray) (n : Int) : Rev := (rGet D p n).getD zeroRev
def refLine (D : List Rev) (x : Rcd) : Fil := rFirst D (atR D x.frm x.last)
def refSteps (D : List Rev) (x : Rcd) : Bool := (List.range (x.last - x.first + 1).toNat).all fun (i : Nat) => decide ((atR D x.frm (x.first + i)).act ≠ 5) && decide (rFirst D (atR D x.frm (x.first + i)) = refLine D x)
def refCopy (D : List Rev) (t : Edt) (x : Rcd) : Bool := if x.how = 1 then (decide ((atR D x.frm x.last).act = 3) == decide (t.act = 3)) && (decide ((atR D x.frm x.last).act = 3) || (decide ((atR D x.frm x.last).ty = t.ty) && decide ((atR D x.frm x.last).sum = t.sum) && decide ((atR D x.frm x.last).size = t.size))) else true
def refIgn (D : List Rev) (rs : List Rcd) (t : Edt) (x : Rcd) : Bool := if ignB rs x then decide (t.act = 2) && decide (t.ty = (atR D x.to t.base).ty) && decide (t.sum = (atR D x.to t.base).sum) && decide (t.size = (atR D x.to t.base).size) else true
/-- A record's examination by the reference, its place among the others aside. -/
def refRec (D : List Rev) (c : Chg) (x : Rcd) : Bool :=
  decide (1 ≤ x.how ∧ x.how ≤ 4) && match tgt c.edits x with
    | none => false
    | some t => decide (1 ≤ x.first ∧ x.first ≤ x.last ∧ x.last ≤ (logOf D x.frm).length) && refSteps D x && (decide (t.act = 1) || !decide (rFirst D ((rPrev D (madeR (lastOf D) c.num t)).getD zeroRev) = refLine D x)) && refCopy D t x && refIgn D c.recs t x

theorem LineOk.some_ {D : List Rev} (hL : LineOk D) {f l : Fil} (h : linesOf D f = some l) : ∃ v ∈ D, v.act ≠ 5 ∧ (v.path, v.num) = f ∧ l = rFirst D v := by
  apply Classical.byContradiction
  intro hn
  have := hL.none_ f fun v hv h5 e => hn ⟨v, hv, h5, e, by
    have h2 := hL.live v hv h5
    rw [e, h] at h2
    injection h2⟩
  rw [this] at h
  cases h
theorem DepOk.line_at {d : Dep} (h : DepOk d) {p : ByteArray} {n : Int} {l : Fil} (hl : linesOf d.revs (p, n) = some l) : ∃ v, rGet d.revs p n = some v ∧ v.act ≠ 5 ∧ l = rFirst d.revs v := by
  obtain ⟨v, hv, h5, e, hr⟩ := h.line.some_ hl
  injection e with e1 e2
  subst e1 e2
  exact ⟨v, (h.log _).rget hv rfl, h5, hr⟩
theorem DepOk.at_line {d : Dep} (h : DepOk d) {p : ByteArray} {n : Int} {v : Rev} (hv : rGet d.revs p n = some v) (h5 : v.act ≠ 5) : linesOf d.revs (p, n) = some (rFirst d.revs v) := by
  obtain ⟨a, b, c⟩ := rGet_mem hv
  have := h.line.live v a h5
  rwa [b, c] at this
/-- The line that a revision that an edit makes would be of. -/
theorem target_line {d : Dep} {c : Chg} (h : DepOk d) (hs : ∀ r ∈ d.revs, r.chg < c.num) (h2 : everyE (lastOf d.revs) emptyS c.edits = 0) {e : Edt} (he : e ∈ c.edits) (h5 : e.act ≠ 5) {l : Fil} {v : Rev} (hv : v ∈ d.revs) (hl : l = rFirst d.revs v) :
    (l = lineV (linesOf d.revs) (madeR (lastOf d.revs) c.num e)) ↔ (e.act ≠ 1 ∧ rFirst d.revs ((rPrev d.revs (madeR (lastOf d.revs) c.num e)).getD zeroRev) = l) := by
  rcases made_prev2 h.log hs h2 he with a1 | ⟨u, u1, u2, u3, u4⟩
  · unfold lineV
    rw [if_pos (show (madeR (lastOf d.revs) c.num e).act = 1 from a1)]
    constructor
    · intro hh
      exfalso
      obtain ⟨x, hx, e1⟩ := rFirst_in h.prev hv
      rw [hl, e1] at hh
      injection hh with k1 k2
      have := last_bound h.log hx
      rw [k1] at this
      have k2' : x.num = (lastR (lastOf d.revs) e.path).num + 1 := k2
      have k3 : (lastR (lastOf d.revs) (madeR (lastOf d.revs) c.num e).path).num = (lastR (lastOf d.revs) e.path).num := rfl
      omega
    · rintro ⟨hh, -⟩; exact absurd a1 hh
  · have hu := rPrev_mem u1
    have ha1 : e.act ≠ 1 := by
      intro a1
      unfold rPrev at u1
      rw [if_pos (show (madeR (lastOf d.revs) c.num e).act = 1 from a1)] at u1
      cases u1
    rw [u1]
    have hgu : linesOf d.revs (u.path, u.num) = some (rFirst d.revs u) := h.line.live u hu (fun k => by rw [k] at u3; cases u3)
    have hL : lineV (linesOf d.revs) (madeR (lastOf d.revs) c.num e) = rFirst d.revs u := by
      unfold lineV
      rw [if_neg (show ¬ (madeR (lastOf d.revs) c.num e).act = 1 from ha1)]
      by_cases a4 : e.act = 4
      · rw [if_pos (show (madeR (lastOf d.revs) c.num e).act = 4 from a4)]
        rw [if_pos a4] at u4
        show (linesOf d.revs (e.frm, e.fnum)).getD zeroFil = _
        rw [← u4, hgu]; rfl
      · rw [if_neg (show ¬ (madeR (lastOf d.revs) c.num e).act = 4 from a4)]
        rw [if_neg a4] at u4
        show (linesOf d.revs (e.path, (lastR (lastOf d.revs) e.path).num + 1 - 1)).getD zeroFil = _
        rw [show (lastR (lastOf d.revs) e.path).num + 1 - 1 = (lastR (lastOf d.revs) e.path).num by omega, ← u4, hgu]; rfl
    rw [hL]
    exact ⟨fun hh => ⟨ha1, hh.symm⟩, fun hh => hh.2.symm⟩
theorem DepOk.num_in {d : Dep} (h : DepOk d) {p : ByteArray} {n : Int} {v : Rev} (hv : rGet d.revs p n = some v) : 1 ≤ n ∧ n ≤ (logOf d.revs p).length := ((h.log p).rget_in n).1 ⟨v, hv⟩
/-- What sourceR finds, in the reference's words. -/
theorem source_iff {d : Dep} (h : DepOk d) (r : Rcd) (target : Fil) (v : Rev) : sourceR d.revs r target = some v ↔ (rGet d.revs r.frm r.last = some v ∧ 1 ≤ r.first ∧ r.first ≤ r.last ∧ r.last ≤ (logOf d.revs r.frm).length ∧ refSteps d.revs r = true ∧ refLine d.revs r ≠ target) := by
  have hg := (h.log r.frm).rget_eq r.last
  constructor
  · intro hS
    unfold sourceR at hS
    rw [← hg] at hS
    cases hv : rGet d.revs r.frm r.last with
    | none => rw [hv] at hS; cases hS
    | some u =>
      rw [hv] at hS
      simp only at hS
      split at hS
      · cases hS
      · rename_i hb
        cases hl : linesOf d.revs (r.frm, r.last) with
        | none => rw [hl] at hS; cases hS
        | some line =>
          rw [hl] at hS
          simp only at hS
          split at hS
          · cases hS
          · rename_i hne
            split at hS
            · rename_i hall
              injection hS with hS
              subst hS
              obtain ⟨w, w1, w2, w3⟩ := h.line_at hl
              rw [hv] at w1
              injection w1 with w1
              subst w1
              have hline : refLine d.revs r = line := by unfold refLine atR; rw [hv]; exact w3.symm
              have hin := h.num_in hv
              refine ⟨rfl, by omega, by omega, hin.2, ?_, by rw [hline]; exact hne⟩
              unfold refSteps
              rw [List.all_eq_true]
              intro i hi
              rw [List.mem_range] at hi
              rw [hline]
              by_cases hlast : r.first + (i : Int) = r.last
              · rw [hlast]
                unfold atR
                rw [hv]
                simp [w2, w3]
              · have hlt : i < (r.last - r.first).toNat := by omega
                have hx := List.all_eq_true.1 hall i (List.mem_range.2 hlt)
                have hx' : linesOf d.revs (r.frm, r.first + (i : Int)) = some line := of_decide_eq_true hx
                obtain ⟨y, y1, y2, y3⟩ := h.line_at hx'
                unfold atR
                rw [y1]
                simp [y2, y3]
            · cases hS
  · rintro ⟨hv, h1, h2, h3, h4, h5⟩
    have hstep : ∀ i : Nat, i < (r.last - r.first + 1).toNat → linesOf d.revs (r.frm, r.first + (i : Int)) = some (refLine d.revs r) := by
      intro i hi
      unfold refSteps at h4
      have := List.all_eq_true.1 h4 i (List.mem_range.2 hi)
      rw [Bool.and_eq_true, decide_eq_true_eq, decide_eq_true_eq] at this
      obtain ⟨w, hw⟩ := ((h.log r.frm).rget_in (r.first + (i : Int))).2 ⟨by omega, by omega⟩
      unfold atR at this
      rw [hw] at this
      simp only [Option.getD_some] at this
      rw [← this.2]
      exact h.at_line hw this.1
    have hll := hstep (r.last - r.first).toNat (by omega)
    rw [show r.first + ((r.last - r.first).toNat : Int) = r.last by omega] at hll
    have hlen : (logOf d.revs r.frm).length ≤ d.revs.length := List.length_filter_le ..
    unfold sourceR
    rw [← hg, hv]
    simp only
    rw [if_neg (by omega), hll]
    simp only
    rw [if_neg h5, if_pos]
    rw [List.all_eq_true]
    intro i hi
    rw [List.mem_range] at hi
    exact decide_eq_true (hstep i (by omega))
end Go.Proofs.YtmhmnchdhacdbaaGreatDoor
/- Plain: what HistoryMoves counts; what HistoryWhole finds. -/
namespace Go.Proofs.YtmhmnchdhacdbaaGreatDoor
open Go.RowKit
set_option linter.unusedVariables false
set_option linter.unusedSimpArgs false

def mv1 (v w : Rev) : Bool := decide (w.chg = v.chg) && decide (w.act = 4) && decide (v.act = 5) && decide (w.frm = v.path) && decide (w.fnum = v.num - 1)
def mv2 (v w : Rev) : Bool := decide (w.chg = v.chg) && decide (v.act = 4) && decide (w.act = 5) && decide (v.frm = w.path) && decide (v.fnum = w.num - 1)
theorem mv1_iff (v w : Rev) : mv1 v w = true ↔ w.chg = v.chg ∧ w.act = 4 ∧ v.act = 5 ∧ w.frm = v.path ∧ w.fnum = v.num - 1 := by unfold mv1; simp [and_assoc]
theorem mv2_iff (v w : Rev) : mv2 v w = true ↔ w.chg = v.chg ∧ v.act = 4 ∧ w.act = 5 ∧ v.frm = w.path ∧ v.fnum = w.num - 1 := by unfold mv2; simp [and_assoc]
def mvN (revs : List Rev) (v : Rev) : Nat := revs.countP (mv1 v) + revs.countP (mv2 v)
theorem mvN_app (a b : List Rev) (v : Rev) : mvN (a ++ b) v = mvN a v + mvN b v := by unfold mvN; simp only [List.countP_append]; omega
theorem mvN_far {l : List Rev} {v : Rev} (h : ∀ w ∈ l, w.chg ≠ v.chg) : mvN l v = 0 := by
  unfold mvN
  rw [List.countP_eq_zero.2 (fun w hw e => h w hw ((mv1_iff _ _).1 e).1), List.countP_eq_zero.2 (fun w hw e => h w hw ((mv2_iff _ _).1 e).1)]
theorem countP_path {es : List Edt} (hn : (es.map (·.path)).Nodup) {y : Edt} (hy : y ∈ es) (p : Edt → Bool) (hp : p y = true) : es.countP (fun x => p x && decide (x.path = y.path)) = 1 := by
  induction es with
  | nil => cases hy
  | cons a es ih =>
    rw [List.map_cons, List.nodup_cons] at hn
    rw [List.countP_cons]
    rcases List.mem_cons.1 hy with rfl | hy
    · have : es.countP (fun x => p x && decide (x.path = y.path)) = 0 := by
        rw [List.countP_eq_zero]
        intro x hx hh
        rw [Bool.and_eq_true] at hh
        exact hn.1 (List.mem_map.2 ⟨x, hx, of_decide_eq_true hh.2⟩)
      rw [this]; simp [hp]
    · have hne : a.path ≠ y.path := fun e => hn.1 (List.mem_map.2 ⟨y, hy, e.symm⟩)
      rw [ih hn.2 hy]; simp [hne]
theorem movesE_zero {es : List Edt} (h : movesE es = 0) : ∀ e ∈ es, moveOk es (editsOf es) e = true := by
  unfold movesE at h
  split at h
  · rename_i h1; exact fun e he => List.all_eq_true.1 h1 e he
  · cases h
theorem mv_new {d : Dep} {c : Chg} (h : appE d c = 0) {e : Edt} (he : e ∈ c.edits) :
    mvN (c.edits.map (madeR (lastOf d.revs) c.num)) (madeR (lastOf d.revs) c.num e) = if e.act = 4 ∨ e.act = 5 then 1 else 0 := by
  obtain ⟨h1, h2, h3, -, -⟩ := appE_zero h
  obtain ⟨p1, p2⟩ := everyE_paths h2
  have hm := movesE_zero h3 e he
  have hfr : ∀ x ∈ c.edits, x.act = 4 → x.fnum = (lastR (lastOf d.revs) x.frm).num := by
    intro x hx ha
    have := (oneE_zero (p2 x hx).2.2).2.2.1
    unfold fromE at this
    rw [if_pos ha] at this
    simp at this
    exact this.2
  unfold mvN
  rw [List.countP_map, List.countP_map]
  by_cases h5 : e.act = 5
  · have e1 : c.edits.countP (mv1 (madeR (lastOf d.revs) c.num e) ∘ madeR (lastOf d.revs) c.num) = arrivals c.edits e.path := by
      unfold arrivals
      refine List.countP_congr fun x hx => ?_
      rw [Function.comp_apply, mv1_iff, Bool.and_eq_true, decide_eq_true_eq, decide_eq_true_eq]
      constructor
      · rintro ⟨-, a, -, b, -⟩; exact ⟨a, b⟩
      · rintro ⟨a, b⟩
        refine ⟨rfl, a, h5, b, ?_⟩
        show x.fnum = (lastR (lastOf d.revs) e.path).num + 1 - 1
        rw [hfr x hx a, b]; omega
    have e2 : c.edits.countP (mv2 (madeR (lastOf d.revs) c.num e) ∘ madeR (lastOf d.revs) c.num) = 0 := by
      refine List.countP_eq_zero.2 fun x hx hh => ?_
      have h4 : e.act = 4 := ((mv2_iff _ _).1 hh).2.1
      omega
    rw [e1, e2]
    unfold moveOk at hm
    rw [if_pos h5] at hm
    simp at hm
    rw [hm, if_pos (.inr h5)]
  · have e1 : c.edits.countP (mv1 (madeR (lastOf d.revs) c.num e) ∘ madeR (lastOf d.revs) c.num) = 0 := by
      refine List.countP_eq_zero.2 fun x hx hh => ?_
      have h4 : e.act = 5 := ((mv1_iff _ _).1 hh).2.2.1
      omega
    by_cases h4 : e.act = 4
    · unfold moveOk at hm
      rw [if_neg h5, if_pos h4] at hm
      simp at hm
      cases hy : editsOf c.edits e.frm with
      | none => rw [hy] at hm; simp [zeroEdt] at hm
      | some y =>
        rw [hy] at hm
        simp at hm
        obtain ⟨y1, y2⟩ := editsOf_mem _ _ _ hy
        have e2 : c.edits.countP (mv2 (madeR (lastOf d.revs) c.num e) ∘ madeR (lastOf d.revs) c.num) = c.edits.countP (fun x => decide (x.act = 5) && decide (x.path = y.path)) := by
          refine List.countP_congr fun x hx => ?_
          rw [Function.comp_apply, mv2_iff, Bool.and_eq_true, decide_eq_true_eq, decide_eq_true_eq]
          constructor
          · rintro ⟨-, -, a, b, -⟩; exact ⟨a, y2 ▸ b.symm⟩
          · rintro ⟨a, b⟩
            refine ⟨rfl, h4, a, ?_, ?_⟩
            · show e.frm = x.path
              rw [b, y2]
            · show e.fnum = (lastR (lastOf d.revs) x.path).num + 1 - 1
              rw [hfr e he h4, b, y2]; omega
        rw [e1, e2, countP_path (paths_nodup p1) y1 (fun x => decide (x.act = 5)) (by simpa using hm), if_pos (.inl h4)]
    · have e2 : c.edits.countP (mv2 (madeR (lastOf d.revs) c.num e) ∘ madeR (lastOf d.revs) c.num) = 0 := by
        refine List.countP_eq_zero.2 fun x hx hh => ?_
        have : e.act = 4 := ((mv2_iff _ _).1 hh).2.1
        omega
      rw [e1, e2, if_neg (by omega)]
theorem mv_step {d : Dep} {c : Chg} (h : appE d c = 0) (hd : ∀ v ∈ d.revs, mvN d.revs v = if v.act = 4 ∨ v.act = 5 then 1 else 0) : ∀ v ∈ newRevs d c, mvN (newRevs d c) v = if v.act = 4 ∨ v.act = 5 then 1 else 0 := by
  have hs := (sizeE_zero (appE_zero h).1).2.2.2.2.2
  intro v hv
  unfold newRevs at hv ⊢
  rw [mvN_app]
  rcases List.mem_append.1 hv with hv | hv
  · rw [hd v hv, mvN_far (fun w hw => ?_)]
    · omega
    · obtain ⟨x, hx, rfl⟩ := List.mem_map.1 hw
      have := hs v hv
      simp only [madeR]; omega
  · obtain ⟨e, he, rfl⟩ := List.mem_map.1 hv
    rw [mv_new h he, mvN_far (fun w hw => ?_)]
    · rw [Nat.zero_add]; rfl
    · have := hs w hw
      simp only [madeR]; omega
theorem plays_moves {l : List Chg} {d : Dep} (h : Plays l d) : ∀ v ∈ d.revs, mvN d.revs v = if v.act = 4 ∨ v.act = 5 then 1 else 0 := by
  induction h with
  | nil => intro v hv; cases hv
  | skip _ _ ih => exact ih
  | step _ h0 _ _ ih => exact mv_step h0 ih

theorem lastM_at (f : ByteArray → Option Rev) (r : Rev) (q : ByteArray) : lastM f r q = if r.path = q then (match f q with
    | none => some r
    | some b => if b.num < r.num then some r else some b) else f q := by
  by_cases h : r.path = q
  · subst h
    rw [if_pos rfl]
    unfold lastM
    cases hf : f r.path with
    | none => simp [upd]
    | some b => by_cases hb : b.num < r.num <;> simp [hb, upd, hf]
  · rw [if_neg h]; exact lastM_other f r (fun e => h e.symm)
theorem greatest_lastOf {revs : List Rev} (q : ByteArray) (p : Rev → Bool) (hp : ∀ r ∈ revs, p r = true) : greatest revs q p = lastOf revs q := by
  suffices H : ∀ (l : List Rev) (o : Option Rev) (f : ByteArray → Option Rev), (∀ r ∈ l, p r = true) → o = f q → l.foldl (fun o r => if r.path = q ∧ p r = true then (match o with
    | none => some r
    | some b => if b.num < r.num then some r else some b) else o) o = l.foldl lastM f q by
    exact H revs none (fun _ => none) hp rfl
  intro l
  induction l with
  | nil => intro o f _ h; exact h
  | cons x l ih =>
    intro o f hp h
    rw [List.foldl_cons, List.foldl_cons]
    refine ih _ _ (fun r hr => hp r (List.mem_cons_of_mem _ hr)) ?_
    rw [lastM_at, hp x (List.mem_cons_self ..), h]
    by_cases hx : x.path = q
    · simp [hx]
    · simp [hx]
theorem greatest_app {a b : List Rev} (q : ByteArray) (p : Rev → Bool) (hb : ∀ r ∈ b, p r = false) : greatest (a ++ b) q p = greatest a q p := by
  unfold greatest
  rw [List.foldl_append]
  generalize a.foldl _ none = o
  induction b generalizing o with
  | nil => rfl
  | cons x b ih =>
    rw [List.foldl_cons, if_neg (by rw [hb x (List.mem_cons_self ..)]; simp)]
    exact ih (fun r hr => hb r (List.mem_cons_of_mem _ hr)) o
theorem whole_at {d : Dep} {c : Chg} (h : appE d c = 0) {e : Edt} (he : e ∈ c.edits) : greatest (newRevs d c) e.path (fun v : Rev => decide (v.chg ≤ c.num)) = some (madeR (lastOf d.revs) c.num e) ∧ (lastR (lastOf d.revs) e.path).num = e.base := by
  obtain ⟨h1, h2, -, -, -⟩ := appE_zero h
  obtain ⟨p1, p2⟩ := everyE_paths h2
  have hs := (sizeE_zero h1).2.2.2.2.2
  refine ⟨?_, (oneE_zero (p2 e he).2.2).2.1.symm⟩
  rw [greatest_lastOf _ _ (fun r hr => ?_)]
  · unfold newRevs
    rw [lastOf_app]
    exact lasts_made _ _ _ (paths_nodup p1) e he
  · unfold newRevs at hr
    rcases List.mem_append.1 hr with hr | hr
    · have := hs r hr; simp; omega
    · obtain ⟨x, -, rfl⟩ := List.mem_map.1 hr
      simp [madeR]
theorem whole_old {d : Dep} {c : Chg} (q : ByteArray) {m : Int} (hm : m < c.num) : greatest (newRevs d c) q (fun v : Rev => decide (v.chg ≤ m)) = greatest d.revs q (fun v : Rev => decide (v.chg ≤ m)) := by
  unfold newRevs
  refine greatest_app _ _ fun r hr => ?_
  obtain ⟨x, -, rfl⟩ := List.mem_map.1 hr
  exact decide_eq_false (show ¬ c.num ≤ m by omega)
end Go.Proofs.YtmhmnchdhacdbaaGreatDoor
/- Plain: of all records of a change the reference says what the program says. -/
namespace Go.Proofs.YtmhmnchdhacdbaaGreatDoor
open Go.RowKit
set_option linter.unusedVariables false
set_option linter.unusedSimpArgs false

/-- A record that the program's examination passes: its edit and its source. -/
theorem isRec_iff {d : Dep} {c : Chg} (h : DepOk d) (hs : ∀ r ∈ d.revs, r.chg < c.num) (h2 : everyE (lastOf d.revs) emptyS c.edits = 0) (x : Rcd) :
    isRec d.revs c.num (editsOf c.edits) x = true ↔ ∃ t, tgt c.edits x = some t ∧ 1 ≤ x.how ∧ x.how ≤ 4 ∧ (1 ≤ x.first ∧ x.first ≤ x.last ∧ x.last ≤ (logOf d.revs x.frm).length) ∧ refSteps d.revs x = true ∧ ¬ (t.act ≠ 1 ∧ rFirst d.revs ((rPrev d.revs (madeR (lastOf d.revs) c.num t)).getD zeroRev) = refLine d.revs x) ∧ refCopy d.revs t x = true := by
  obtain ⟨p1, p2⟩ := everyE_paths h2
  have hn := paths_nodup p1
  have hcopy : ∀ (t : Edt) (v : Rev), rGet d.revs x.frm x.last = some v → v.act ≠ 5 → ((if x.how = 1 then (if v.act = 3 then decide (t.act = 3) else (!decide (t.act = 3)) && decide (t.ty = v.ty) && decide (t.sum = v.sum) && decide (t.size = v.size)) else true) = true ↔ refCopy d.revs t x = true) := by
    intro t v hv h5
    have ha : atR d.revs x.frm x.last = v := by unfold atR; rw [hv]; rfl
    unfold refCopy
    rw [ha]
    by_cases h1 : x.how = 1
    · rw [if_pos h1, if_pos h1]
      by_cases h3 : v.act = 3
      · rw [if_pos h3]
        by_cases t3 : t.act = 3 <;> simp [h3, t3]
      · rw [if_neg h3]
        by_cases t3 : t.act = 3
        · simp [h3, t3]
        · simp only [h3, t3, decide_false, Bool.not_false, Bool.true_and, BEq.rfl, Bool.false_or, Bool.and_eq_true, decide_eq_true_eq]
          constructor
          · rintro ⟨⟨a, b⟩, c⟩; exact ⟨⟨a.symm, b.symm⟩, c.symm⟩
          · rintro ⟨⟨a, b⟩, c⟩; exact ⟨⟨a.symm, b.symm⟩, c.symm⟩
    · rw [if_neg h1, if_neg h1]
  have hsrc : ∀ (t : Edt), t ∈ c.edits → t.act ≠ 5 → ∀ v, (sourceR d.revs x (lineV (linesOf d.revs) (madeR (lastOf d.revs) c.num t)) = some v ↔ (rGet d.revs x.frm x.last = some v ∧ (1 ≤ x.first ∧ x.first ≤ x.last ∧ x.last ≤ (logOf d.revs x.frm).length) ∧ refSteps d.revs x = true ∧ ¬ (t.act ≠ 1 ∧ rFirst d.revs ((rPrev d.revs (madeR (lastOf d.revs) c.num t)).getD zeroRev) = refLine d.revs x))) := by
    intro t ht h5 v
    rw [source_iff h]
    constructor
    · rintro ⟨a, b1, b2, b3, b4, b5⟩
      refine ⟨a, ⟨b1, b2, b3⟩, b4, fun hh => b5 ?_⟩
      have hv := (rGet_mem a).1
      have hl : refLine d.revs x = rFirst d.revs v := by unfold refLine atR; rw [a]; rfl
      exact (target_line h hs h2 ht h5 hv hl).2 hh
    · rintro ⟨a, ⟨b1, b2, b3⟩, b4, b5⟩
      refine ⟨a, b1, b2, b3, b4, fun hh => b5 ?_⟩
      have hv := (rGet_mem a).1
      have hl : refLine d.revs x = rFirst d.revs v := by unfold refLine atR; rw [a]; rfl
      exact (target_line h hs h2 ht h5 hv hl).1 hh
  have hact : ∀ v, rGet d.revs x.frm x.last = some v → refSteps d.revs x = true → (1 ≤ x.first ∧ x.first ≤ x.last) → v.act ≠ 5 := by
    intro v hv hst hb
    unfold refSteps at hst
    have := List.all_eq_true.1 hst (x.last - x.first).toNat (List.mem_range.2 (by omega))
    rw [show x.first + ((x.last - x.first).toNat : Int) = x.last by omega, Bool.and_eq_true, decide_eq_true_eq] at this
    have h1 := this.1
    unfold atR at h1
    rw [hv] at h1
    exact h1
  constructor
  · intro hi
    unfold isRec at hi
    cases he : editsOf c.edits x.to with
    | none => rw [he] at hi; cases hi
    | some t =>
      rw [he] at hi
      simp only at hi
      obtain ⟨k1, k2⟩ := editsOf_mem _ _ _ he
      split at hi
      · cases hi
      · rename_i hb
        have h5 : t.act ≠ 5 := by omega
        cases hS : sourceR d.revs x (lineV (linesOf d.revs) (madeR (lastOf d.revs) c.num t)) with
        | none => rw [hS] at hi; cases hi
        | some v =>
          rw [hS] at hi
          simp only at hi
          obtain ⟨a, b, e, f⟩ := (hsrc t k1 h5 v).1 hS
          exact ⟨t, tgt_has hn k1 k2 (by omega) h5, by omega, by omega, b, e, f, (hcopy t v a (hact v a e ⟨b.1, b.2.1⟩)).1 hi⟩
  · rintro ⟨t, ht, w1, w2, b, e, f, g⟩
    obtain ⟨k1, k2, k3, k4⟩ := tgt_mem ht
    have he := editsOf_has hn k1
    rw [k2] at he
    obtain ⟨v, hv⟩ := ((h.log x.frm).rget_in x.last).2 ⟨by omega, b.2.2⟩
    have hS := (hsrc t k1 k4 v).2 ⟨hv, b, e, f⟩
    unfold isRec
    rw [he]
    simp only
    rw [if_neg (by omega), hS]
    exact (hcopy t v hv (hact v hv e ⟨b.1, b.2.1⟩)).2 g
/-- An edit that leaves its file as it is. -/
theorem unchanged_iff {d : Dep} {c : Chg} (h : DepOk d) (h2 : everyE (lastOf d.revs) emptyS c.edits = 0) {t : Edt} (ht : t ∈ c.edits) : unchanged (lastOf d.revs) t = true ↔ (decide (t.act = 2) && decide (t.ty = (atR d.revs t.path t.base).ty) && decide (t.sum = (atR d.revs t.path t.base).sum) && decide (t.size = (atR d.revs t.path t.base).size)) = true := by
  obtain ⟨o1, o2, -, -⟩ := oneE_zero ((everyE_paths h2).2 t ht).2.2
  by_cases a2 : t.act = 2
  · have hadd := actE_zero o1
    have hna : addA t.act = false := by rw [a2]; rfl
    rw [hna] at hadd
    have hlv : isLast (lastOf d.revs) t.path = true := by simpa using hadd.symm
    unfold isLast at hlv
    cases hx : lastOf d.revs t.path with
    | none => rw [hx] at hlv; cases hlv
    | some u =>
      obtain ⟨b1, b2, b3⟩ := last_in (h.log _) hx
      have hR : lastR (lastOf d.revs) t.path = u := by unfold lastR; rw [hx]; rfl
      have hA : atR d.revs t.path t.base = u := by
        unfold atR; rw [o2, hR, b3]; rfl
      unfold unchanged
      rw [hR, hA]
  · unfold unchanged
    simp [a2]
theorem refRec_split {D : List Rev} {c : Chg} {x : Rcd} : refRec D c x = true ↔ ∃ t, tgt c.edits x = some t ∧ 1 ≤ x.how ∧ x.how ≤ 4 ∧ (1 ≤ x.first ∧ x.first ≤ x.last ∧ x.last ≤ (logOf D x.frm).length) ∧ refSteps D x = true ∧ ¬ (t.act ≠ 1 ∧ rFirst D ((rPrev D (madeR (lastOf D) c.num t)).getD zeroRev) = refLine D x) ∧ refCopy D t x = true ∧ refIgn D c.recs t x = true := by
  unfold refRec
  cases tgt c.edits x with
  | none => simp
  | some t =>
    simp only [Bool.and_eq_true, decide_eq_true_eq, Bool.or_eq_true, Bool.not_eq_true', decide_eq_false_iff_not, Option.some.injEq]
    constructor
    · rintro ⟨⟨a, b⟩, ⟨⟨⟨c1, c2⟩, c3⟩, c4⟩, c5⟩
      exact ⟨t, rfl, a, b, c1, c2, fun hh => by rcases c3 with c3 | c3; exact hh.1 c3; exact c3 hh.2, c4, c5⟩
    · rintro ⟨t', rfl, a, b, c1, c2, c3, c4, c5⟩
      refine ⟨⟨a, b⟩, ⟨⟨⟨c1, c2⟩, ?_⟩, c4⟩, c5⟩
      by_cases h1 : t.act = 1
      · exact .inl h1
      · exact .inr fun hh => c3 ⟨h1, hh⟩
/-- A record that the reference passes is passed by the program. -/
theorem recOk_of_ref {d : Dep} {c : Chg} (h : DepOk d) (hs : ∀ r ∈ d.revs, r.chg < c.num) (h2 : everyE (lastOf d.revs) emptyS c.edits = 0) {x : Rcd} (hr : refRec d.revs c x = true) : recOk d.revs c (editsOf c.edits) x = true := by
  obtain ⟨t, a, b1, b2, b3, b4, b5, b6, b7⟩ := refRec_split.1 hr
  obtain ⟨k1, k2, k3, k4⟩ := tgt_mem a
  have hn := paths_nodup (everyE_paths h2).1
  unfold recOk
  rw [Bool.and_eq_true, Bool.or_eq_true]
  refine ⟨(isRec_iff h hs h2 x).2 ⟨t, a, b1, b2, b3, b4, b5, b6⟩, ?_⟩
  unfold refIgn at b7
  cases hi : ignB c.recs x with
  | true =>
    rw [hi, if_pos rfl] at b7
    right
    have he := editsOf_has hn k1
    rw [k2] at he
    rw [he]
    refine (unchanged_iff h h2 k1).2 ?_
    rw [k2]; exact b7
  | false =>
    left
    unfold ignB at hi
    rw [List.all_eq_false] at hi
    obtain ⟨y, hy, hh⟩ := hi
    unfold worked
    rw [List.any_eq_true]
    refine ⟨y, hy, ?_⟩
    simp only [decide_eq_true_eq, not_or, Decidable.not_not] at hh
    rw [Bool.and_eq_true, decide_eq_true_eq, decide_eq_true_eq]
    exact ⟨hh.2.2, hh.1⟩
/-- Where the program passes all records the reference passes each. -/
theorem ref_of_recOk {d : Dep} {c : Chg} (h : DepOk d) (hs : ∀ r ∈ d.revs, r.chg < c.num) (h2 : everyE (lastOf d.revs) emptyS c.edits = 0) (hall : ∀ y ∈ c.recs, recOk d.revs c (editsOf c.edits) y = true) {x : Rcd} (hx : x ∈ c.recs) : refRec d.revs c x = true := by
  have hn := paths_nodup (everyE_paths h2).1
  have hget : ∀ y ∈ c.recs, ∃ t, tgt c.edits y = some t ∧ 1 ≤ y.how ∧ y.how ≤ 4 ∧ (1 ≤ y.first ∧ y.first ≤ y.last ∧ y.last ≤ (logOf d.revs y.frm).length) ∧ refSteps d.revs y = true ∧ ¬ (t.act ≠ 1 ∧ rFirst d.revs ((rPrev d.revs (madeR (lastOf d.revs) c.num t)).getD zeroRev) = refLine d.revs y) ∧ refCopy d.revs t y = true := by
    intro y hy
    have := hall y hy
    unfold recOk at this
    rw [Bool.and_eq_true] at this
    exact (isRec_iff h hs h2 y).1 this.1
  obtain ⟨t, a, b1, b2, b3, b4, b5, b6⟩ := hget x hx
  obtain ⟨k1, k2, k3, k4⟩ := tgt_mem a
  refine refRec_split.2 ⟨t, a, b1, b2, b3, b4, b5, b6, ?_⟩
  unfold refIgn
  cases hi : ignB c.recs x with
  | false => rw [if_neg (by decide)]
  | true =>
    rw [if_pos rfl]
    have h1 := hall x hx
    unfold recOk at h1
    rw [Bool.and_eq_true, Bool.or_eq_true] at h1
    rcases h1.2 with hw | hu
    · exfalso
      unfold worked at hw
      rw [List.any_eq_true] at hw
      obtain ⟨y, hy, hh⟩ := hw
      rw [Bool.and_eq_true, decide_eq_true_eq, decide_eq_true_eq] at hh
      obtain ⟨t2, e1, -⟩ := hget y hy
      obtain ⟨q1, q2, q3, -⟩ := tgt_mem e1
      have e2 := editsOf_has hn q1
      have e3 := editsOf_has hn k1
      rw [q2, hh.2] at e2
      rw [k2, e2] at e3
      injection e3 with e3
      subst e3
      unfold ignB at hi
      have := List.all_eq_true.1 hi y hy
      simp only [decide_eq_true_eq] at this
      rcases this with g | g | g
      · exact g hh.2
      · omega
      · exact hh.1 g
    · have he := editsOf_has hn k1
      rw [k2] at he
      rw [he] at hu
      have := (unchanged_iff h h2 k1).1 hu
      rw [k2] at this
      exact this
/-- The reference's counting of moves. -/
def movedN (es : List Edt) (x : Edt) : Nat := es.countP fun y => (decide (x.act = 5) && decide (y.act = 4) && decide (y.frm = x.path)) || (decide (x.act = 4) && decide (y.act = 5) && decide (y.path = x.frm))
def movedB (es : List Edt) (x : Edt) : Bool := decide (movedN es x = 1) || (decide (x.act ≠ 5) && decide (x.act ≠ 4))
theorem moved_iff {es : List Edt} (hn : (es.map (·.path)).Nodup) {x : Edt} (hx : x ∈ es) : movedB es x = moveOk es (editsOf es) x := by
  unfold movedB moveOk movedN
  by_cases h5 : x.act = 5
  · rw [if_pos h5]
    have : (es.countP fun y => (decide (x.act = 5) && decide (y.act = 4) && decide (y.frm = x.path)) || (decide (x.act = 4) && decide (y.act = 5) && decide (y.path = x.frm))) = arrivals es x.path := by
      unfold arrivals
      refine List.countP_congr fun y hy => ?_
      simp [h5]
    rw [this]
    simp [h5]
  · rw [if_neg h5]
    by_cases h4 : x.act = 4
    · rw [if_pos h4]
      have hc : (es.countP fun y => (decide (x.act = 5) && decide (y.act = 4) && decide (y.frm = x.path)) || (decide (x.act = 4) && decide (y.act = 5) && decide (y.path = x.frm))) = es.countP fun y => decide (y.act = 5) && decide (y.path = x.frm) := by
        refine List.countP_congr fun y hy => ?_
        simp [h4]
      rw [hc]
      cases he : editsOf es x.frm with
      | none =>
        have h0 : (es.countP fun y => decide (y.act = 5) && decide (y.path = x.frm)) = 0 := by
          rw [List.countP_eq_zero]
          intro y hy hh
          rw [Bool.and_eq_true, decide_eq_true_eq, decide_eq_true_eq] at hh
          have := editsOf_has hn hy
          rw [hh.2, he] at this
          cases this
        rw [h0]
        simp [h4, zeroEdt]
      | some z =>
        obtain ⟨z1, z2⟩ := editsOf_mem _ _ _ he
        simp only [Option.getD_some]
        by_cases z5 : z.act = 5
        · have := countP_path hn z1 (fun y => decide (y.act = 5)) (by simpa using z5)
          rw [z2] at this
          rw [this]
          simp [z5]
        · have h0 : (es.countP fun y => decide (y.act = 5) && decide (y.path = x.frm)) = 0 := by
            rw [List.countP_eq_zero]
            intro y hy hh
            rw [Bool.and_eq_true, decide_eq_true_eq, decide_eq_true_eq] at hh
            have e2 := editsOf_has hn hy
            rw [hh.2, he] at e2
            injection e2 with e2
            rw [e2] at z5
            exact z5 hh.1
          rw [h0]
          simp [h4, z5]
    · rw [if_neg h4]
      simp [h5, h4]
end Go.Proofs.YtmhmnchdhacdbaaGreatDoor
/- The reference's Log, Last, Get, Gone, Live, Previous, First: the walks. -/
namespace Go.Proofs.YtmhmnchdhacdbaaGreatDoor
open Go.RowKit
set_option linter.unusedVariables false
set_option linter.unusedSimpArgs false

theorem log_take (revs : List Rev) (p : ByteArray) (k : Nat) (h : k < revs.length) : logOf (revs.take (k + 1)) p = logOf (revs.take k) p ++ (if revs[k].path = p then [revs[k]] else []) := by
  rw [List.take_succ_eq_append_getElem h, log_app]
  congr 1
  unfold logOf
  rw [List.filter_cons]
  by_cases e : revs[k].path = p
  · simp [e]
  · simp [e]
theorem log_len (revs : List Rev) (p : ByteArray) : (logOf revs p).length ≤ revs.length := List.length_filter_le ..
theorem rev_oneC (x : Rev) : ∀ v ∈ x.cells, v.oneCell' = true := by
  intro v hv
  simp only [Rev.cells, List.mem_cons, List.not_mem_nil, or_false] at hv
  rcases hv with rfl | rfl | rfl | rfl | rfl | rfl | rfl | rfl | rfl | rfl | rfl | rfl <;> rfl
/-- What the reference's Log leaves. -/
def RLogPost (w : World) (revs : List Rev) (p : ByteArray) (e : Ending) (w' : World) : Prop := ∃ A c, e = .returned (.slice A (logOf revs p).length c) ∧ Below w.heap.size w w' ∧ Revs w' (.slice A (logOf revs p).length c) (logOf revs p)
set_option maxRecDepth 100000 in
set_option maxHeartbeats 4000000 in
theorem refLog_any (revs : List Rev) (p : ByteArray) (dv dr : Value) (w : World) (hR : Revs w dv revs) (hl : revs.length ≤ 1000000) :
    Calls Tryz.prog 17 #[.agg #[dv, dr], .string p] w (RLogPost w revs p) := by
  obtain ⟨Ar, cr, rfl, hcr, hmr, -⟩ := id hR
  have HR := Lib.hid hR
  clear hR
  unfold maxLen at hmr
  go_enter Tryz.func17, Tryz.ntmps17
  have hB := blk_new w [.slice Ar revs.length cr, dr] 28
  have hA : Below w.heap.size w (w.alloc (.cells #[.slice Ar revs.length cr, dr] 28)) := (Below.refl _ _).alloc (Nat.le_refl _) _
  go_upto_region 2 with fail
  generalize w.alloc (.cells #[.slice Ar revs.length cr, dr] 28) = W1 at hB hA ⊢
  obtain ⟨d0, -, -, -⟩ := box2 hB
  have HA := Lib.hid hA
  clear hA hB
  go_wp2_with fail
  clear d0
  go_loopw [5, 11] (fun u s wr => ∃ (k n : Nat) (A : Option Addr) (c : Nat), s = .int .i64 k ∧ u = .slice A n c ∧ k ≤ revs.length ∧ n ≤ k ∧ Hid (n = (logOf (revs.take k) p).length ∧ Below W1.heap.size W1 wr ∧ wr.ownsRow W1.heap.size 36 12 (.slice A n c) n ((logOf (revs.take k) p).flatMap Rev.cells))) (fun _ s _ => revs.length - (intOf s).toNat)
  case atStart => exact ⟨0, 0, none, 0, rfl, rfl, Nat.zero_le _, Nat.le_refl _, rfl, Below.refl _ _, World.ownsRow_nil _ _ _ _⟩
  case round =>
    obtain ⟨k, n, A, c, rfl, rfl, hk, hnk, HI⟩ := hrel
    by_cases hlt : k < revs.length
    · obtain ⟨ad, rfl, hab, hld⟩ := Revs.at_ (HR.out.below (below_next HA.out HI.out.2.1)) hlt
      have HT := Lib.hid (log_take revs p k hlt)
      generalize revs[k] = r at hld HT
      obtain ⟨x0, x1, x2, x3, x4, x5, x6, x7, x8, x9, x10, x11⟩ := hld
      have hX := blk_new wr [.string r.path, .int .i64 r.num, .int .i64 r.chg, .int .i64 r.act, .int .i64 r.ty.base, .bool r.ty.k, .bool r.ty.l, .bool r.ty.x, .int .u64 r.sum, .int .i64 r.size, .string r.frm, .int .i64 r.fnum] 36
      have hA1 : Below wr.heap.size wr (wr.alloc (.cells #[.string r.path, .int .i64 r.num, .int .i64 r.chg, .int .i64 r.act, .int .i64 r.ty.base, .bool r.ty.k, .bool r.ty.l, .bool r.ty.x, .int .u64 r.sum, .int .i64 r.size, .string r.frm, .int .i64 r.fnum] 36)) := (Below.refl _ _).alloc (Nat.le_refl _) _
      go_upto_region 5 with fail
      clear x0 x1 x2 x3 x4 x5 x6 x7 x8 x9 x10 x11
      generalize wr.alloc (.cells #[.string r.path, .int .i64 r.num, .int .i64 r.chg, .int .i64 r.act, .int .i64 r.ty.base, .bool r.ty.k, .bool r.ty.l, .bool r.ty.x, .int .u64 r.sum, .int .i64 r.size, .string r.frm, .int .i64 r.fnum] 36) = V1 at hX hA1 ⊢
      obtain ⟨y0, y1, y2, y3, y4, y5, y6, y7, y8, y9, y10, y11⟩ := box12 hX
      by_cases hp : r.path = p
      · have q := str_eqB r.path p
        rw [decide_eq_true hp] at q
        rw [if_pos hp] at HT
        have HN : Hid (n = (logOf (revs.take k) p).length ∧ Below W1.heap.size W1 V1 ∧ V1.ownsRow W1.heap.size 36 12 (.slice A n c) n ((logOf (revs.take k) p).flatMap Rev.cells)) := Lib.hid ⟨HI.out.1, below_next HI.out.2.1 hA1, own_below HI.out.2.2 hA1⟩
        clear hX hA1 hp
        go_wp2_with (at_builtin; refine wpList_push rfl rfl revElem ((own_below HN.out.2.2 ((Below.refl _ _).alloc (Nat.le_refl _) _))) rfl (row_new V1 [.string r.path, .int .i64 r.num, .int .i64 r.chg, .int .i64 r.act, .int .i64 r.ty.base, .bool r.ty.k, .bool r.ty.l, .bool r.ty.x, .int .u64 r.sum, .int .i64 r.size, .string r.frm, .int .i64 r.fnum] _ 12 1 rfl (by decide) _ rfl) rfl (HN.out.2.1.alloc HN.out.2.1.size _) (HN.out.2.1.alloc HN.out.2.1.size _).size (rev_oneC r) (by omega) (by unfold maxLen; omega) ?_; intro A' c' w2 hown2 hbl2)
        have HO2 := Lib.hid hown2
        have HB2 := Lib.hid hbl2
        clear y0 y1 y2 y3 y4 y5 y6 y7 y8 y9 y10 y11 hown2 hbl2
        go_wp2_with fail
        go_roundw
        case rel =>
          refine ⟨k + 1, n + 1, A', c', by go_num, rfl, by omega, by omega, ?_, HB2.out, ?_⟩
          · rw [HT.out, List.length_append, List.length_singleton, ← HN.out.1]
          · rw [HT.out, List.flatMap_append, List.flatMap_cons, List.flatMap_nil, List.append_nil]
            exact HO2.out
        case measure => simp [intOf]; omega
      · have q := str_eqB r.path p
        rw [decide_eq_false hp] at q
        rw [if_neg hp, List.append_nil] at HT
        have HN : Hid (n = (logOf (revs.take (k + 1)) p).length ∧ Below W1.heap.size W1 V1 ∧ V1.ownsRow W1.heap.size 36 12 (.slice A n c) n ((logOf (revs.take (k + 1)) p).flatMap Rev.cells)) := Lib.hid (by rw [HT.out]; exact ⟨HI.out.1, below_next HI.out.2.1 hA1, own_below HI.out.2.2 hA1⟩)
        clear hX hA1 hp HT
        go_wp2_with fail
        go_roundw
        case rel => exact ⟨k + 1, n, A, c, by go_num, rfl, by omega, by omega, HN.out⟩
        case measure => simp [intOf]; omega
    · have hke : k = revs.length := by omega
      have HF : Hid (n = (logOf revs p).length ∧ Below W1.heap.size W1 wr ∧ wr.ownsRow W1.heap.size 36 12 (.slice A n c) n ((logOf revs p).flatMap Rev.cells)) := Lib.hid (by
        have := HI.out
        rwa [hke, List.take_length] at this)
      clear HI hke
      go_wp2_with fail
      go_ret
      obtain ⟨hn, h1, h2⟩ := HF.out
      subst hn
      exact ⟨A, c, rfl, below_next HA.out h1, Row.of_own h2⟩

/-- What a function leaves that returns a revision, or none. -/
def RevPost (w : World) (o : Option Rev) (e : Ending) (w' : World) : Prop := e = .returned (.tuple #[.agg #[.string (someR o).path, .int .i64 (someR o).num, .int .i64 (someR o).chg, .int .i64 (someR o).act, .int .i64 (someR o).ty.base, .bool (someR o).ty.k, .bool (someR o).ty.l, .bool (someR o).ty.x, .int .u64 (someR o).sum, .int .i64 (someR o).size, .string (someR o).frm, .int .i64 (someR o).fnum], .bool o.isSome]) ∧ Below w.heap.size w w'
set_option maxRecDepth 100000 in
set_option maxHeartbeats 4000000 in
theorem refLast_any (revs : List Rev) (p : ByteArray) (dv dr : Value) (w : World) (hR : Revs w dv revs) (hl : revs.length ≤ 1000000) :
    Calls Tryz.prog 10 #[.agg #[dv, dr], .string p] w (RevPost w (rLast revs p)) := by
  obtain ⟨Ar, cr, rfl, -⟩ := id hR
  have HR := Lib.hid hR
  clear hR
  have HLN := Lib.hid (log_len revs p)
  go_enter Tryz.func10, Tryz.ntmps10
  have hb0 : Below w.heap.size w ((w.alloc (.cells #[.slice Ar revs.length cr, dr] 28)).alloc (.cells #[.string ⟨#[]⟩, .int .i64 0, .int .i64 0, .int .i64 0, .int .i64 0, .bool false, .bool false, .bool false, .int .u64 0, .int .i64 0, .string ⟨#[]⟩, .int .i64 0] 36)) := ((Below.refl _ _).alloc (Nat.le_refl _) _).alloc (by simp) _
  have hZ : Blk ((w.alloc (.cells #[.slice Ar revs.length cr, dr] 28)).alloc (.cells #[.string ⟨#[]⟩, .int .i64 0, .int .i64 0, .int .i64 0, .int .i64 0, .bool false, .bool false, .bool false, .int .u64 0, .int .i64 0, .string ⟨#[]⟩, .int .i64 0] 36)) (w.heap.size + 1) 36 [.string ⟨#[]⟩, .int .i64 0, .int .i64 0, .int .i64 0, .int .i64 0, .bool false, .bool false, .bool false, .int .u64 0, .int .i64 0, .string ⟨#[]⟩, .int .i64 0] := by
    have h1 := blk_new (w.alloc (.cells #[.slice Ar revs.length cr, dr] 28)) [.string ⟨#[]⟩, .int .i64 0, .int .i64 0, .int .i64 0, .int .i64 0, .bool false, .bool false, .bool false, .int .u64 0, .int .i64 0, .string ⟨#[]⟩, .int .i64 0] 36
    simp only [World.size_alloc] at h1
    exact h1
  have hB : Blk ((w.alloc (.cells #[.slice Ar revs.length cr, dr] 28)).alloc (.cells #[.string ⟨#[]⟩, .int .i64 0, .int .i64 0, .int .i64 0, .int .i64 0, .bool false, .bool false, .bool false, .int .u64 0, .int .i64 0, .string ⟨#[]⟩, .int .i64 0] 36)) w.heap.size 28 [.slice Ar revs.length cr, dr] := (blk_new w _ _).alloc _
  go_upto_region 1 with fail
  generalize (w.alloc (.cells #[.slice Ar revs.length cr, dr] 28)).alloc (.cells #[.string ⟨#[]⟩, .int .i64 0, .int .i64 0, .int .i64 0, .int .i64 0, .bool false, .bool false, .bool false, .int .u64 0, .int .i64 0, .string ⟨#[]⟩, .int .i64 0] 36) = W1 at hb0 hZ hB ⊢
  obtain ⟨d0, d1, -, -⟩ := box2 hB
  have HL := Lib.hid (refLog_any revs p (.slice Ar revs.length cr) dr W1 (HR.out.below hb0) hl)
  have Hb0 := Lib.hid hb0
  have HZ := Lib.hid hZ
  clear hb0 hZ hB
  go_wp2_with fail
  refine HL.out.mono ?_
  rintro e w2 ⟨A, c, rfl, hb2, hL⟩
  clear d0 d1
  have HB2 := Lib.hid hb2
  have HLL := Lib.hid hL
  have hZ2 := HZ.out.below hb2 HZ.out.lt
  obtain ⟨z0, z1, z2, z3, z4, z5, z6, z7, z8, z9, z10, z11⟩ := box12 hZ2
  obtain ⟨y0, y1, y2, y3, y4, y5, y6, y7, y8, y9, y10, y11⟩ := frz12 hZ2
  clear hb2 hL HL
  have HRL : Hid (rLast revs p = (logOf revs p).getLast?) := Lib.hid rfl
  have hll : (logOf revs p).length ≤ revs.length := HLN.out
  generalize logOf revs p = L at HLL hll HRL ⊢
  by_cases h0 : L.length = 0
  · have HN : Hid (rLast revs p = none) := Lib.hid (by rw [HRL.out, List.length_eq_zero_iff.1 h0]; rfl)
    have q : ((L.length : Int) == 0) = true := by rw [beq_iff_eq]; omega
    clear h0
    go_wp2_with fail
    have hZ9 : Blk ((((((((((((w2.setCell ⟨w.heap.size + 1, 0, none⟩ (.string ⟨#[]⟩)).setCell ⟨w.heap.size + 1, 1, none⟩ (.int .i64 0)).setCell ⟨w.heap.size + 1, 2, none⟩ (.int .i64 0)).setCell ⟨w.heap.size + 1, 3, none⟩ (.int .i64 0)).setCell ⟨w.heap.size + 1, 4, none⟩ (.int .i64 0)).setCell ⟨w.heap.size + 1, 5, none⟩ (.bool false)).setCell ⟨w.heap.size + 1, 6, none⟩ (.bool false)).setCell ⟨w.heap.size + 1, 7, none⟩ (.bool false)).setCell ⟨w.heap.size + 1, 8, none⟩ (.int .u64 0)).setCell ⟨w.heap.size + 1, 9, none⟩ (.int .i64 0)).setCell ⟨w.heap.size + 1, 10, none⟩ (.string ⟨#[]⟩)).setCell ⟨w.heap.size + 1, 11, none⟩ (.int .i64 0)) (w.heap.size + 1) 36 [.string ⟨#[]⟩, .int .i64 0, .int .i64 0, .int .i64 0, .int .i64 0, .bool false, .bool false, .bool false, .int .u64 0, .int .i64 0, .string ⟨#[]⟩, .int .i64 0] := set12 hZ2 zeroRev
    have hB9 : Below w.heap.size w ((((((((((((w2.setCell ⟨w.heap.size + 1, 0, none⟩ (.string ⟨#[]⟩)).setCell ⟨w.heap.size + 1, 1, none⟩ (.int .i64 0)).setCell ⟨w.heap.size + 1, 2, none⟩ (.int .i64 0)).setCell ⟨w.heap.size + 1, 3, none⟩ (.int .i64 0)).setCell ⟨w.heap.size + 1, 4, none⟩ (.int .i64 0)).setCell ⟨w.heap.size + 1, 5, none⟩ (.bool false)).setCell ⟨w.heap.size + 1, 6, none⟩ (.bool false)).setCell ⟨w.heap.size + 1, 7, none⟩ (.bool false)).setCell ⟨w.heap.size + 1, 8, none⟩ (.int .u64 0)).setCell ⟨w.heap.size + 1, 9, none⟩ (.int .i64 0)).setCell ⟨w.heap.size + 1, 10, none⟩ (.string ⟨#[]⟩)).setCell ⟨w.heap.size + 1, 11, none⟩ (.int .i64 0)) := below12 (below_next Hb0.out HB2.out) (show w.heap.size ≤ w.heap.size + 1 by omega) zeroRev
    generalize ((((((((((((w2.setCell ⟨w.heap.size + 1, 0, none⟩ (.string ⟨#[]⟩)).setCell ⟨w.heap.size + 1, 1, none⟩ (.int .i64 0)).setCell ⟨w.heap.size + 1, 2, none⟩ (.int .i64 0)).setCell ⟨w.heap.size + 1, 3, none⟩ (.int .i64 0)).setCell ⟨w.heap.size + 1, 4, none⟩ (.int .i64 0)).setCell ⟨w.heap.size + 1, 5, none⟩ (.bool false)).setCell ⟨w.heap.size + 1, 6, none⟩ (.bool false)).setCell ⟨w.heap.size + 1, 7, none⟩ (.bool false)).setCell ⟨w.heap.size + 1, 8, none⟩ (.int .u64 0)).setCell ⟨w.heap.size + 1, 9, none⟩ (.int .i64 0)).setCell ⟨w.heap.size + 1, 10, none⟩ (.string ⟨#[]⟩)).setCell ⟨w.heap.size + 1, 11, none⟩ (.int .i64 0)) = W9 at hZ9 hB9 ⊢
    obtain ⟨e0, e1, e2, e3, e4, e5, e6, e7, e8, e9, e10, e11⟩ := box12 hZ9
    exact bodyPost_ret (v := .tuple #[.agg #[.string ⟨#[]⟩, .int .i64 0, .int .i64 0, .int .i64 0, .int .i64 0, .bool false, .bool false, .bool false, .int .u64 0, .int .i64 0, .string ⟨#[]⟩, .int .i64 0], .bool false]) (by simp [results, Tryz.results10, go_sem, e0, e1, e2, e3, e4, e5, e6, e7, e8, e9, e10, e11]) rfl ⟨by rw [HN.out]; rfl, hB9⟩
  · have hk : L.length - 1 < L.length := by omega
    obtain ⟨ad, rfl, hab, hld⟩ := Revs.at_ HLL.out hk
    have HN : Hid (rLast revs p = some L[L.length - 1]) := Lib.hid (by rw [HRL.out, List.getLast?_eq_getElem?, List.getElem?_eq_getElem hk])
    have q : ((L.length : Int) == 0) = false := by rw [beq_eq_false_iff_ne]; omega
    obtain ⟨j, hj⟩ : ∃ j : Nat, j = L.length - 1 := ⟨_, rfl⟩
    have hjz : (L.length : Int) - 1 = (j : Int) := by omega
    have hjl : (j : Int) < (L.length : Int) := by omega
    have hj0 : 0 ≤ (j : Int) := by omega
    generalize L[L.length - 1] = r at hld HN
    rw [← hj] at hld
    obtain ⟨x0, x1, x2, x3, x4, x5, x6, x7, x8, x9, x10, x11⟩ := hld
    clear h0 hk hj
    go_wp2_with fail
    have hZ9 := set12 hZ2 r
    have hB9 := below12 (below_next Hb0.out HB2.out) (show w.heap.size ≤ w.heap.size + 1 by omega) r
    generalize ((((((((((((w2.setCell ⟨w.heap.size + 1, 0, none⟩ (.string r.path)).setCell ⟨w.heap.size + 1, 1, none⟩ (.int .i64 r.num)).setCell ⟨w.heap.size + 1, 2, none⟩ (.int .i64 r.chg)).setCell ⟨w.heap.size + 1, 3, none⟩ (.int .i64 r.act)).setCell ⟨w.heap.size + 1, 4, none⟩ (.int .i64 r.ty.base)).setCell ⟨w.heap.size + 1, 5, none⟩ (.bool r.ty.k)).setCell ⟨w.heap.size + 1, 6, none⟩ (.bool r.ty.l)).setCell ⟨w.heap.size + 1, 7, none⟩ (.bool r.ty.x)).setCell ⟨w.heap.size + 1, 8, none⟩ (.int .u64 r.sum)).setCell ⟨w.heap.size + 1, 9, none⟩ (.int .i64 r.size)).setCell ⟨w.heap.size + 1, 10, none⟩ (.string r.frm)).setCell ⟨w.heap.size + 1, 11, none⟩ (.int .i64 r.fnum)) = W9 at hZ9 hB9 ⊢
    obtain ⟨e0, e1, e2, e3, e4, e5, e6, e7, e8, e9, e10, e11⟩ := box12 hZ9
    exact bodyPost_ret (v := .tuple #[.agg #[.string r.path, .int .i64 r.num, .int .i64 r.chg, .int .i64 r.act, .int .i64 r.ty.base, .bool r.ty.k, .bool r.ty.l, .bool r.ty.x, .int .u64 r.sum, .int .i64 r.size, .string r.frm, .int .i64 r.fnum], .bool true]) (by simp [results, Tryz.results10, go_sem, e0, e1, e2, e3, e4, e5, e6, e7, e8, e9, e10, e11]) rfl ⟨by rw [HN.out]; rfl, hB9⟩
theorem find_take {α : Type} (l : List α) (f : α → Bool) (k : Nat) (h : k < l.length) (hn : (l.take k).find? f = none) : (f l[k] = true → l.find? f = some l[k]) ∧ (f l[k] = false → (l.take (k + 1)).find? f = none) := by
  have hl : l = l.take k ++ l[k] :: l.drop (k + 1) := by rw [List.getElem_cons_drop, List.take_append_drop]
  refine ⟨fun hf => ?_, fun hf => ?_⟩
  · conv => lhs; rw [hl]
    rw [List.find?_append, hn, List.find?_cons_of_pos hf]; rfl
  · rw [List.take_succ_eq_append_getElem h, List.find?_append, hn, List.find?_cons_of_neg (by rw [hf]; simp)]; rfl
set_option maxRecDepth 100000 in
set_option maxHeartbeats 4000000 in
theorem refGet_any (revs : List Rev) (p : ByteArray) (m : Int) (dv dr : Value) (w : World) (hR : Revs w dv revs) (hl : revs.length ≤ 1000000) :
    Calls Tryz.prog 12 #[.agg #[dv, dr], .string p, .int .i64 m] w (RevPost w (rGet revs p m)) := by
  obtain ⟨Ar, cr, rfl, -⟩ := id hR
  have HR := Lib.hid hR
  clear hR
  have HLN := Lib.hid (log_len revs p)
  go_enter Tryz.func12, Tryz.ntmps12
  have hb0 : Below w.heap.size w ((w.alloc (.cells #[.slice Ar revs.length cr, dr] 28)).alloc (.cells #[.string ⟨#[]⟩, .int .i64 0, .int .i64 0, .int .i64 0, .int .i64 0, .bool false, .bool false, .bool false, .int .u64 0, .int .i64 0, .string ⟨#[]⟩, .int .i64 0] 36)) := ((Below.refl _ _).alloc (Nat.le_refl _) _).alloc (by simp) _
  have hZ : Blk ((w.alloc (.cells #[.slice Ar revs.length cr, dr] 28)).alloc (.cells #[.string ⟨#[]⟩, .int .i64 0, .int .i64 0, .int .i64 0, .int .i64 0, .bool false, .bool false, .bool false, .int .u64 0, .int .i64 0, .string ⟨#[]⟩, .int .i64 0] 36)) (w.heap.size + 1) 36 [.string ⟨#[]⟩, .int .i64 0, .int .i64 0, .int .i64 0, .int .i64 0, .bool false, .bool false, .bool false, .int .u64 0, .int .i64 0, .string ⟨#[]⟩, .int .i64 0] := by
    have h1 := blk_new (w.alloc (.cells #[.slice Ar revs.length cr, dr] 28)) [.string ⟨#[]⟩, .int .i64 0, .int .i64 0, .int .i64 0, .int .i64 0, .bool false, .bool false, .bool false, .int .u64 0, .int .i64 0, .string ⟨#[]⟩, .int .i64 0] 36
    simp only [World.size_alloc] at h1
    exact h1
  have hB : Blk ((w.alloc (.cells #[.slice Ar revs.length cr, dr] 28)).alloc (.cells #[.string ⟨#[]⟩, .int .i64 0, .int .i64 0, .int .i64 0, .int .i64 0, .bool false, .bool false, .bool false, .int .u64 0, .int .i64 0, .string ⟨#[]⟩, .int .i64 0] 36)) w.heap.size 28 [.slice Ar revs.length cr, dr] := (blk_new w _ _).alloc _
  go_upto_region 1 with fail
  generalize (w.alloc (.cells #[.slice Ar revs.length cr, dr] 28)).alloc (.cells #[.string ⟨#[]⟩, .int .i64 0, .int .i64 0, .int .i64 0, .int .i64 0, .bool false, .bool false, .bool false, .int .u64 0, .int .i64 0, .string ⟨#[]⟩, .int .i64 0] 36) = W1 at hb0 hZ hB ⊢
  obtain ⟨d0, d1, -, -⟩ := box2 hB
  have HL := Lib.hid (refLog_any revs p (.slice Ar revs.length cr) dr W1 (HR.out.below hb0) hl)
  have Hb0 := Lib.hid hb0
  have HZ := Lib.hid hZ
  clear hb0 hZ hB
  go_wp2_with fail
  refine HL.out.mono ?_
  rintro e w2 ⟨A, c, rfl, hb2, hL⟩
  clear d0 d1
  have HB2 := Lib.hid hb2
  have HLL := Lib.hid hL
  have HZ2 := Lib.hid (HZ.out.below hb2 HZ.out.lt)
  obtain ⟨A', c', e, hcc, hmm, -⟩ := id hL
  injection e with e1 e2 e3
  subst e1 e3
  unfold maxLen at hmm
  clear hb2 hL HL e2
  have HRG : Hid (rGet revs p m = (logOf revs p).find? (fun v => decide (v.num = m))) := Lib.hid rfl
  have hll : (logOf revs p).length ≤ revs.length := HLN.out
  generalize logOf revs p = L at HLL hll hcc HRG ⊢
  go_wp2_with fail
  go_loopw [14] (fun s wr => ∃ k : Nat, s = .int .i64 k ∧ k ≤ L.length ∧ Hid ((L.take k).find? (fun v => decide (v.num = m)) = none ∧ Below w2.heap.size w2 wr)) (fun s _ => L.length - (intOf s).toNat)
  case atStart => exact ⟨0, rfl, Nat.zero_le _, by rw [List.take_zero]; rfl, Below.refl _ _⟩
  case round =>
    obtain ⟨k, rfl, hk, HI⟩ := hrel
    by_cases hlt : k < L.length
    · obtain ⟨ad, rfl, hab, hld⟩ := Revs.at_ (HLL.out.below HI.out.2) hlt
      have HFT := Lib.hid (find_take L (fun v => decide (v.num = m)) k hlt HI.out.1)
      generalize L[k] = r at hld HFT
      obtain ⟨x0, x1, x2, x3, x4, x5, x6, x7, x8, x9, x10, x11⟩ := hld
      have hX := blk_new wr [.string r.path, .int .i64 r.num, .int .i64 r.chg, .int .i64 r.act, .int .i64 r.ty.base, .bool r.ty.k, .bool r.ty.l, .bool r.ty.x, .int .u64 r.sum, .int .i64 r.size, .string r.frm, .int .i64 r.fnum] 36
      have hA1 := HI.out.2.alloc HI.out.2.size (.cells #[.string r.path, .int .i64 r.num, .int .i64 r.chg, .int .i64 r.act, .int .i64 r.ty.base, .bool r.ty.k, .bool r.ty.l, .bool r.ty.x, .int .u64 r.sum, .int .i64 r.size, .string r.frm, .int .i64 r.fnum] 36)
      go_upto_region 4 with fail
      clear x0 x1 x2 x3 x4 x5 x6 x7 x8 x9 x10 x11
      generalize wr.alloc (.cells #[.string r.path, .int .i64 r.num, .int .i64 r.chg, .int .i64 r.act, .int .i64 r.ty.base, .bool r.ty.k, .bool r.ty.l, .bool r.ty.x, .int .u64 r.sum, .int .i64 r.size, .string r.frm, .int .i64 r.fnum] 36) = V1 at hX hA1 ⊢
      obtain ⟨x0, x1, x2, x3, x4, x5, x6, x7, x8, x9, x10, x11⟩ := box12 hX
      have HA1 := Lib.hid hA1
      clear hX hA1
      by_cases hn : r.num = m
      · have q : (r.num == m) = true := by simpa using hn
        have HF := Lib.hid (HFT.out.1 (by simpa using hn))
        have hZ3 := HZ2.out.below HA1.out HZ2.out.lt
        obtain ⟨z0, z1, z2, z3, z4, z5, z6, z7, z8, z9, z10, z11⟩ := box12 hZ3
        obtain ⟨y0, y1, y2, y3, y4, y5, y6, y7, y8, y9, y10, y11⟩ := frz12 hZ3
        clear hn
        go_wp2_with fail
        have hZ9 := set12 hZ3 r
        have hB9 := below12 (below_next Hb0.out (below_next HB2.out HA1.out)) (show w.heap.size ≤ w.heap.size + 1 by omega) r
        generalize ((((((((((((V1.setCell ⟨w.heap.size + 1, 0, none⟩ (.string r.path)).setCell ⟨w.heap.size + 1, 1, none⟩ (.int .i64 r.num)).setCell ⟨w.heap.size + 1, 2, none⟩ (.int .i64 r.chg)).setCell ⟨w.heap.size + 1, 3, none⟩ (.int .i64 r.act)).setCell ⟨w.heap.size + 1, 4, none⟩ (.int .i64 r.ty.base)).setCell ⟨w.heap.size + 1, 5, none⟩ (.bool r.ty.k)).setCell ⟨w.heap.size + 1, 6, none⟩ (.bool r.ty.l)).setCell ⟨w.heap.size + 1, 7, none⟩ (.bool r.ty.x)).setCell ⟨w.heap.size + 1, 8, none⟩ (.int .u64 r.sum)).setCell ⟨w.heap.size + 1, 9, none⟩ (.int .i64 r.size)).setCell ⟨w.heap.size + 1, 10, none⟩ (.string r.frm)).setCell ⟨w.heap.size + 1, 11, none⟩ (.int .i64 r.fnum)) = W9 at hZ9 hB9 ⊢
        obtain ⟨e0, e1, e2, e3, e4, e5, e6, e7, e8, e9, e10, e11⟩ := box12 hZ9
        exact bodyPost_ret (v := .tuple #[.agg #[.string r.path, .int .i64 r.num, .int .i64 r.chg, .int .i64 r.act, .int .i64 r.ty.base, .bool r.ty.k, .bool r.ty.l, .bool r.ty.x, .int .u64 r.sum, .int .i64 r.size, .string r.frm, .int .i64 r.fnum], .bool true]) (by simp [results, Tryz.results12, go_sem, e0, e1, e2, e3, e4, e5, e6, e7, e8, e9, e10, e11]) rfl ⟨by rw [HRG.out, HF.out]; rfl, hB9⟩
      · have q : (r.num == m) = false := by simpa using hn
        have HF := Lib.hid (HFT.out.2 (by simpa using hn))
        clear hn
        go_wp2_with fail
        go_roundw
        case rel => exact ⟨k + 1, by go_num, by omega, HF.out, HA1.out⟩
        case measure => simp [intOf]; omega
    · have hke : k = L.length := by omega
      have HF : Hid (L.find? (fun v => decide (v.num = m)) = none) := Lib.hid (by have := HI.out.1; rwa [hke, List.take_length] at this)
      have hZ3 := HZ2.out.below HI.out.2 HZ2.out.lt
      obtain ⟨z0, z1, z2, z3, z4, z5, z6, z7, z8, z9, z10, z11⟩ := box12 hZ3
      obtain ⟨y0, y1, y2, y3, y4, y5, y6, y7, y8, y9, y10, y11⟩ := frz12 hZ3
      clear hke
      go_wp2_with fail
      have hZ9 : Blk ((((((((((((wr.setCell ⟨w.heap.size + 1, 0, none⟩ (.string ⟨#[]⟩)).setCell ⟨w.heap.size + 1, 1, none⟩ (.int .i64 0)).setCell ⟨w.heap.size + 1, 2, none⟩ (.int .i64 0)).setCell ⟨w.heap.size + 1, 3, none⟩ (.int .i64 0)).setCell ⟨w.heap.size + 1, 4, none⟩ (.int .i64 0)).setCell ⟨w.heap.size + 1, 5, none⟩ (.bool false)).setCell ⟨w.heap.size + 1, 6, none⟩ (.bool false)).setCell ⟨w.heap.size + 1, 7, none⟩ (.bool false)).setCell ⟨w.heap.size + 1, 8, none⟩ (.int .u64 0)).setCell ⟨w.heap.size + 1, 9, none⟩ (.int .i64 0)).setCell ⟨w.heap.size + 1, 10, none⟩ (.string ⟨#[]⟩)).setCell ⟨w.heap.size + 1, 11, none⟩ (.int .i64 0)) (w.heap.size + 1) 36 [.string ⟨#[]⟩, .int .i64 0, .int .i64 0, .int .i64 0, .int .i64 0, .bool false, .bool false, .bool false, .int .u64 0, .int .i64 0, .string ⟨#[]⟩, .int .i64 0] := set12 hZ3 zeroRev
      have hB9 : Below w.heap.size w ((((((((((((wr.setCell ⟨w.heap.size + 1, 0, none⟩ (.string ⟨#[]⟩)).setCell ⟨w.heap.size + 1, 1, none⟩ (.int .i64 0)).setCell ⟨w.heap.size + 1, 2, none⟩ (.int .i64 0)).setCell ⟨w.heap.size + 1, 3, none⟩ (.int .i64 0)).setCell ⟨w.heap.size + 1, 4, none⟩ (.int .i64 0)).setCell ⟨w.heap.size + 1, 5, none⟩ (.bool false)).setCell ⟨w.heap.size + 1, 6, none⟩ (.bool false)).setCell ⟨w.heap.size + 1, 7, none⟩ (.bool false)).setCell ⟨w.heap.size + 1, 8, none⟩ (.int .u64 0)).setCell ⟨w.heap.size + 1, 9, none⟩ (.int .i64 0)).setCell ⟨w.heap.size + 1, 10, none⟩ (.string ⟨#[]⟩)).setCell ⟨w.heap.size + 1, 11, none⟩ (.int .i64 0)) := below12 (below_next Hb0.out (below_next HB2.out HI.out.2)) (show w.heap.size ≤ w.heap.size + 1 by omega) zeroRev
      generalize ((((((((((((wr.setCell ⟨w.heap.size + 1, 0, none⟩ (.string ⟨#[]⟩)).setCell ⟨w.heap.size + 1, 1, none⟩ (.int .i64 0)).setCell ⟨w.heap.size + 1, 2, none⟩ (.int .i64 0)).setCell ⟨w.heap.size + 1, 3, none⟩ (.int .i64 0)).setCell ⟨w.heap.size + 1, 4, none⟩ (.int .i64 0)).setCell ⟨w.heap.size + 1, 5, none⟩ (.bool false)).setCell ⟨w.heap.size + 1, 6, none⟩ (.bool false)).setCell ⟨w.heap.size + 1, 7, none⟩ (.bool false)).setCell ⟨w.heap.size + 1, 8, none⟩ (.int .u64 0)).setCell ⟨w.heap.size + 1, 9, none⟩ (.int .i64 0)).setCell ⟨w.heap.size + 1, 10, none⟩ (.string ⟨#[]⟩)).setCell ⟨w.heap.size + 1, 11, none⟩ (.int .i64 0)) = W9 at hZ9 hB9 ⊢
      obtain ⟨e0, e1, e2, e3, e4, e5, e6, e7, e8, e9, e10, e11⟩ := box12 hZ9
      exact bodyPost_ret (v := .tuple #[.agg #[.string ⟨#[]⟩, .int .i64 0, .int .i64 0, .int .i64 0, .int .i64 0, .bool false, .bool false, .bool false, .int .u64 0, .int .i64 0, .string ⟨#[]⟩, .int .i64 0], .bool false]) (by simp [results, Tryz.results12, go_sem, e0, e1, e2, e3, e4, e5, e6, e7, e8, e9, e10, e11]) rfl ⟨by rw [HRG.out, HF.out]; rfl, hB9⟩
end Go.Proofs.YtmhmnchdhacdbaaGreatDoor
/- history.editOf; region 24 of history.Valid. -/
namespace Go.Proofs.YtmhmnchdhacdbaaGreatDoor
open Go.RowKit
set_option linter.unusedVariables false
set_option linter.unusedSimpArgs false

/-- The edit that made a revision. -/
def edtOf (r : Rev) : Edt := ⟨r.path, r.act, r.ty, r.sum, r.size, r.num - 1, r.frm, r.fnum, 0⟩
theorem set12E {w : World} {g : Nat} {e : TypeId} {a0 a1 a2 a3 a4 a5 a6 a7 a8 a9 a10 a11 : Value} (h : Blk w g e [a0, a1, a2, a3, a4, a5, a6, a7, a8, a9, a10, a11]) (x : Edt) : Blk ((((((((((((w.setCell ⟨g, 0, none⟩ (.string x.path)).setCell ⟨g, 1, none⟩ (.int .i64 x.act)).setCell ⟨g, 2, none⟩ (.int .i64 x.ty.base)).setCell ⟨g, 3, none⟩ (.bool x.ty.k)).setCell ⟨g, 4, none⟩ (.bool x.ty.l)).setCell ⟨g, 5, none⟩ (.bool x.ty.x)).setCell ⟨g, 6, none⟩ (.int .u64 x.sum)).setCell ⟨g, 7, none⟩ (.int .i64 x.size)).setCell ⟨g, 8, none⟩ (.int .i64 x.base)).setCell ⟨g, 9, none⟩ (.string x.frm)).setCell ⟨g, 10, none⟩ (.int .i64 x.fnum)).setCell ⟨g, 11, none⟩ (.int .i64 x.fence)) g e [.string x.path, .int .i64 x.act, .int .i64 x.ty.base, .bool x.ty.k, .bool x.ty.l, .bool x.ty.x, .int .u64 x.sum, .int .i64 x.size, .int .i64 x.base, .string x.frm, .int .i64 x.fnum, .int .i64 x.fence] := ((((((((((((h.set_ 0 _).set_ 1 _).set_ 2 _).set_ 3 _).set_ 4 _).set_ 5 _).set_ 6 _).set_ 7 _).set_ 8 _).set_ 9 _).set_ 10 _).set_ 11 _)
theorem below12E {w0 w : World} {B g : Nat} (h : Below B w0 w) (hg : B ≤ g) (x : Edt) : Below B w0 ((((((((((((w.setCell ⟨g, 0, none⟩ (.string x.path)).setCell ⟨g, 1, none⟩ (.int .i64 x.act)).setCell ⟨g, 2, none⟩ (.int .i64 x.ty.base)).setCell ⟨g, 3, none⟩ (.bool x.ty.k)).setCell ⟨g, 4, none⟩ (.bool x.ty.l)).setCell ⟨g, 5, none⟩ (.bool x.ty.x)).setCell ⟨g, 6, none⟩ (.int .u64 x.sum)).setCell ⟨g, 7, none⟩ (.int .i64 x.size)).setCell ⟨g, 8, none⟩ (.int .i64 x.base)).setCell ⟨g, 9, none⟩ (.string x.frm)).setCell ⟨g, 10, none⟩ (.int .i64 x.fnum)).setCell ⟨g, 11, none⟩ (.int .i64 x.fence)) := ((((((((((((h.setCell (p := ⟨g, 0, none⟩) hg _).setCell (p := ⟨g, 1, none⟩) hg _).setCell (p := ⟨g, 2, none⟩) hg _).setCell (p := ⟨g, 3, none⟩) hg _).setCell (p := ⟨g, 4, none⟩) hg _).setCell (p := ⟨g, 5, none⟩) hg _).setCell (p := ⟨g, 6, none⟩) hg _).setCell (p := ⟨g, 7, none⟩) hg _).setCell (p := ⟨g, 8, none⟩) hg _).setCell (p := ⟨g, 9, none⟩) hg _).setCell (p := ⟨g, 10, none⟩) hg _).setCell (p := ⟨g, 11, none⟩) hg _)
set_option maxRecDepth 100000 in
set_option maxHeartbeats 4000000 in
theorem editOf_any (revs : List Rev) (k : Nat) (dv dr : Value) (w : World) (hR : Revs w dv revs) (hk : k < revs.length) (x : Rev) (hx : revs[k] = x) (hn : 0 < x.num ∧ x.num ≤ 1000000) :
    Calls Tryz.prog 54 #[.agg #[dv, dr], .int .i64 k] w fun e w' => e = .returned (.agg #[.string (edtOf x).path, .int .i64 (edtOf x).act, .int .i64 (edtOf x).ty.base, .bool (edtOf x).ty.k, .bool (edtOf x).ty.l, .bool (edtOf x).ty.x, .int .u64 (edtOf x).sum, .int .i64 (edtOf x).size, .int .i64 (edtOf x).base, .string (edtOf x).frm, .int .i64 (edtOf x).fnum, .int .i64 (edtOf x).fence]) ∧ Below w.heap.size w w' := by
  obtain ⟨Ar, cr, rfl, hcr, hmr, -⟩ := id hR
  unfold maxLen at hmr
  obtain ⟨W, hW⟩ : ∃ W, W = (w.alloc (.cells #[.slice Ar revs.length cr, dr] 28)).alloc (.cells #[.string ⟨#[]⟩, .int .i64 0, .int .i64 0, .bool false, .bool false, .bool false, .int .u64 0, .int .i64 0, .int .i64 0, .string ⟨#[]⟩, .int .i64 0, .int .i64 0] 58) := ⟨_, rfl⟩
  have hbW : Below w.heap.size w W := by rw [hW]; exact ((Below.refl _ _).alloc (Nat.le_refl _) _).alloc (by simp) _
  have hsz : W.heap.size = w.heap.size + 1 + 1 := by rw [hW]; simp
  have hD : Blk W w.heap.size 28 [.slice Ar revs.length cr, dr] := by rw [hW]; exact (blk_new w _ _).alloc _
  have hF : Blk W (w.heap.size + 1) 58 [.string ⟨#[]⟩, .int .i64 0, .int .i64 0, .bool false, .bool false, .bool false, .int .u64 0, .int .i64 0, .int .i64 0, .string ⟨#[]⟩, .int .i64 0, .int .i64 0] := by rw [hW]; exact blk_at (by simp)
  obtain ⟨ad, rfl, hab, hld⟩ := Revs.at_ (hR.below hbW) hk
  have hkz : (k : Int) < (revs.length : Int) := by omega
  rw [hx] at hld
  clear hx
  obtain ⟨x0, x1, x2, x3, x4, x5, x6, x7, x8, x9, x10, x11⟩ := hld
  have HW := Lib.hid hW
  clear hW hR
  obtain ⟨d0, -, -, -⟩ := box2 hD
  have hwr : IntKind.i64.wrap (x.num - 1) = x.num - 1 := IntWalk.i64_in _ (by omega)
  go_enter Tryz.func54, Tryz.ntmps54
  go_upto_region 1 with fail
  rw [← HW.out]
  have hX1 := blk_new W [.string x.path, .int .i64 x.num, .int .i64 x.chg, .int .i64 x.act, .int .i64 x.ty.base, .bool x.ty.k, .bool x.ty.l, .bool x.ty.x, .int .u64 x.sum, .int .i64 x.size, .string x.frm, .int .i64 x.fnum] 36
  have hA1 := hbW.alloc hbW.size (.cells #[.string x.path, .int .i64 x.num, .int .i64 x.chg, .int .i64 x.act, .int .i64 x.ty.base, .bool x.ty.k, .bool x.ty.l, .bool x.ty.x, .int .u64 x.sum, .int .i64 x.size, .string x.frm, .int .i64 x.fnum] 36)
  have hF1 := hF.alloc (.cells #[.string x.path, .int .i64 x.num, .int .i64 x.chg, .int .i64 x.act, .int .i64 x.ty.base, .bool x.ty.k, .bool x.ty.l, .bool x.ty.x, .int .u64 x.sum, .int .i64 x.size, .string x.frm, .int .i64 x.fnum] 36)
  go_upto_region 2 with fail
  clear x0 x1 x2 x3 x4 x5 x6 x7 x8 x9 x10 x11 d0
  generalize W.alloc (.cells #[.string x.path, .int .i64 x.num, .int .i64 x.chg, .int .i64 x.act, .int .i64 x.ty.base, .bool x.ty.k, .bool x.ty.l, .bool x.ty.x, .int .u64 x.sum, .int .i64 x.size, .string x.frm, .int .i64 x.fnum] 36) = W1 at hX1 hA1 hF1 ⊢
  rw [hsz] at hX1
  obtain ⟨c0, c1, c2, c3, c4, c5, c6, c7, c8, c9, c10, c11⟩ := box12 hX1
  obtain ⟨z0, z1, z2, z3, z4, z5, z6, z7, z8, z9, z10, z11⟩ := box12 hF1
  obtain ⟨y0, y1, y2, y3, y4, y5, y6, y7, y8, y9, y10, y11⟩ := frz12 hF1
  have HF1 := Lib.hid hF1
  have HA1 := Lib.hid hA1
  clear hF1 hA1 hX1 hD hF hbW
  go_wp2_with fail
  have hZ3 := set12E HF1.out (edtOf x)
  have hB3 := below12E HA1.out (show w.heap.size ≤ w.heap.size + 1 by omega) (edtOf x)
  clear c0 c1 c2 c3 c4 c5 c6 c7 c8 c9 c10 c11 z0 z1 z2 z3 z4 z5 z6 z7 z8 z9 z10 z11 y0 y1 y2 y3 y4 y5 y6 y7 y8 y9 y10 y11
  have e : ((((((((((((W1.setCell ⟨w.heap.size + 1, 0, none⟩ (.string (edtOf x).path)).setCell ⟨w.heap.size + 1, 1, none⟩ (.int .i64 (edtOf x).act)).setCell ⟨w.heap.size + 1, 2, none⟩ (.int .i64 (edtOf x).ty.base)).setCell ⟨w.heap.size + 1, 3, none⟩ (.bool (edtOf x).ty.k)).setCell ⟨w.heap.size + 1, 4, none⟩ (.bool (edtOf x).ty.l)).setCell ⟨w.heap.size + 1, 5, none⟩ (.bool (edtOf x).ty.x)).setCell ⟨w.heap.size + 1, 6, none⟩ (.int .u64 (edtOf x).sum)).setCell ⟨w.heap.size + 1, 7, none⟩ (.int .i64 (edtOf x).size)).setCell ⟨w.heap.size + 1, 8, none⟩ (.int .i64 (edtOf x).base)).setCell ⟨w.heap.size + 1, 9, none⟩ (.string (edtOf x).frm)).setCell ⟨w.heap.size + 1, 10, none⟩ (.int .i64 (edtOf x).fnum)).setCell ⟨w.heap.size + 1, 11, none⟩ (.int .i64 (edtOf x).fence)) = ((((((((((((W1.setCell ⟨w.heap.size + 1, 0, none⟩ (.string ((⟨x.path, x.act, x.ty, x.sum, x.size, x.num - 1, x.frm, x.fnum, 0⟩ : Edt)).path)).setCell ⟨w.heap.size + 1, 1, none⟩ (.int .i64 ((⟨x.path, x.act, x.ty, x.sum, x.size, x.num - 1, x.frm, x.fnum, 0⟩ : Edt)).act)).setCell ⟨w.heap.size + 1, 2, none⟩ (.int .i64 ((⟨x.path, x.act, x.ty, x.sum, x.size, x.num - 1, x.frm, x.fnum, 0⟩ : Edt)).ty.base)).setCell ⟨w.heap.size + 1, 3, none⟩ (.bool ((⟨x.path, x.act, x.ty, x.sum, x.size, x.num - 1, x.frm, x.fnum, 0⟩ : Edt)).ty.k)).setCell ⟨w.heap.size + 1, 4, none⟩ (.bool ((⟨x.path, x.act, x.ty, x.sum, x.size, x.num - 1, x.frm, x.fnum, 0⟩ : Edt)).ty.l)).setCell ⟨w.heap.size + 1, 5, none⟩ (.bool ((⟨x.path, x.act, x.ty, x.sum, x.size, x.num - 1, x.frm, x.fnum, 0⟩ : Edt)).ty.x)).setCell ⟨w.heap.size + 1, 6, none⟩ (.int .u64 ((⟨x.path, x.act, x.ty, x.sum, x.size, x.num - 1, x.frm, x.fnum, 0⟩ : Edt)).sum)).setCell ⟨w.heap.size + 1, 7, none⟩ (.int .i64 ((⟨x.path, x.act, x.ty, x.sum, x.size, x.num - 1, x.frm, x.fnum, 0⟩ : Edt)).size)).setCell ⟨w.heap.size + 1, 8, none⟩ (.int .i64 ((⟨x.path, x.act, x.ty, x.sum, x.size, x.num - 1, x.frm, x.fnum, 0⟩ : Edt)).base)).setCell ⟨w.heap.size + 1, 9, none⟩ (.string ((⟨x.path, x.act, x.ty, x.sum, x.size, x.num - 1, x.frm, x.fnum, 0⟩ : Edt)).frm)).setCell ⟨w.heap.size + 1, 10, none⟩ (.int .i64 ((⟨x.path, x.act, x.ty, x.sum, x.size, x.num - 1, x.frm, x.fnum, 0⟩ : Edt)).fnum)).setCell ⟨w.heap.size + 1, 11, none⟩ (.int .i64 ((⟨x.path, x.act, x.ty, x.sum, x.size, x.num - 1, x.frm, x.fnum, 0⟩ : Edt)).fence)) := rfl
  dsimp only at e
  rw [← e]
  generalize ((((((((((((W1.setCell ⟨w.heap.size + 1, 0, none⟩ (.string (edtOf x).path)).setCell ⟨w.heap.size + 1, 1, none⟩ (.int .i64 (edtOf x).act)).setCell ⟨w.heap.size + 1, 2, none⟩ (.int .i64 (edtOf x).ty.base)).setCell ⟨w.heap.size + 1, 3, none⟩ (.bool (edtOf x).ty.k)).setCell ⟨w.heap.size + 1, 4, none⟩ (.bool (edtOf x).ty.l)).setCell ⟨w.heap.size + 1, 5, none⟩ (.bool (edtOf x).ty.x)).setCell ⟨w.heap.size + 1, 6, none⟩ (.int .u64 (edtOf x).sum)).setCell ⟨w.heap.size + 1, 7, none⟩ (.int .i64 (edtOf x).size)).setCell ⟨w.heap.size + 1, 8, none⟩ (.int .i64 (edtOf x).base)).setCell ⟨w.heap.size + 1, 9, none⟩ (.string (edtOf x).frm)).setCell ⟨w.heap.size + 1, 10, none⟩ (.int .i64 (edtOf x).fnum)).setCell ⟨w.heap.size + 1, 11, none⟩ (.int .i64 (edtOf x).fence)) = W3 at hZ3 hB3 ⊢
  obtain ⟨e0, e1, e2, e3, e4, e5, e6, e7, e8, e9, e10, e11⟩ := box12 hZ3
  refine bodyPost_ret (v := .agg #[.string (edtOf x).path, .int .i64 (edtOf x).act, .int .i64 (edtOf x).ty.base, .bool (edtOf x).ty.k, .bool (edtOf x).ty.l, .bool (edtOf x).ty.x, .int .u64 (edtOf x).sum, .int .i64 (edtOf x).size, .int .i64 (edtOf x).base, .string (edtOf x).frm, .int .i64 (edtOf x).fnum, .int .i64 (edtOf x).fence]) (by simp [results, Tryz.results54, go_sem, e0, e1, e2, e3, e4, e5, e6, e7, e8, e9, e10, e11]) rfl ⟨rfl, hB3⟩
end Go.Proofs.YtmhmnchdhacdbaaGreatDoor
/- slices.Equal at revisions and at records. -/
namespace Go.Proofs.YtmhmnchdhacdbaaGreatDoor
open Go.RowKit
set_option linter.unusedVariables false
set_option linter.unusedSimpArgs false

set_option maxHeartbeats 2000000 in
theorem run_neq_rev (x y : Rev) (W : World) : (binOp .neq 36 (.agg #[.string x.path, .int .i64 x.num, .int .i64 x.chg, .int .i64 x.act, .int .i64 x.ty.base, .bool x.ty.k, .bool x.ty.l, .bool x.ty.x, .int .u64 x.sum, .int .i64 x.size, .string x.frm, .int .i64 x.fnum]) (.agg #[.string y.path, .int .i64 y.num, .int .i64 y.chg, .int .i64 y.act, .int .i64 y.ty.base, .bool y.ty.k, .bool y.ty.l, .bool y.ty.x, .int .u64 y.sum, .int .i64 y.size, .string y.frm, .int .i64 y.fnum])).run Tryz.prog W = .ok (.bool (!decide (x = y))) W := by
  obtain ⟨x1, x2, x3, x4, ⟨x5, x6, x7, x8⟩, x9, x10, x11, x12⟩ := x
  obtain ⟨y1, y2, y3, y4, ⟨y5, y6, y7, y8⟩, y9, y10, y11, y12⟩ := y
  rw [run_neq_struct, run_equalIn_agg W 9999 36 _ _ (by kernel_rfl) (by kernel_rfl)]
  simp [go_sem, Op.eqFields, toList_inj]
  by_cases h1 : x1 = y1
  case neg => simp [h1]
  rw [if_pos h1]
  by_cases h2 : x2 = y2
  case neg => simp [h2]
  rw [if_pos h2]
  by_cases h3 : x3 = y3
  case neg => simp [h3]
  rw [if_pos h3]
  by_cases h4 : x4 = y4
  case neg => simp [h4]
  rw [if_pos h4]
  by_cases h5 : x5 = y5
  case neg => simp [h5]
  rw [if_pos h5]
  by_cases h6 : x6 = y6
  case neg => simp [h6]
  rw [if_pos h6]
  by_cases h7 : x7 = y7
  case neg => simp [h7]
  rw [if_pos h7]
  by_cases h8 : x8 = y8
  case neg => simp [h8]
  rw [if_pos h8]
  by_cases h9 : x9 = y9
  case neg => simp [h9]
  rw [if_pos h9]
  by_cases h10 : x10 = y10
  case neg => simp [h10]
  rw [if_pos h10]
  by_cases h11 : x11 = y11
  case neg => simp [h11]
  rw [if_pos h11]
  by_cases h12 : x12 = y12
  case neg => simp [h12]
  rw [if_pos h12]
  simp [h1, h2, h3, h4, h5, h6, h7, h8, h9, h10, h11, h12]
theorem run_neq_rcd (x y : Rcd) (W : World) : (binOp .neq 60 (.agg #[.string x.frm, .int .i64 x.first, .int .i64 x.last, .string x.to, .int .i64 x.num, .int .i64 x.how]) (.agg #[.string y.frm, .int .i64 y.first, .int .i64 y.last, .string y.to, .int .i64 y.num, .int .i64 y.how])).run Tryz.prog W = .ok (.bool (!decide (x = y))) W := by
  obtain ⟨x1, x2, x3, x4, x5, x6⟩ := x
  obtain ⟨y1, y2, y3, y4, y5, y6⟩ := y
  rw [run_neq_struct, run_equalIn_agg W 9999 60 _ _ (by kernel_rfl) (by kernel_rfl)]
  simp [go_sem, Op.eqFields, toList_inj]
  repeat' split
  all_goals simp_all
theorem take_eq_all {α : Type} {l m : List α} (h : l.length = m.length) {k : Nat} (hk : l.length ≤ k) (he : l.take k = m.take k) : l = m := by
  rwa [List.take_of_length_le hk, List.take_of_length_le (by omega)] at he
theorem take_eq_step {α : Type} {l m : List α} {k : Nat} (h1 : k < l.length) (h2 : k < m.length) (he : l.take k = m.take k) (hx : l[k] = m[k]) : l.take (k + 1) = m.take (k + 1) := by
  rw [List.take_succ_eq_append_getElem h1, List.take_succ_eq_append_getElem h2, he, hx]

set_option maxRecDepth 100000 in
set_option maxHeartbeats 4000000 in
theorem equal_rev (l m : List Rev) (v1 v2 : Value) (w : World) (h1 : Revs w v1 l) (h2 : Revs w v2 m) :
    Calls Tryz.prog 55 #[v1, v2] w fun e w' => e = .returned (.bool (decide (l = m))) ∧ Below w.heap.size w w' := by
  obtain ⟨A1, c1, rfl, hc1, hm1, -⟩ := id h1
  obtain ⟨A2, c2, rfl, hc2, hm2, -⟩ := id h2
  unfold maxLen at hm1 hm2
  have H1 := Lib.hid h1
  have H2 := Lib.hid h2
  clear h1 h2
  by_cases hl : l.length = m.length
  · have q : ((l.length : Int) != (m.length : Int)) = false := by rw [bne_eq_false_iff_eq]; omega
    have HL := Lib.hid hl
    go_enter Tryz.func55, Tryz.ntmps55
    clear hl
    go_wp2_with fail
    go_loopw [13] (fun s wr => ∃ k : Nat, s = .int .i64 k ∧ k ≤ l.length ∧ Hid (l.take k = m.take k ∧ Below w.heap.size w wr)) (fun s _ => l.length - (intOf s).toNat)
    case atStart => exact ⟨0, rfl, Nat.zero_le _, by simp, Below.refl _ _⟩
    case round =>
      obtain ⟨k, rfl, hk, HI⟩ := hrel
      by_cases hlt : k < l.length
      · have hlt2 : k < m.length := by have := HL.out; omega
        have hz1 : (k : Int) < (l.length : Int) := by omega
        have hz2 : (k : Int) < (m.length : Int) := by omega
        obtain ⟨a1, rfl, hb1, hx⟩ := Revs.at_ (H1.out.below HI.out.2) hlt
        obtain ⟨a2, rfl, hb2, hy⟩ := Revs.at_ (H2.out.below HI.out.2) hlt2
        have HST := Lib.hid (fun h => take_eq_step hlt hlt2 HI.out.1 h)
        have HNE : Hid (l[k] ≠ m[k] → l ≠ m) := Lib.hid fun h e => h (by subst e; rfl)
        generalize l[k] = x at hx HST HNE
        generalize m[k] = y at hy HST HNE
        obtain ⟨x0, x1, x2, x3, x4, x5, x6, x7, x8, x9, x10, x11⟩ := hx
        obtain ⟨y0, y1, y2, y3, y4, y5, y6, y7, y8, y9, y10, y11⟩ := hy
        have hne := run_neq_rev x y
        by_cases e : x = y
        · have hd : (!decide (x = y)) = false := by simp [e]
          rw [hd] at hne
          have HE := Lib.hid e
          clear hd e
          go_wp2_with fail
          go_quiet (fail)
          clear x0 x1 x2 x3 x4 x5 x6 x7 x8 x9 x10 x11 y0 y1 y2 y3 y4 y5 y6 y7 y8 y9 y10 y11 hne
          go_wp2_with fail
          go_roundw
          case rel => exact ⟨k + 1, by go_num, by omega, HST.out HE.out, below_dN HI.out.2 _⟩
          case measure => simp [intOf]; omega
        · have hd : (!decide (x = y)) = true := by simp [e]
          rw [hd] at hne
          have HE : Hid (decide (l = m) = false) := Lib.hid (by simp; exact HNE.out e)
          clear hd e
          go_wp2_with fail
          go_quiet (fail)
          clear x0 x1 x2 x3 x4 x5 x6 x7 x8 x9 x10 x11 y0 y1 y2 y3 y4 y5 y6 y7 y8 y9 y10 y11 hne
          go_wp2_with fail
          go_ret
          exact ⟨ret_bool HE.out.symm, below_dN HI.out.2 _⟩
      · have HE : Hid (decide (l = m) = true) := Lib.hid (by simp; exact take_eq_all HL.out (by omega) HI.out.1)
        go_wp2_with fail
        go_ret
        exact ⟨ret_bool HE.out.symm, HI.out.2⟩
  · have q : ((l.length : Int) != (m.length : Int)) = true := by rw [bne_iff_ne]; omega
    have HE : Hid (decide (l = m) = false) := Lib.hid (by simp; intro e; exact hl (by rw [e]))
    clear hl
    go_enter Tryz.func55, Tryz.ntmps55
    go_wp2_with fail
    go_ret
    exact ⟨ret_bool HE.out.symm, Below.refl _ _⟩

set_option maxRecDepth 100000 in
set_option maxHeartbeats 4000000 in
theorem equal_rcd (l m : List Rcd) (v1 v2 : Value) (w : World) (h1 : Rcds w v1 l) (h2 : Rcds w v2 m) :
    Calls Tryz.prog 56 #[v1, v2] w fun e w' => e = .returned (.bool (decide (l = m))) ∧ Below w.heap.size w w' := by
  obtain ⟨A1, c1, rfl, hc1, hm1, -⟩ := id h1
  obtain ⟨A2, c2, rfl, hc2, hm2, -⟩ := id h2
  unfold maxLen at hm1 hm2
  have H1 := Lib.hid h1
  have H2 := Lib.hid h2
  clear h1 h2
  by_cases hl : l.length = m.length
  · have q : ((l.length : Int) != (m.length : Int)) = false := by rw [bne_eq_false_iff_eq]; omega
    have HL := Lib.hid hl
    go_enter Tryz.func56, Tryz.ntmps56
    clear hl
    go_wp2_with fail
    go_loopw [13] (fun s wr => ∃ k : Nat, s = .int .i64 k ∧ k ≤ l.length ∧ Hid (l.take k = m.take k ∧ Below w.heap.size w wr)) (fun s _ => l.length - (intOf s).toNat)
    case atStart => exact ⟨0, rfl, Nat.zero_le _, by simp, Below.refl _ _⟩
    case round =>
      obtain ⟨k, rfl, hk, HI⟩ := hrel
      by_cases hlt : k < l.length
      · have hlt2 : k < m.length := by have := HL.out; omega
        have hz1 : (k : Int) < (l.length : Int) := by omega
        have hz2 : (k : Int) < (m.length : Int) := by omega
        obtain ⟨a1, rfl, hb1, hx⟩ := Rcds.at_ (H1.out.below HI.out.2) hlt
        obtain ⟨a2, rfl, hb2, hy⟩ := Rcds.at_ (H2.out.below HI.out.2) hlt2
        have HST := Lib.hid (fun h => take_eq_step hlt hlt2 HI.out.1 h)
        have HNE : Hid (l[k] ≠ m[k] → l ≠ m) := Lib.hid fun h e => h (by subst e; rfl)
        generalize l[k] = x at hx HST HNE
        generalize m[k] = y at hy HST HNE
        obtain ⟨x0, x1, x2, x3, x4, x5⟩ := hx
        obtain ⟨y0, y1, y2, y3, y4, y5⟩ := hy
        have hne := run_neq_rcd x y
        by_cases e : x = y
        · have hd : (!decide (x = y)) = false := by simp [e]
          rw [hd] at hne
          have HE := Lib.hid e
          clear hd e
          go_wp2_with fail
          go_quiet (fail)
          clear x0 x1 x2 x3 x4 x5 y0 y1 y2 y3 y4 y5 hne
          go_wp2_with fail
          go_roundw
          case rel => exact ⟨k + 1, by go_num, by omega, HST.out HE.out, below_dN HI.out.2 _⟩
          case measure => simp [intOf]; omega
        · have hd : (!decide (x = y)) = true := by simp [e]
          rw [hd] at hne
          have HE : Hid (decide (l = m) = false) := Lib.hid (by simp; exact HNE.out e)
          clear hd e
          go_wp2_with fail
          go_quiet (fail)
          clear x0 x1 x2 x3 x4 x5 y0 y1 y2 y3 y4 y5 hne
          go_wp2_with fail
          go_ret
          exact ⟨ret_bool HE.out.symm, below_dN HI.out.2 _⟩
      · have HE : Hid (decide (l = m) = true) := Lib.hid (by simp; exact take_eq_all HL.out (by omega) HI.out.1)
        go_wp2_with fail
        go_ret
        exact ⟨ret_bool HE.out.symm, HI.out.2⟩
  · have q : ((l.length : Int) != (m.length : Int)) = true := by rw [bne_iff_ne]; omega
    have HE : Hid (decide (l = m) = false) := Lib.hid (by simp; intro e; exact hl (by rw [e]))
    clear hl
    go_enter Tryz.func56, Tryz.ntmps56
    go_wp2_with fail
    go_ret
    exact ⟨ret_bool HE.out.symm, Below.refl _ _⟩
end Go.Proofs.YtmhmnchdhacdbaaGreatDoor
/- The reference's Same: the walk. -/
namespace Go.Proofs.YtmhmnchdhacdbaaGreatDoor
open Go.RowKit
set_option linter.unusedVariables false
set_option linter.unusedSimpArgs false

def sameD (a b : Dep) : Bool := decide (a.revs = b.revs) && decide (a.recs = b.recs)
theorem same_no1 {a b : Dep} (h : a.revs ≠ b.revs) : sameD a b = false := by unfold sameD; rw [decide_eq_false h]; rfl
theorem same_no2 {a b : Dep} (h : a.recs ≠ b.recs) : sameD a b = false := by unfold sameD; rw [decide_eq_false h]; simp
theorem same_yes {a b : Dep} (h1 : a.revs = b.revs) (h2 : a.recs = b.recs) : sameD a b = true := by unfold sameD; rw [decide_eq_true h1, decide_eq_true h2]; rfl
end Go.Proofs.YtmhmnchdhacdbaaGreatDoor
