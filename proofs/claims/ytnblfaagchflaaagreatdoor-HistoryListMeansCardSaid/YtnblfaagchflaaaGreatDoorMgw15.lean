/- Plain: the reference's examination of a record answers as the program's. -/
import Derived.Test.YtnblfaagchflaaaGreatDoorMgw12
import Derived.Test.YtnblfaagchflaaaGreatDoorMgw14
import Derived.Test.YtnblfaagchflaaaGreatDoorMgw10
namespace Go.Proofs.YtnblfaagchflaaaGreatDoor
open Go.RowKit
set_option linter.unusedVariables false
set_option linter.unusedSimpArgs false

theorem editsOf_has {es : List Edt} (hn : (es.map (·.path)).Nodup) {e : Edt} (he : e ∈ es) : editsOf es e.path = some e := by
  have hfar : ∀ (l : List Edt) (f : ByteArray → Option Edt) (p : ByteArray), p ∉ l.map (·.path) → l.foldl (fun f e => upd f e.path e) f p = f p := by
    intro l
    induction l with
    | nil => intro f p _; rfl
    | cons x l ih =>
      intro f p hp
      rw [List.map_cons, List.mem_cons, not_or] at hp
      rw [List.foldl_cons, ih _ _ hp.2]
      unfold upd; rw [if_neg hp.1]
  have key : ∀ (l : List Edt) (f : ByteArray → Option Edt), (l.map (·.path)).Nodup → e ∈ l → l.foldl (fun f e => upd f e.path e) f e.path = some e := by
    intro l
    induction l with
    | nil => intro f _ h; cases h
    | cons x l ih =>
      intro f hn he
      rw [List.map_cons, List.nodup_cons] at hn
      rw [List.foldl_cons]
      rcases List.mem_cons.1 he with rfl | he
      · rw [hfar _ _ _ hn.1]; unfold upd; rw [if_pos rfl]
      · exact ih _ hn.2 he
  exact key es _ hn he
/-- The edit into which a record leads, by the reference. -/
def tgtM (x : Rcd) (o : Option Edt) (y : Edt) : Option Edt := if y.path = x.to ∧ y.base + 1 = x.num ∧ y.act ≠ 5 then some y else o
def tgt (es : List Edt) (x : Rcd) : Option Edt := es.foldl (tgtM x) none
theorem tgt_mem {es : List Edt} {x : Rcd} {t : Edt} (h : tgt es x = some t) : t ∈ es ∧ t.path = x.to ∧ t.base + 1 = x.num ∧ t.act ≠ 5 := by
  suffices H : ∀ (l : List Edt) (o : Option Edt) (S : Edt → Prop), (∀ y, o = some y → S y ∧ y.path = x.to ∧ y.base + 1 = x.num ∧ y.act ≠ 5) → (∀ y ∈ l, S y) → l.foldl (tgtM x) o = some t → S t ∧ t.path = x.to ∧ t.base + 1 = x.num ∧ t.act ≠ 5 by
    exact H es none (fun y => y ∈ es) (fun y hy => by cases hy) (fun y hy => hy) h
  intro l
  induction l with
  | nil => intro o S ho _ h; exact ho t h
  | cons z l ih =>
    intro o S ho hl h
    refine ih (tgtM x o z) S (fun y hy => ?_) (fun y hy => hl y (List.mem_cons_of_mem _ hy)) h
    unfold tgtM at hy
    split at hy
    · rename_i hc
      injection hy with hy
      subst hy
      exact ⟨hl _ (List.mem_cons_self ..), hc⟩
    · exact ho y hy
theorem tgt_has {es : List Edt} (hn : (es.map (·.path)).Nodup) {x : Rcd} {t : Edt} (ht : t ∈ es) (h1 : t.path = x.to) (h2 : t.base + 1 = x.num) (h3 : t.act ≠ 5) : tgt es x = some t := by
  have hsome : ∀ (l : List Edt) (o : Option Edt), (o.isSome = true ∨ t ∈ l) → (l.foldl (tgtM x) o).isSome = true := by
    intro l
    induction l with
    | nil => intro o h; rcases h with h | h
             · exact h
             · cases h
    | cons z l ih =>
      intro o h
      rw [List.foldl_cons]
      apply ih
      rcases h with h | h
      · left; unfold tgtM; split
        · rfl
        · exact h
      · rcases List.mem_cons.1 h with rfl | h
        · left; unfold tgtM; rw [if_pos ⟨h1, h2, h3⟩]; rfl
        · exact .inr h
  obtain ⟨u, hu⟩ := Option.isSome_iff_exists.1 (hsome es none (.inr ht))
  have hu' : tgt es x = some u := hu
  obtain ⟨a, b, -⟩ := tgt_mem hu'
  have e1 := editsOf_has hn a
  have e2 := editsOf_has hn ht
  rw [b] at e1
  rw [h1, e1] at e2
  injection e2 with e2
  rw [hu', e2]
def ignB (rs : List Rcd) (x : Rcd) : Bool := rs.all fun y => decide (y.to ≠ x.to ∨ y.num ≠ x.num ∨ y.how = 3)
def atR (D : List Rev) (p : ByteArray) (n : Int) : Rev := (rGet D p n).getD zeroRev
def refLine (D : List Rev) (x : Rcd) : Fil := rFirst D (atR D x.frm x.last)
def refSteps (D : List Rev) (x : Rcd) : Bool := (List.range (x.last - x.first + 1).toNat).all fun (i : Nat) => decide ((atR D x.frm (x.first + i)).act ≠ 5) && decide (rFirst D (atR D x.frm (x.first + i)) = refLine D x)
def refCopy (D : List Rev) (t : Edt) (x : Rcd) : Bool := if x.how = 1 then (decide ((atR D x.frm x.last).act = 3) == decide (t.act = 3)) && (decide ((atR D x.frm x.last).act = 3) || (decide ((atR D x.frm x.last).ty = t.ty) && decide ((atR D x.frm x.last).sum = t.sum) && decide ((atR D x.frm x.last).size = t.size))) else true
def refIgn (D : List Rev) (rs : List Rcd) (t : Edt) (x : Rcd) : Bool := if ignB rs x then decide (t.act = 2) && decide (t.ty = (atR D x.to t.base).ty) && decide (t.sum = (atR D x.to t.base).sum) && decide (t.size = (atR D x.to t.base).size) else true
/-- A record's examination by the reference, its place among the others aside. -/
def refRec (D : List Rev) (c : Chg) (x : Rcd) : Bool :=
  decide (1 ≤ x.how ∧ x.how ≤ 4) && match tgt c.edits x with
    | none => false
    | some t => decide (1 ≤ x.first ∧ x.first ≤ x.last ∧ x.last ≤ (logOf D x.frm).length) && refSteps D x && (decide (t.act = 1) || !decide (rFirst D ((rPrev D (madeR (lastOf D) c.num t)).getD zeroRev) = refLine D x)) && refCopy D t x && refIgn D c.recs t x

theorem LineOk.some_ {D : List Rev} (hL : LineOk D) {f l : Fil} (h : linesOf D f = some l) : ∃ v ∈ D, v.act ≠ 5 ∧ (v.path, v.num) = f ∧ l = rFirst D v := by
  apply Classical.byContradiction
  intro hn
  have := hL.none_ f fun v hv h5 e => hn ⟨v, hv, h5, e, by
    have h2 := hL.live v hv h5
    rw [e, h] at h2
    injection h2⟩
  rw [this] at h
  cases h
theorem DepOk.line_at {d : Dep} (h : DepOk d) {p : ByteArray} {n : Int} {l : Fil} (hl : linesOf d.revs (p, n) = some l) : ∃ v, rGet d.revs p n = some v ∧ v.act ≠ 5 ∧ l = rFirst d.revs v := by
  obtain ⟨v, hv, h5, e, hr⟩ := h.line.some_ hl
  injection e with e1 e2
  subst e1 e2
  exact ⟨v, (h.log _).rget hv rfl, h5, hr⟩
theorem DepOk.at_line {d : Dep} (h : DepOk d) {p : ByteArray} {n : Int} {v : Rev} (hv : rGet d.revs p n = some v) (h5 : v.act ≠ 5) : linesOf d.revs (p, n) = some (rFirst d.revs v) := by
  obtain ⟨a, b, c⟩ := rGet_mem hv
  have := h.line.live v a h5
  rwa [b, c] at this
/-- The line that a revision that an edit makes would be of. -/
theorem target_line {d : Dep} {c : Chg} (h : DepOk d) (hs : ∀ r ∈ d.revs, r.chg < c.num) (h2 : everyE (lastOf d.revs) emptyS c.edits = 0) {e : Edt} (he : e ∈ c.edits) (h5 : e.act ≠ 5) {l : Fil} {v : Rev} (hv : v ∈ d.revs) (hl : l = rFirst d.revs v) :
    (l = lineV (linesOf d.revs) (madeR (lastOf d.revs) c.num e)) ↔ (e.act ≠ 1 ∧ rFirst d.revs ((rPrev d.revs (madeR (lastOf d.revs) c.num e)).getD zeroRev) = l) := by
  rcases made_prev2 h.log hs h2 he with a1 | ⟨u, u1, u2, u3, u4⟩
  · unfold lineV
    rw [if_pos (show (madeR (lastOf d.revs) c.num e).act = 1 from a1)]
    constructor
    · intro hh
      exfalso
      obtain ⟨x, hx, e1⟩ := rFirst_in h.prev hv
      rw [hl, e1] at hh
      injection hh with k1 k2
      have := last_bound h.log hx
      rw [k1] at this
      have k2' : x.num = (lastR (lastOf d.revs) e.path).num + 1 := k2
      have k3 : (lastR (lastOf d.revs) (madeR (lastOf d.revs) c.num e).path).num = (lastR (lastOf d.revs) e.path).num := rfl
      omega
    · rintro ⟨hh, -⟩; exact absurd a1 hh
  · have hu := rPrev_mem u1
    have ha1 : e.act ≠ 1 := by
      intro a1
      unfold rPrev at u1
      rw [if_pos (show (madeR (lastOf d.revs) c.num e).act = 1 from a1)] at u1
      cases u1
    rw [u1]
    have hgu : linesOf d.revs (u.path, u.num) = some (rFirst d.revs u) := h.line.live u hu (fun k => by rw [k] at u3; cases u3)
    have hL : lineV (linesOf d.revs) (madeR (lastOf d.revs) c.num e) = rFirst d.revs u := by
      unfold lineV
      rw [if_neg (show ¬ (madeR (lastOf d.revs) c.num e).act = 1 from ha1)]
      by_cases a4 : e.act = 4
      · rw [if_pos (show (madeR (lastOf d.revs) c.num e).act = 4 from a4)]
        rw [if_pos a4] at u4
        show (linesOf d.revs (e.frm, e.fnum)).getD zeroFil = _
        rw [← u4, hgu]; rfl
      · rw [if_neg (show ¬ (madeR (lastOf d.revs) c.num e).act = 4 from a4)]
        rw [if_neg a4] at u4
        show (linesOf d.revs (e.path, (lastR (lastOf d.revs) e.path).num + 1 - 1)).getD zeroFil = _
        rw [show (lastR (lastOf d.revs) e.path).num + 1 - 1 = (lastR (lastOf d.revs) e.path).num by omega, ← u4, hgu]; rfl
    rw [hL]
    exact ⟨fun hh => ⟨ha1, hh.symm⟩, fun hh => hh.2.symm⟩
theorem DepOk.num_in {d : Dep} (h : DepOk d) {p : ByteArray} {n : Int} {v : Rev} (hv : rGet d.revs p n = some v) : 1 ≤ n ∧ n ≤ (logOf d.revs p).length := ((h.log p).rget_in n).1 ⟨v, hv⟩
/-- What sourceR finds, in the reference's words. -/
theorem source_iff {d : Dep} (h : DepOk d) (r : Rcd) (target : Fil) (v : Rev) : sourceR d.revs r target = some v ↔ (rGet d.revs r.frm r.last = some v ∧ 1 ≤ r.first ∧ r.first ≤ r.last ∧ r.last ≤ (logOf d.revs r.frm).length ∧ refSteps d.revs r = true ∧ refLine d.revs r ≠ target) := by
  have hg := (h.log r.frm).rget_eq r.last
  constructor
  · intro hS
    unfold sourceR at hS
    rw [← hg] at hS
    cases hv : rGet d.revs r.frm r.last with
    | none => rw [hv] at hS; cases hS
    | some u =>
      rw [hv] at hS
      simp only at hS
      split at hS
      · cases hS
      · rename_i hb
        cases hl : linesOf d.revs (r.frm, r.last) with
        | none => rw [hl] at hS; cases hS
        | some line =>
          rw [hl] at hS
          simp only at hS
          split at hS
          · cases hS
          · rename_i hne
            split at hS
            · rename_i hall
              injection hS with hS
              subst hS
              obtain ⟨w, w1, w2, w3⟩ := h.line_at hl
              rw [hv] at w1
              injection w1 with w1
              subst w1
              have hline : refLine d.revs r = line := by unfold refLine atR; rw [hv]; exact w3.symm
              have hin := h.num_in hv
              refine ⟨rfl, by omega, by omega, hin.2, ?_, by rw [hline]; exact hne⟩
              unfold refSteps
              rw [List.all_eq_true]
              intro i hi
              rw [List.mem_range] at hi
              rw [hline]
              by_cases hlast : r.first + (i : Int) = r.last
              · rw [hlast]
                unfold atR
                rw [hv]
                simp [w2, w3]
              · have hlt : i < (r.last - r.first).toNat := by omega
                have hx := List.all_eq_true.1 hall i (List.mem_range.2 hlt)
                have hx' : linesOf d.revs (r.frm, r.first + (i : Int)) = some line := of_decide_eq_true hx
                obtain ⟨y, y1, y2, y3⟩ := h.line_at hx'
                unfold atR
                rw [y1]
                simp [y2, y3]
            · cases hS
  · rintro ⟨hv, h1, h2, h3, h4, h5⟩
    have hstep : ∀ i : Nat, i < (r.last - r.first + 1).toNat → linesOf d.revs (r.frm, r.first + (i : Int)) = some (refLine d.revs r) := by
      intro i hi
      unfold refSteps at h4
      have := List.all_eq_true.1 h4 i (List.mem_range.2 hi)
      rw [Bool.and_eq_true, decide_eq_true_eq, decide_eq_true_eq] at this
      obtain ⟨w, hw⟩ := ((h.log r.frm).rget_in (r.first + (i : Int))).2 ⟨by omega, by omega⟩
      unfold atR at this
      rw [hw] at this
      simp only [Option.getD_some] at this
      rw [← this.2]
      exact h.at_line hw this.1
    have hll := hstep (r.last - r.first).toNat (by omega)
    rw [show r.first + ((r.last - r.first).toNat : Int) = r.last by omega] at hll
    have hlen : (logOf d.revs r.frm).length ≤ d.revs.length := List.length_filter_le ..
    unfold sourceR
    rw [← hg, hv]
    simp only
    rw [if_neg (by omega), hll]
    simp only
    rw [if_neg h5, if_pos]
    rw [List.all_eq_true]
    intro i hi
    rw [List.mem_range] at hi
    exact decide_eq_true (hstep i (by omega))
end Go.Proofs.YtnblfaagchflaaaGreatDoor
/- Plain: of all records of a change the reference says what the program says. -/
namespace Go.Proofs.YtnblfaagchflaaaGreatDoor
open Go.RowKit
set_option linter.unusedVariables false
set_option linter.unusedSimpArgs false

/-- A record that the program's examination passes: its edit and its source. -/
theorem isRec_iff {d : Dep} {c : Chg} (h : DepOk d) (hs : ∀ r ∈ d.revs, r.chg < c.num) (h2 : everyE (lastOf d.revs) emptyS c.edits = 0) (x : Rcd) :
    isRec d.revs c.num (editsOf c.edits) x = true ↔ ∃ t, tgt c.edits x = some t ∧ 1 ≤ x.how ∧ x.how ≤ 4 ∧ (1 ≤ x.first ∧ x.first ≤ x.last ∧ x.last ≤ (logOf d.revs x.frm).length) ∧ refSteps d.revs x = true ∧ ¬ (t.act ≠ 1 ∧ rFirst d.revs ((rPrev d.revs (madeR (lastOf d.revs) c.num t)).getD zeroRev) = refLine d.revs x) ∧ refCopy d.revs t x = true := by
  obtain ⟨p1, p2⟩ := everyE_paths h2
  have hn := paths_nodup p1
  have hcopy : ∀ (t : Edt) (v : Rev), rGet d.revs x.frm x.last = some v → v.act ≠ 5 → ((if x.how = 1 then (if v.act = 3 then decide (t.act = 3) else (!decide (t.act = 3)) && decide (t.ty = v.ty) && decide (t.sum = v.sum) && decide (t.size = v.size)) else true) = true ↔ refCopy d.revs t x = true) := by
    intro t v hv h5
    have ha : atR d.revs x.frm x.last = v := by unfold atR; rw [hv]; rfl
    unfold refCopy
    rw [ha]
    by_cases h1 : x.how = 1
    · rw [if_pos h1, if_pos h1]
      by_cases h3 : v.act = 3
      · rw [if_pos h3]
        by_cases t3 : t.act = 3 <;> simp [h3, t3]
      · rw [if_neg h3]
        by_cases t3 : t.act = 3
        · simp [h3, t3]
        · simp only [h3, t3, decide_false, Bool.not_false, Bool.true_and, BEq.rfl, Bool.false_or, Bool.and_eq_true, decide_eq_true_eq]
          constructor
          · rintro ⟨⟨a, b⟩, c⟩; exact ⟨⟨a.symm, b.symm⟩, c.symm⟩
          · rintro ⟨⟨a, b⟩, c⟩; exact ⟨⟨a.symm, b.symm⟩, c.symm⟩
    · rw [if_neg h1, if_neg h1]
  have hsrc : ∀ (t : Edt), t ∈ c.edits → t.act ≠ 5 → ∀ v, (sourceR d.revs x (lineV (linesOf d.revs) (madeR (lastOf d.revs) c.num t)) = some v ↔ (rGet d.revs x.frm x.last = some v ∧ (1 ≤ x.first ∧ x.first ≤ x.last ∧ x.last ≤ (logOf d.revs x.frm).length) ∧ refSteps d.revs x = true ∧ ¬ (t.act ≠ 1 ∧ rFirst d.revs ((rPrev d.revs (madeR (lastOf d.revs) c.num t)).getD zeroRev) = refLine d.revs x))) := by
    intro t ht h5 v
    rw [source_iff h]
    constructor
    · rintro ⟨a, b1, b2, b3, b4, b5⟩
      refine ⟨a, ⟨b1, b2, b3⟩, b4, fun hh => b5 ?_⟩
      have hv := (rGet_mem a).1
      have hl : refLine d.revs x = rFirst d.revs v := by unfold refLine atR; rw [a]; rfl
      exact (target_line h hs h2 ht h5 hv hl).2 hh
    · rintro ⟨a, ⟨b1, b2, b3⟩, b4, b5⟩
      refine ⟨a, b1, b2, b3, b4, fun hh => b5 ?_⟩
      have hv := (rGet_mem a).1
      have hl : refLine d.revs x = rFirst d.revs v := by unfold refLine atR; rw [a]; rfl
      exact (target_line h hs h2 ht h5 hv hl).1 hh
  have hact : ∀ v, rGet d.revs x.frm x.last = some v → refSteps d.revs x = true → (1 ≤ x.first ∧ x.first ≤ x.last) → v.act ≠ 5 := by
    intro v hv hst hb
    unfold refSteps at hst
    have := List.all_eq_true.1 hst (x.last - x.first).toNat (List.mem_range.2 (by omega))
    rw [show x.first + ((x.last - x.first).toNat : Int) = x.last by omega, Bool.and_eq_true, decide_eq_true_eq] at this
    have h1 := this.1
    unfold atR at h1
    rw [hv] at h1
    exact h1
  constructor
  · intro hi
    unfold isRec at hi
    cases he : editsOf c.edits x.to with
    | none => rw [he] at hi; cases hi
    | some t =>
      rw [he] at hi
      simp only at hi
      obtain ⟨k1, k2⟩ := editsOf_mem _ _ _ he
      split at hi
      · cases hi
      · rename_i hb
        have h5 : t.act ≠ 5 := by omega
        cases hS : sourceR d.revs x (lineV (linesOf d.revs) (madeR (lastOf d.revs) c.num t)) with
        | none => rw [hS] at hi; cases hi
        | some v =>
          rw [hS] at hi
          simp only at hi
          obtain ⟨a, b, e, f⟩ := (hsrc t k1 h5 v).1 hS
          exact ⟨t, tgt_has hn k1 k2 (by omega) h5, by omega, by omega, b, e, f, (hcopy t v a (hact v a e ⟨b.1, b.2.1⟩)).1 hi⟩
  · rintro ⟨t, ht, w1, w2, b, e, f, g⟩
    obtain ⟨k1, k2, k3, k4⟩ := tgt_mem ht
    have he := editsOf_has hn k1
    rw [k2] at he
    obtain ⟨v, hv⟩ := ((h.log x.frm).rget_in x.last).2 ⟨by omega, b.2.2⟩
    have hS := (hsrc t k1 k4 v).2 ⟨hv, b, e, f⟩
    unfold isRec
    rw [he]
    simp only
    rw [if_neg (by omega), hS]
    exact (hcopy t v hv (hact v hv e ⟨b.1, b.2.1⟩)).2 g
/-- An edit that leaves its file as it is. -/
theorem unchanged_iff {d : Dep} {c : Chg} (h : DepOk d) (h2 : everyE (lastOf d.revs) emptyS c.edits = 0) {t : Edt} (ht : t ∈ c.edits) : unchanged (lastOf d.revs) t = true ↔ (decide (t.act = 2) && decide (t.ty = (atR d.revs t.path t.base).ty) && decide (t.sum = (atR d.revs t.path t.base).sum) && decide (t.size = (atR d.revs t.path t.base).size)) = true := by
  obtain ⟨o1, o2, -, -⟩ := oneE_zero ((everyE_paths h2).2 t ht).2.2
  by_cases a2 : t.act = 2
  · have hadd := actE_zero o1
    have hna : addA t.act = false := by rw [a2]; rfl
    rw [hna] at hadd
    have hlv : isLast (lastOf d.revs) t.path = true := by simpa using hadd.symm
    unfold isLast at hlv
    cases hx : lastOf d.revs t.path with
    | none => rw [hx] at hlv; cases hlv
    | some u =>
      obtain ⟨b1, b2, b3⟩ := last_in (h.log _) hx
      have hR : lastR (lastOf d.revs) t.path = u := by unfold lastR; rw [hx]; rfl
      have hA : atR d.revs t.path t.base = u := by
        unfold atR; rw [o2, hR, b3]; rfl
      unfold unchanged
      rw [hR, hA]
  · unfold unchanged
    simp [a2]
theorem refRec_split {D : List Rev} {c : Chg} {x : Rcd} : refRec D c x = true ↔ ∃ t, tgt c.edits x = some t ∧ 1 ≤ x.how ∧ x.how ≤ 4 ∧ (1 ≤ x.first ∧ x.first ≤ x.last ∧ x.last ≤ (logOf D x.frm).length) ∧ refSteps D x = true ∧ ¬ (t.act ≠ 1 ∧ rFirst D ((rPrev D (madeR (lastOf D) c.num t)).getD zeroRev) = refLine D x) ∧ refCopy D t x = true ∧ refIgn D c.recs t x = true := by
  unfold refRec
  cases tgt c.edits x with
  | none => simp
  | some t =>
    simp only [Bool.and_eq_true, decide_eq_true_eq, Bool.or_eq_true, Bool.not_eq_true', decide_eq_false_iff_not, Option.some.injEq]
    constructor
    · rintro ⟨⟨a, b⟩, ⟨⟨⟨c1, c2⟩, c3⟩, c4⟩, c5⟩
      exact ⟨t, rfl, a, b, c1, c2, fun hh => by rcases c3 with c3 | c3; exact hh.1 c3; exact c3 hh.2, c4, c5⟩
    · rintro ⟨t', rfl, a, b, c1, c2, c3, c4, c5⟩
      refine ⟨⟨a, b⟩, ⟨⟨⟨c1, c2⟩, ?_⟩, c4⟩, c5⟩
      by_cases h1 : t.act = 1
      · exact .inl h1
      · exact .inr fun hh => c3 ⟨h1, hh⟩
/-- A record that the reference passes is passed by the program. -/
theorem recOk_of_ref {d : Dep} {c : Chg} (h : DepOk d) (hs : ∀ r ∈ d.revs, r.chg < c.num) (h2 : everyE (lastOf d.revs) emptyS c.edits = 0) {x : Rcd} (hr : refRec d.revs c x = true) : recOk d.revs c (editsOf c.edits) x = true := by
  obtain ⟨t, a, b1, b2, b3, b4, b5, b6, b7⟩ := refRec_split.1 hr
  obtain ⟨k1, k2, k3, k4⟩ := tgt_mem a
  have hn := paths_nodup (everyE_paths h2).1
  unfold recOk
  rw [Bool.and_eq_true, Bool.or_eq_true]
  refine ⟨(isRec_iff h hs h2 x).2 ⟨t, a, b1, b2, b3, b4, b5, b6⟩, ?_⟩
  unfold refIgn at b7
  cases hi : ignB c.recs x with
  | true =>
    rw [hi, if_pos rfl] at b7
    right
    have he := editsOf_has hn k1
    rw [k2] at he
    rw [he]
    refine (unchanged_iff h h2 k1).2 ?_
    rw [k2]; exact b7
  | false =>
    left
    unfold ignB at hi
    rw [List.all_eq_false] at hi
    obtain ⟨y, hy, hh⟩ := hi
    unfold worked
    rw [List.any_eq_true]
    refine ⟨y, hy, ?_⟩
    simp only [decide_eq_true_eq, not_or, Decidable.not_not] at hh
    rw [Bool.and_eq_true, decide_eq_true_eq, decide_eq_true_eq]
    exact ⟨hh.2.2, hh.1⟩
/-- Where the program passes all records the reference passes each. -/
theorem ref_of_recOk {d : Dep} {c : Chg} (h : DepOk d) (hs : ∀ r ∈ d.revs, r.chg < c.num) (h2 : everyE (lastOf d.revs) emptyS c.edits = 0) (hall : ∀ y ∈ c.recs, recOk d.revs c (editsOf c.edits) y = true) {x : Rcd} (hx : x ∈ c.recs) : refRec d.revs c x = true := by
  have hn := paths_nodup (everyE_paths h2).1
  have hget : ∀ y ∈ c.recs, ∃ t, tgt c.edits y = some t ∧ 1 ≤ y.how ∧ y.how ≤ 4 ∧ (1 ≤ y.first ∧ y.first ≤ y.last ∧ y.last ≤ (logOf d.revs y.frm).length) ∧ refSteps d.revs y = true ∧ ¬ (t.act ≠ 1 ∧ rFirst d.revs ((rPrev d.revs (madeR (lastOf d.revs) c.num t)).getD zeroRev) = refLine d.revs y) ∧ refCopy d.revs t y = true := by
    intro y hy
    have := hall y hy
    unfold recOk at this
    rw [Bool.and_eq_true] at this
    exact (isRec_iff h hs h2 y).1 this.1
  obtain ⟨t, a, b1, b2, b3, b4, b5, b6⟩ := hget x hx
  obtain ⟨k1, k2, k3, k4⟩ := tgt_mem a
  refine refRec_split.2 ⟨t, a, b1, b2, b3, b4, b5, b6, ?_⟩
  unfold refIgn
  cases hi : ignB c.recs x with
  | false => rw [if_neg (by decide)]
  | true =>
    rw [if_pos rfl]
    have h1 := hall x hx
    unfold recOk at h1
    rw [Bool.and_eq_true, Bool.or_eq_true] at h1
    rcases h1.2 with hw | hu
    · exfalso
      unfold worked at hw
      rw [List.any_eq_true] at hw
      obtain ⟨y, hy, hh⟩ := hw
      rw [Bool.and_eq_true, decide_eq_true_eq, decide_eq_true_eq] at hh
      obtain ⟨t2, e1, -⟩ := hget y hy
      obtain ⟨q1, q2, q3, -⟩ := tgt_mem e1
      have e2 := editsOf_has hn q1
      have e3 := editsOf_has hn k1
      rw [q2, hh.2] at e2
      rw [k2, e2] at e3
      injection e3 with e3
      subst e3
      unfold ignB at hi
      have := List.all_eq_true.1 hi y hy
      simp only [decide_eq_true_eq] at this
      rcases this with g | g | g
      · exact g hh.2
      · omega
      · exact hh.1 g
    · have he := editsOf_has hn k1
      rw [k2] at he
      rw [he] at hu
      have := (unchanged_iff h h2 k1).1 hu
      rw [k2] at this
      exact this
/-- The reference's counting of moves. -/
def movedN (es : List Edt) (x : Edt) : Nat := es.countP fun y => (decide (x.act = 5) && decide (y.act = 4) && decide (y.frm = x.path)) || (decide (x.act = 4) && decide (y.act = 5) && decide (y.path = x.frm))
def movedB (es : List Edt) (x : Edt) : Bool := decide (movedN es x = 1) || (decide (x.act ≠ 5) && decide (x.act ≠ 4))
theorem moved_iff {es : List Edt} (hn : (es.map (·.path)).Nodup) {x : Edt} (hx : x ∈ es) : movedB es x = moveOk es (editsOf es) x := by
  unfold movedB moveOk movedN
  by_cases h5 : x.act = 5
  · rw [if_pos h5]
    have : (es.countP fun y => (decide (x.act = 5) && decide (y.act = 4) && decide (y.frm = x.path)) || (decide (x.act = 4) && decide (y.act = 5) && decide (y.path = x.frm))) = arrivals es x.path := by
      unfold arrivals
      refine List.countP_congr fun y hy => ?_
      simp [h5]
    rw [this]
    simp [h5]
  · rw [if_neg h5]
    by_cases h4 : x.act = 4
    · rw [if_pos h4]
      have hc : (es.countP fun y => (decide (x.act = 5) && decide (y.act = 4) && decide (y.frm = x.path)) || (decide (x.act = 4) && decide (y.act = 5) && decide (y.path = x.frm))) = es.countP fun y => decide (y.act = 5) && decide (y.path = x.frm) := by
        refine List.countP_congr fun y hy => ?_
        simp [h4]
      rw [hc]
      cases he : editsOf es x.frm with
      | none =>
        have h0 : (es.countP fun y => decide (y.act = 5) && decide (y.path = x.frm)) = 0 := by
          rw [List.countP_eq_zero]
          intro y hy hh
          rw [Bool.and_eq_true, decide_eq_true_eq, decide_eq_true_eq] at hh
          have := editsOf_has hn hy
          rw [hh.2, he] at this
          cases this
        rw [h0]
        simp [h4, zeroEdt]
      | some z =>
        obtain ⟨z1, z2⟩ := editsOf_mem _ _ _ he
        simp only [Option.getD_some]
        by_cases z5 : z.act = 5
        · have := countP_path hn z1 (fun y => decide (y.act = 5)) (by simpa using z5)
          rw [z2] at this
          rw [this]
          simp [z5]
        · have h0 : (es.countP fun y => decide (y.act = 5) && decide (y.path = x.frm)) = 0 := by
            rw [List.countP_eq_zero]
            intro y hy hh
            rw [Bool.and_eq_true, decide_eq_true_eq, decide_eq_true_eq] at hh
            have e2 := editsOf_has hn hy
            rw [hh.2, he] at e2
            injection e2 with e2
            rw [e2] at z5
            exact z5 hh.1
          rw [h0]
          simp [h4, z5]
    · rw [if_neg h4]
      simp [h5, h4]
end Go.Proofs.YtnblfaagchflaaaGreatDoor
/- The reference's Log, Last, Get, Gone, Live, Previous, First: the walks. -/
namespace Go.Proofs.YtnblfaagchflaaaGreatDoor
open Go.RowKit
set_option linter.unusedVariables false
set_option linter.unusedSimpArgs false

theorem log_take (revs : List Rev) (p : ByteArray) (k : Nat) (h : k < revs.length) : logOf (revs.take (k + 1)) p = logOf (revs.take k) p ++ (if revs[k].path = p then [revs[k]] else []) := by
  rw [List.take_succ_eq_append_getElem h, log_app]
  congr 1
  unfold logOf
  rw [List.filter_cons]
  by_cases e : revs[k].path = p
  · simp [e]
  · simp [e]
theorem log_len (revs : List Rev) (p : ByteArray) : (logOf revs p).length ≤ revs.length := List.length_filter_le ..
theorem rev_oneC (x : Rev) : ∀ v ∈ x.cells, v.oneCell' = true := by
  intro v hv
  simp only [Rev.cells, List.mem_cons, List.not_mem_nil, or_false] at hv
  rcases hv with rfl | rfl | rfl | rfl | rfl | rfl | rfl | rfl | rfl | rfl | rfl | rfl <;> rfl
/-- What the reference's Log leaves. -/
def RLogPost (w : World) (revs : List Rev) (p : ByteArray) (e : Ending) (w' : World) : Prop := ∃ A c, e = .returned (.slice A (logOf revs p).length c) ∧ Below w.heap.size w w' ∧ Revs w' (.slice A (logOf revs p).length c) (logOf revs p)
set_option maxRecDepth 100000 in
set_option maxHeartbeats 4000000 in
theorem refLog_any (revs : List Rev) (p : ByteArray) (dv dr : Value) (w : World) (hR : Revs w dv revs) (hl : revs.length ≤ 1000000) :
    Calls Tryz.prog 64 #[.agg #[dv, dr], .string p] w (RLogPost w revs p) := by
  obtain ⟨Ar, cr, rfl, hcr, hmr, -⟩ := id hR
  have HR := Lib.hid hR
  clear hR
  unfold maxLen at hmr
  go_enter Tryz.func64, Tryz.ntmps64
  have hB := blk_new w [.slice Ar revs.length cr, dr] 31
  have hA : Below w.heap.size w (w.alloc (.cells #[.slice Ar revs.length cr, dr] 31)) := (Below.refl _ _).alloc (Nat.le_refl _) _
  go_upto_region 2 with fail
  generalize w.alloc (.cells #[.slice Ar revs.length cr, dr] 31) = W1 at hB hA ⊢
  obtain ⟨d0, -, -, -⟩ := box2 hB
  have HA := Lib.hid hA
  clear hA hB
  go_wp2_with fail
  clear d0
  go_loopw [5, 11] (fun u s wr => ∃ (k n : Nat) (A : Option Addr) (c : Nat), s = .int .i64 k ∧ u = .slice A n c ∧ k ≤ revs.length ∧ n ≤ k ∧ Hid (n = (logOf (revs.take k) p).length ∧ Below W1.heap.size W1 wr ∧ wr.ownsRow W1.heap.size 40 12 (.slice A n c) n ((logOf (revs.take k) p).flatMap Rev.cells))) (fun _ s _ => revs.length - (intOf s).toNat)
  case atStart => exact ⟨0, 0, none, 0, rfl, rfl, Nat.zero_le _, Nat.le_refl _, rfl, Below.refl _ _, World.ownsRow_nil _ _ _ _⟩
  case round =>
    obtain ⟨k, n, A, c, rfl, rfl, hk, hnk, HI⟩ := hrel
    by_cases hlt : k < revs.length
    · obtain ⟨ad, rfl, hab, hld⟩ := Revs.at_ (HR.out.below (below_next HA.out HI.out.2.1)) hlt
      have HT := Lib.hid (log_take revs p k hlt)
      generalize revs[k] = r at hld HT
      obtain ⟨x0, x1, x2, x3, x4, x5, x6, x7, x8, x9, x10, x11⟩ := hld
      have hX := blk_new wr [.string r.path, .int .i64 r.num, .int .i64 r.chg, .int .i64 r.act, .int .i64 r.ty.base, .bool r.ty.k, .bool r.ty.l, .bool r.ty.x, .int .u64 r.sum, .int .i64 r.size, .string r.frm, .int .i64 r.fnum] 40
      have hA1 : Below wr.heap.size wr (wr.alloc (.cells #[.string r.path, .int .i64 r.num, .int .i64 r.chg, .int .i64 r.act, .int .i64 r.ty.base, .bool r.ty.k, .bool r.ty.l, .bool r.ty.x, .int .u64 r.sum, .int .i64 r.size, .string r.frm, .int .i64 r.fnum] 40)) := (Below.refl _ _).alloc (Nat.le_refl _) _
      go_upto_region 5 with fail
      clear x0 x1 x2 x3 x4 x5 x6 x7 x8 x9 x10 x11
      generalize wr.alloc (.cells #[.string r.path, .int .i64 r.num, .int .i64 r.chg, .int .i64 r.act, .int .i64 r.ty.base, .bool r.ty.k, .bool r.ty.l, .bool r.ty.x, .int .u64 r.sum, .int .i64 r.size, .string r.frm, .int .i64 r.fnum] 40) = V1 at hX hA1 ⊢
      obtain ⟨y0, y1, y2, y3, y4, y5, y6, y7, y8, y9, y10, y11⟩ := box12 hX
      by_cases hp : r.path = p
      · have q := str_eqB r.path p
        rw [decide_eq_true hp] at q
        rw [if_pos hp] at HT
        have HN : Hid (n = (logOf (revs.take k) p).length ∧ Below W1.heap.size W1 V1 ∧ V1.ownsRow W1.heap.size 40 12 (.slice A n c) n ((logOf (revs.take k) p).flatMap Rev.cells)) := Lib.hid ⟨HI.out.1, below_next HI.out.2.1 hA1, own_below HI.out.2.2 hA1⟩
        clear hX hA1 hp
        go_wp2_with (at_builtin; refine wpList_push rfl rfl revElem ((own_below HN.out.2.2 ((Below.refl _ _).alloc (Nat.le_refl _) _))) rfl (row_new V1 [.string r.path, .int .i64 r.num, .int .i64 r.chg, .int .i64 r.act, .int .i64 r.ty.base, .bool r.ty.k, .bool r.ty.l, .bool r.ty.x, .int .u64 r.sum, .int .i64 r.size, .string r.frm, .int .i64 r.fnum] _ 12 1 rfl (by decide) _ rfl) rfl (HN.out.2.1.alloc HN.out.2.1.size _) (HN.out.2.1.alloc HN.out.2.1.size _).size (rev_oneC r) (by omega) (by unfold maxLen; omega) ?_; intro A' c' w2 hown2 hbl2)
        have HO2 := Lib.hid hown2
        have HB2 := Lib.hid hbl2
        clear y0 y1 y2 y3 y4 y5 y6 y7 y8 y9 y10 y11 hown2 hbl2
        go_wp2_with fail
        go_roundw
        case rel =>
          refine ⟨k + 1, n + 1, A', c', by go_num, rfl, by omega, by omega, ?_, HB2.out, ?_⟩
          · rw [HT.out, List.length_append, List.length_singleton, ← HN.out.1]
          · rw [HT.out, List.flatMap_append, List.flatMap_cons, List.flatMap_nil, List.append_nil]
            exact HO2.out
        case measure => simp [intOf]; omega
      · have q := str_eqB r.path p
        rw [decide_eq_false hp] at q
        rw [if_neg hp, List.append_nil] at HT
        have HN : Hid (n = (logOf (revs.take (k + 1)) p).length ∧ Below W1.heap.size W1 V1 ∧ V1.ownsRow W1.heap.size 40 12 (.slice A n c) n ((logOf (revs.take (k + 1)) p).flatMap Rev.cells)) := Lib.hid (by rw [HT.out]; exact ⟨HI.out.1, below_next HI.out.2.1 hA1, own_below HI.out.2.2 hA1⟩)
        clear hX hA1 hp HT
        go_wp2_with fail
        go_roundw
        case rel => exact ⟨k + 1, n, A, c, by go_num, rfl, by omega, by omega, HN.out⟩
        case measure => simp [intOf]; omega
    · have hke : k = revs.length := by omega
      have HF : Hid (n = (logOf revs p).length ∧ Below W1.heap.size W1 wr ∧ wr.ownsRow W1.heap.size 40 12 (.slice A n c) n ((logOf revs p).flatMap Rev.cells)) := Lib.hid (by
        have := HI.out
        rwa [hke, List.take_length] at this)
      clear HI hke
      go_wp2_with fail
      go_ret
      obtain ⟨hn, h1, h2⟩ := HF.out
      subst hn
      exact ⟨A, c, rfl, below_next HA.out h1, Row.of_own h2⟩

/-- What a function leaves that returns a revision, or none. -/
def RevPost (w : World) (o : Option Rev) (e : Ending) (w' : World) : Prop := e = .returned (.tuple #[.agg #[.string (someR o).path, .int .i64 (someR o).num, .int .i64 (someR o).chg, .int .i64 (someR o).act, .int .i64 (someR o).ty.base, .bool (someR o).ty.k, .bool (someR o).ty.l, .bool (someR o).ty.x, .int .u64 (someR o).sum, .int .i64 (someR o).size, .string (someR o).frm, .int .i64 (someR o).fnum], .bool o.isSome]) ∧ Below w.heap.size w w'
set_option maxRecDepth 100000 in
set_option maxHeartbeats 4000000 in
theorem refLast_any (revs : List Rev) (p : ByteArray) (dv dr : Value) (w : World) (hR : Revs w dv revs) (hl : revs.length ≤ 1000000) :
    Calls Tryz.prog 122 #[.agg #[dv, dr], .string p] w (RevPost w (rLast revs p)) := by
  obtain ⟨Ar, cr, rfl, -⟩ := id hR
  have HR := Lib.hid hR
  clear hR
  have HLN := Lib.hid (log_len revs p)
  go_enter Tryz.func122, Tryz.ntmps122
  have hb0 : Below w.heap.size w ((w.alloc (.cells #[.slice Ar revs.length cr, dr] 31)).alloc (.cells #[.string ⟨#[]⟩, .int .i64 0, .int .i64 0, .int .i64 0, .int .i64 0, .bool false, .bool false, .bool false, .int .u64 0, .int .i64 0, .string ⟨#[]⟩, .int .i64 0] 40)) := ((Below.refl _ _).alloc (Nat.le_refl _) _).alloc (by simp) _
  have hZ : Blk ((w.alloc (.cells #[.slice Ar revs.length cr, dr] 31)).alloc (.cells #[.string ⟨#[]⟩, .int .i64 0, .int .i64 0, .int .i64 0, .int .i64 0, .bool false, .bool false, .bool false, .int .u64 0, .int .i64 0, .string ⟨#[]⟩, .int .i64 0] 40)) (w.heap.size + 1) 40 [.string ⟨#[]⟩, .int .i64 0, .int .i64 0, .int .i64 0, .int .i64 0, .bool false, .bool false, .bool false, .int .u64 0, .int .i64 0, .string ⟨#[]⟩, .int .i64 0] := by
    have h1 := blk_new (w.alloc (.cells #[.slice Ar revs.length cr, dr] 31)) [.string ⟨#[]⟩, .int .i64 0, .int .i64 0, .int .i64 0, .int .i64 0, .bool false, .bool false, .bool false, .int .u64 0, .int .i64 0, .string ⟨#[]⟩, .int .i64 0] 40
    simp only [World.size_alloc] at h1
    exact h1
  have hB : Blk ((w.alloc (.cells #[.slice Ar revs.length cr, dr] 31)).alloc (.cells #[.string ⟨#[]⟩, .int .i64 0, .int .i64 0, .int .i64 0, .int .i64 0, .bool false, .bool false, .bool false, .int .u64 0, .int .i64 0, .string ⟨#[]⟩, .int .i64 0] 40)) w.heap.size 31 [.slice Ar revs.length cr, dr] := (blk_new w _ _).alloc _
  go_upto_region 1 with fail
  generalize (w.alloc (.cells #[.slice Ar revs.length cr, dr] 31)).alloc (.cells #[.string ⟨#[]⟩, .int .i64 0, .int .i64 0, .int .i64 0, .int .i64 0, .bool false, .bool false, .bool false, .int .u64 0, .int .i64 0, .string ⟨#[]⟩, .int .i64 0] 40) = W1 at hb0 hZ hB ⊢
  obtain ⟨d0, d1, -, -⟩ := box2 hB
  have HL := Lib.hid (refLog_any revs p (.slice Ar revs.length cr) dr W1 (HR.out.below hb0) hl)
  have Hb0 := Lib.hid hb0
  have HZ := Lib.hid hZ
  clear hb0 hZ hB
  go_wp2_with fail
  refine HL.out.mono ?_
  rintro e w2 ⟨A, c, rfl, hb2, hL⟩
  clear d0 d1
  have HB2 := Lib.hid hb2
  have HLL := Lib.hid hL
  have hZ2 := HZ.out.below hb2 HZ.out.lt
  obtain ⟨z0, z1, z2, z3, z4, z5, z6, z7, z8, z9, z10, z11⟩ := box12 hZ2
  obtain ⟨y0, y1, y2, y3, y4, y5, y6, y7, y8, y9, y10, y11⟩ := frz12 hZ2
  clear hb2 hL HL
  have HRL : Hid (rLast revs p = (logOf revs p).getLast?) := Lib.hid rfl
  have hll : (logOf revs p).length ≤ revs.length := HLN.out
  generalize logOf revs p = L at HLL hll HRL ⊢
  by_cases h0 : L.length = 0
  · have HN : Hid (rLast revs p = none) := Lib.hid (by rw [HRL.out, List.length_eq_zero_iff.1 h0]; rfl)
    have q : ((L.length : Int) == 0) = true := by rw [beq_iff_eq]; omega
    clear h0
    go_wp2_with fail
    have hZ9 : Blk ((((((((((((w2.setCell ⟨w.heap.size + 1, 0, none⟩ (.string ⟨#[]⟩)).setCell ⟨w.heap.size + 1, 1, none⟩ (.int .i64 0)).setCell ⟨w.heap.size + 1, 2, none⟩ (.int .i64 0)).setCell ⟨w.heap.size + 1, 3, none⟩ (.int .i64 0)).setCell ⟨w.heap.size + 1, 4, none⟩ (.int .i64 0)).setCell ⟨w.heap.size + 1, 5, none⟩ (.bool false)).setCell ⟨w.heap.size + 1, 6, none⟩ (.bool false)).setCell ⟨w.heap.size + 1, 7, none⟩ (.bool false)).setCell ⟨w.heap.size + 1, 8, none⟩ (.int .u64 0)).setCell ⟨w.heap.size + 1, 9, none⟩ (.int .i64 0)).setCell ⟨w.heap.size + 1, 10, none⟩ (.string ⟨#[]⟩)).setCell ⟨w.heap.size + 1, 11, none⟩ (.int .i64 0)) (w.heap.size + 1) 40 [.string ⟨#[]⟩, .int .i64 0, .int .i64 0, .int .i64 0, .int .i64 0, .bool false, .bool false, .bool false, .int .u64 0, .int .i64 0, .string ⟨#[]⟩, .int .i64 0] := set12 hZ2 zeroRev
    have hB9 : Below w.heap.size w ((((((((((((w2.setCell ⟨w.heap.size + 1, 0, none⟩ (.string ⟨#[]⟩)).setCell ⟨w.heap.size + 1, 1, none⟩ (.int .i64 0)).setCell ⟨w.heap.size + 1, 2, none⟩ (.int .i64 0)).setCell ⟨w.heap.size + 1, 3, none⟩ (.int .i64 0)).setCell ⟨w.heap.size + 1, 4, none⟩ (.int .i64 0)).setCell ⟨w.heap.size + 1, 5, none⟩ (.bool false)).setCell ⟨w.heap.size + 1, 6, none⟩ (.bool false)).setCell ⟨w.heap.size + 1, 7, none⟩ (.bool false)).setCell ⟨w.heap.size + 1, 8, none⟩ (.int .u64 0)).setCell ⟨w.heap.size + 1, 9, none⟩ (.int .i64 0)).setCell ⟨w.heap.size + 1, 10, none⟩ (.string ⟨#[]⟩)).setCell ⟨w.heap.size + 1, 11, none⟩ (.int .i64 0)) := below12 (below_next Hb0.out HB2.out) (show w.heap.size ≤ w.heap.size + 1 by omega) zeroRev
    generalize ((((((((((((w2.setCell ⟨w.heap.size + 1, 0, none⟩ (.string ⟨#[]⟩)).setCell ⟨w.heap.size + 1, 1, none⟩ (.int .i64 0)).setCell ⟨w.heap.size + 1, 2, none⟩ (.int .i64 0)).setCell ⟨w.heap.size + 1, 3, none⟩ (.int .i64 0)).setCell ⟨w.heap.size + 1, 4, none⟩ (.int .i64 0)).setCell ⟨w.heap.size + 1, 5, none⟩ (.bool false)).setCell ⟨w.heap.size + 1, 6, none⟩ (.bool false)).setCell ⟨w.heap.size + 1, 7, none⟩ (.bool false)).setCell ⟨w.heap.size + 1, 8, none⟩ (.int .u64 0)).setCell ⟨w.heap.size + 1, 9, none⟩ (.int .i64 0)).setCell ⟨w.heap.size + 1, 10, none⟩ (.string ⟨#[]⟩)).setCell ⟨w.heap.size + 1, 11, none⟩ (.int .i64 0)) = W9 at hZ9 hB9 ⊢
    obtain ⟨e0, e1, e2, e3, e4, e5, e6, e7, e8, e9, e10, e11⟩ := box12 hZ9
    exact bodyPost_ret (v := .tuple #[.agg #[.string ⟨#[]⟩, .int .i64 0, .int .i64 0, .int .i64 0, .int .i64 0, .bool false, .bool false, .bool false, .int .u64 0, .int .i64 0, .string ⟨#[]⟩, .int .i64 0], .bool false]) (by simp [results, Tryz.results122, go_sem, e0, e1, e2, e3, e4, e5, e6, e7, e8, e9, e10, e11]) rfl ⟨by rw [HN.out]; rfl, hB9⟩
  · have hk : L.length - 1 < L.length := by omega
    obtain ⟨ad, rfl, hab, hld⟩ := Revs.at_ HLL.out hk
    have HN : Hid (rLast revs p = some L[L.length - 1]) := Lib.hid (by rw [HRL.out, List.getLast?_eq_getElem?, List.getElem?_eq_getElem hk])
    have q : ((L.length : Int) == 0) = false := by rw [beq_eq_false_iff_ne]; omega
    obtain ⟨j, hj⟩ : ∃ j : Nat, j = L.length - 1 := ⟨_, rfl⟩
    have hjz : (L.length : Int) - 1 = (j : Int) := by omega
    have hjl : (j : Int) < (L.length : Int) := by omega
    have hj0 : 0 ≤ (j : Int) := by omega
    generalize L[L.length - 1] = r at hld HN
    rw [← hj] at hld
    obtain ⟨x0, x1, x2, x3, x4, x5, x6, x7, x8, x9, x10, x11⟩ := hld
    clear h0 hk hj
    go_wp2_with fail
    have hZ9 := set12 hZ2 r
    have hB9 := below12 (below_next Hb0.out HB2.out) (show w.heap.size ≤ w.heap.size + 1 by omega) r
    generalize ((((((((((((w2.setCell ⟨w.heap.size + 1, 0, none⟩ (.string r.path)).setCell ⟨w.heap.size + 1, 1, none⟩ (.int .i64 r.num)).setCell ⟨w.heap.size + 1, 2, none⟩ (.int .i64 r.chg)).setCell ⟨w.heap.size + 1, 3, none⟩ (.int .i64 r.act)).setCell ⟨w.heap.size + 1, 4, none⟩ (.int .i64 r.ty.base)).setCell ⟨w.heap.size + 1, 5, none⟩ (.bool r.ty.k)).setCell ⟨w.heap.size + 1, 6, none⟩ (.bool r.ty.l)).setCell ⟨w.heap.size + 1, 7, none⟩ (.bool r.ty.x)).setCell ⟨w.heap.size + 1, 8, none⟩ (.int .u64 r.sum)).setCell ⟨w.heap.size + 1, 9, none⟩ (.int .i64 r.size)).setCell ⟨w.heap.size + 1, 10, none⟩ (.string r.frm)).setCell ⟨w.heap.size + 1, 11, none⟩ (.int .i64 r.fnum)) = W9 at hZ9 hB9 ⊢
    obtain ⟨e0, e1, e2, e3, e4, e5, e6, e7, e8, e9, e10, e11⟩ := box12 hZ9
    exact bodyPost_ret (v := .tuple #[.agg #[.string r.path, .int .i64 r.num, .int .i64 r.chg, .int .i64 r.act, .int .i64 r.ty.base, .bool r.ty.k, .bool r.ty.l, .bool r.ty.x, .int .u64 r.sum, .int .i64 r.size, .string r.frm, .int .i64 r.fnum], .bool true]) (by simp [results, Tryz.results122, go_sem, e0, e1, e2, e3, e4, e5, e6, e7, e8, e9, e10, e11]) rfl ⟨by rw [HN.out]; rfl, hB9⟩
theorem find_take {α : Type} (l : List α) (f : α → Bool) (k : Nat) (h : k < l.length) (hn : (l.take k).find? f = none) : (f l[k] = true → l.find? f = some l[k]) ∧ (f l[k] = false → (l.take (k + 1)).find? f = none) := by
  have hl : l = l.take k ++ l[k] :: l.drop (k + 1) := by rw [List.getElem_cons_drop, List.take_append_drop]
  refine ⟨fun hf => ?_, fun hf => ?_⟩
  · conv => lhs; rw [hl]
    rw [List.find?_append, hn, List.find?_cons_of_pos hf]; rfl
  · rw [List.take_succ_eq_append_getElem h, List.find?_append, hn, List.find?_cons_of_neg (by rw [hf]; simp)]; rfl
set_option maxRecDepth 100000 in
set_option maxHeartbeats 4000000 in
theorem refGet_any (revs : List Rev) (p : ByteArray) (m : Int) (dv dr : Value) (w : World) (hR : Revs w dv revs) (hl : revs.length ≤ 1000000) :
    Calls Tryz.prog 123 #[.agg #[dv, dr], .string p, .int .i64 m] w (RevPost w (rGet revs p m)) := by
  obtain ⟨Ar, cr, rfl, -⟩ := id hR
  have HR := Lib.hid hR
  clear hR
  have HLN := Lib.hid (log_len revs p)
  go_enter Tryz.func123, Tryz.ntmps123
  have hb0 : Below w.heap.size w ((w.alloc (.cells #[.slice Ar revs.length cr, dr] 31)).alloc (.cells #[.string ⟨#[]⟩, .int .i64 0, .int .i64 0, .int .i64 0, .int .i64 0, .bool false, .bool false, .bool false, .int .u64 0, .int .i64 0, .string ⟨#[]⟩, .int .i64 0] 40)) := ((Below.refl _ _).alloc (Nat.le_refl _) _).alloc (by simp) _
  have hZ : Blk ((w.alloc (.cells #[.slice Ar revs.length cr, dr] 31)).alloc (.cells #[.string ⟨#[]⟩, .int .i64 0, .int .i64 0, .int .i64 0, .int .i64 0, .bool false, .bool false, .bool false, .int .u64 0, .int .i64 0, .string ⟨#[]⟩, .int .i64 0] 40)) (w.heap.size + 1) 40 [.string ⟨#[]⟩, .int .i64 0, .int .i64 0, .int .i64 0, .int .i64 0, .bool false, .bool false, .bool false, .int .u64 0, .int .i64 0, .string ⟨#[]⟩, .int .i64 0] := by
    have h1 := blk_new (w.alloc (.cells #[.slice Ar revs.length cr, dr] 31)) [.string ⟨#[]⟩, .int .i64 0, .int .i64 0, .int .i64 0, .int .i64 0, .bool false, .bool false, .bool false, .int .u64 0, .int .i64 0, .string ⟨#[]⟩, .int .i64 0] 40
    simp only [World.size_alloc] at h1
    exact h1
  have hB : Blk ((w.alloc (.cells #[.slice Ar revs.length cr, dr] 31)).alloc (.cells #[.string ⟨#[]⟩, .int .i64 0, .int .i64 0, .int .i64 0, .int .i64 0, .bool false, .bool false, .bool false, .int .u64 0, .int .i64 0, .string ⟨#[]⟩, .int .i64 0] 40)) w.heap.size 31 [.slice Ar revs.length cr, dr] := (blk_new w _ _).alloc _
  go_upto_region 1 with fail
  generalize (w.alloc (.cells #[.slice Ar revs.length cr, dr] 31)).alloc (.cells #[.string ⟨#[]⟩, .int .i64 0, .int .i64 0, .int .i64 0, .int .i64 0, .bool false, .bool false, .bool false, .int .u64 0, .int .i64 0, .string ⟨#[]⟩, .int .i64 0] 40) = W1 at hb0 hZ hB ⊢
  obtain ⟨d0, d1, -, -⟩ := box2 hB
  have HL := Lib.hid (refLog_any revs p (.slice Ar revs.length cr) dr W1 (HR.out.below hb0) hl)
  have Hb0 := Lib.hid hb0
  have HZ := Lib.hid hZ
  clear hb0 hZ hB
  go_wp2_with fail
  refine HL.out.mono ?_
  rintro e w2 ⟨A, c, rfl, hb2, hL⟩
  clear d0 d1
  have HB2 := Lib.hid hb2
  have HLL := Lib.hid hL
  have HZ2 := Lib.hid (HZ.out.below hb2 HZ.out.lt)
  obtain ⟨A', c', e, hcc, hmm, -⟩ := id hL
  injection e with e1 e2 e3
  subst e1 e3
  unfold maxLen at hmm
  clear hb2 hL HL e2
  have HRG : Hid (rGet revs p m = (logOf revs p).find? (fun v => decide (v.num = m))) := Lib.hid rfl
  have hll : (logOf revs p).length ≤ revs.length := HLN.out
  generalize logOf revs p = L at HLL hll hcc HRG ⊢
  go_wp2_with fail
  go_loopw [14] (fun s wr => ∃ k : Nat, s = .int .i64 k ∧ k ≤ L.length ∧ Hid ((L.take k).find? (fun v => decide (v.num = m)) = none ∧ Below w2.heap.size w2 wr)) (fun s _ => L.length - (intOf s).toNat)
  case atStart => exact ⟨0, rfl, Nat.zero_le _, by rw [List.take_zero]; rfl, Below.refl _ _⟩
  case round =>
    obtain ⟨k, rfl, hk, HI⟩ := hrel
    by_cases hlt : k < L.length
    · obtain ⟨ad, rfl, hab, hld⟩ := Revs.at_ (HLL.out.below HI.out.2) hlt
      have HFT := Lib.hid (find_take L (fun v => decide (v.num = m)) k hlt HI.out.1)
      generalize L[k] = r at hld HFT
      obtain ⟨x0, x1, x2, x3, x4, x5, x6, x7, x8, x9, x10, x11⟩ := hld
      have hX := blk_new wr [.string r.path, .int .i64 r.num, .int .i64 r.chg, .int .i64 r.act, .int .i64 r.ty.base, .bool r.ty.k, .bool r.ty.l, .bool r.ty.x, .int .u64 r.sum, .int .i64 r.size, .string r.frm, .int .i64 r.fnum] 40
      have hA1 := HI.out.2.alloc HI.out.2.size (.cells #[.string r.path, .int .i64 r.num, .int .i64 r.chg, .int .i64 r.act, .int .i64 r.ty.base, .bool r.ty.k, .bool r.ty.l, .bool r.ty.x, .int .u64 r.sum, .int .i64 r.size, .string r.frm, .int .i64 r.fnum] 40)
      go_upto_region 4 with fail
      clear x0 x1 x2 x3 x4 x5 x6 x7 x8 x9 x10 x11
      generalize wr.alloc (.cells #[.string r.path, .int .i64 r.num, .int .i64 r.chg, .int .i64 r.act, .int .i64 r.ty.base, .bool r.ty.k, .bool r.ty.l, .bool r.ty.x, .int .u64 r.sum, .int .i64 r.size, .string r.frm, .int .i64 r.fnum] 40) = V1 at hX hA1 ⊢
      obtain ⟨x0, x1, x2, x3, x4, x5, x6, x7, x8, x9, x10, x11⟩ := box12 hX
      have HA1 := Lib.hid hA1
      clear hX hA1
      by_cases hn : r.num = m
      · have q : (r.num == m) = true := by simpa using hn
        have HF := Lib.hid (HFT.out.1 (by simpa using hn))
        have hZ3 := HZ2.out.below HA1.out HZ2.out.lt
        obtain ⟨z0, z1, z2, z3, z4, z5, z6, z7, z8, z9, z10, z11⟩ := box12 hZ3
        obtain ⟨y0, y1, y2, y3, y4, y5, y6, y7, y8, y9, y10, y11⟩ := frz12 hZ3
        clear hn
        go_wp2_with fail
        have hZ9 := set12 hZ3 r
        have hB9 := below12 (below_next Hb0.out (below_next HB2.out HA1.out)) (show w.heap.size ≤ w.heap.size + 1 by omega) r
        generalize ((((((((((((V1.setCell ⟨w.heap.size + 1, 0, none⟩ (.string r.path)).setCell ⟨w.heap.size + 1, 1, none⟩ (.int .i64 r.num)).setCell ⟨w.heap.size + 1, 2, none⟩ (.int .i64 r.chg)).setCell ⟨w.heap.size + 1, 3, none⟩ (.int .i64 r.act)).setCell ⟨w.heap.size + 1, 4, none⟩ (.int .i64 r.ty.base)).setCell ⟨w.heap.size + 1, 5, none⟩ (.bool r.ty.k)).setCell ⟨w.heap.size + 1, 6, none⟩ (.bool r.ty.l)).setCell ⟨w.heap.size + 1, 7, none⟩ (.bool r.ty.x)).setCell ⟨w.heap.size + 1, 8, none⟩ (.int .u64 r.sum)).setCell ⟨w.heap.size + 1, 9, none⟩ (.int .i64 r.size)).setCell ⟨w.heap.size + 1, 10, none⟩ (.string r.frm)).setCell ⟨w.heap.size + 1, 11, none⟩ (.int .i64 r.fnum)) = W9 at hZ9 hB9 ⊢
        obtain ⟨e0, e1, e2, e3, e4, e5, e6, e7, e8, e9, e10, e11⟩ := box12 hZ9
        exact bodyPost_ret (v := .tuple #[.agg #[.string r.path, .int .i64 r.num, .int .i64 r.chg, .int .i64 r.act, .int .i64 r.ty.base, .bool r.ty.k, .bool r.ty.l, .bool r.ty.x, .int .u64 r.sum, .int .i64 r.size, .string r.frm, .int .i64 r.fnum], .bool true]) (by simp [results, Tryz.results123, go_sem, e0, e1, e2, e3, e4, e5, e6, e7, e8, e9, e10, e11]) rfl ⟨by rw [HRG.out, HF.out]; rfl, hB9⟩
      · have q : (r.num == m) = false := by simpa using hn
        have HF := Lib.hid (HFT.out.2 (by simpa using hn))
        clear hn
        go_wp2_with fail
        go_roundw
        case rel => exact ⟨k + 1, by go_num, by omega, HF.out, HA1.out⟩
        case measure => simp [intOf]; omega
    · have hke : k = L.length := by omega
      have HF : Hid (L.find? (fun v => decide (v.num = m)) = none) := Lib.hid (by have := HI.out.1; rwa [hke, List.take_length] at this)
      have hZ3 := HZ2.out.below HI.out.2 HZ2.out.lt
      obtain ⟨z0, z1, z2, z3, z4, z5, z6, z7, z8, z9, z10, z11⟩ := box12 hZ3
      obtain ⟨y0, y1, y2, y3, y4, y5, y6, y7, y8, y9, y10, y11⟩ := frz12 hZ3
      clear hke
      go_wp2_with fail
      have hZ9 : Blk ((((((((((((wr.setCell ⟨w.heap.size + 1, 0, none⟩ (.string ⟨#[]⟩)).setCell ⟨w.heap.size + 1, 1, none⟩ (.int .i64 0)).setCell ⟨w.heap.size + 1, 2, none⟩ (.int .i64 0)).setCell ⟨w.heap.size + 1, 3, none⟩ (.int .i64 0)).setCell ⟨w.heap.size + 1, 4, none⟩ (.int .i64 0)).setCell ⟨w.heap.size + 1, 5, none⟩ (.bool false)).setCell ⟨w.heap.size + 1, 6, none⟩ (.bool false)).setCell ⟨w.heap.size + 1, 7, none⟩ (.bool false)).setCell ⟨w.heap.size + 1, 8, none⟩ (.int .u64 0)).setCell ⟨w.heap.size + 1, 9, none⟩ (.int .i64 0)).setCell ⟨w.heap.size + 1, 10, none⟩ (.string ⟨#[]⟩)).setCell ⟨w.heap.size + 1, 11, none⟩ (.int .i64 0)) (w.heap.size + 1) 40 [.string ⟨#[]⟩, .int .i64 0, .int .i64 0, .int .i64 0, .int .i64 0, .bool false, .bool false, .bool false, .int .u64 0, .int .i64 0, .string ⟨#[]⟩, .int .i64 0] := set12 hZ3 zeroRev
      have hB9 : Below w.heap.size w ((((((((((((wr.setCell ⟨w.heap.size + 1, 0, none⟩ (.string ⟨#[]⟩)).setCell ⟨w.heap.size + 1, 1, none⟩ (.int .i64 0)).setCell ⟨w.heap.size + 1, 2, none⟩ (.int .i64 0)).setCell ⟨w.heap.size + 1, 3, none⟩ (.int .i64 0)).setCell ⟨w.heap.size + 1, 4, none⟩ (.int .i64 0)).setCell ⟨w.heap.size + 1, 5, none⟩ (.bool false)).setCell ⟨w.heap.size + 1, 6, none⟩ (.bool false)).setCell ⟨w.heap.size + 1, 7, none⟩ (.bool false)).setCell ⟨w.heap.size + 1, 8, none⟩ (.int .u64 0)).setCell ⟨w.heap.size + 1, 9, none⟩ (.int .i64 0)).setCell ⟨w.heap.size + 1, 10, none⟩ (.string ⟨#[]⟩)).setCell ⟨w.heap.size + 1, 11, none⟩ (.int .i64 0)) := below12 (below_next Hb0.out (below_next HB2.out HI.out.2)) (show w.heap.size ≤ w.heap.size + 1 by omega) zeroRev
      generalize ((((((((((((wr.setCell ⟨w.heap.size + 1, 0, none⟩ (.string ⟨#[]⟩)).setCell ⟨w.heap.size + 1, 1, none⟩ (.int .i64 0)).setCell ⟨w.heap.size + 1, 2, none⟩ (.int .i64 0)).setCell ⟨w.heap.size + 1, 3, none⟩ (.int .i64 0)).setCell ⟨w.heap.size + 1, 4, none⟩ (.int .i64 0)).setCell ⟨w.heap.size + 1, 5, none⟩ (.bool false)).setCell ⟨w.heap.size + 1, 6, none⟩ (.bool false)).setCell ⟨w.heap.size + 1, 7, none⟩ (.bool false)).setCell ⟨w.heap.size + 1, 8, none⟩ (.int .u64 0)).setCell ⟨w.heap.size + 1, 9, none⟩ (.int .i64 0)).setCell ⟨w.heap.size + 1, 10, none⟩ (.string ⟨#[]⟩)).setCell ⟨w.heap.size + 1, 11, none⟩ (.int .i64 0)) = W9 at hZ9 hB9 ⊢
      obtain ⟨e0, e1, e2, e3, e4, e5, e6, e7, e8, e9, e10, e11⟩ := box12 hZ9
      exact bodyPost_ret (v := .tuple #[.agg #[.string ⟨#[]⟩, .int .i64 0, .int .i64 0, .int .i64 0, .int .i64 0, .bool false, .bool false, .bool false, .int .u64 0, .int .i64 0, .string ⟨#[]⟩, .int .i64 0], .bool false]) (by simp [results, Tryz.results123, go_sem, e0, e1, e2, e3, e4, e5, e6, e7, e8, e9, e10, e11]) rfl ⟨by rw [HRG.out, HF.out]; rfl, hB9⟩
end Go.Proofs.YtnblfaagchflaaaGreatDoor
