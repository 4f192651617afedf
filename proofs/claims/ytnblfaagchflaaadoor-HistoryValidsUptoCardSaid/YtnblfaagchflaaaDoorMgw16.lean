/- Plain: the reference's examination of a record answers as the program's. -/
import Derived.Test.YtnblfaagchflaaaDoorMgw14
import Derived.Test.YtnblfaagchflaaaDoorMgw13
namespace Go.Proofs.YtnblfaagchflaaaDoor
open Go.RowKit
set_option linter.unusedVariables false
set_option linter.unusedSimpArgs false

theorem editsOf_has {es : List Edt} (hn : (es.map (·.path)).Nodup) {e : Edt} (he : e ∈ es) : editsOf es e.path = some e := by
  have hfar : ∀ (l : List Edt) (f : ByteArray → Option Edt) (p : ByteArray), p ∉ l.map (·.path) → l.foldl (fun f e => upd f e.path e) f p = f p := by
    intro l
    induction l with
    | nil => intro f p _; rfl
    | cons x l ih =>
      intro f p hp
      rw [List.map_cons, List.mem_cons, not_or] at hp
      rw [List.foldl_cons, ih _ _ hp.2]
      unfold upd; rw [if_neg hp.1]
  have key : ∀ (l : List Edt) (f : ByteArray → Option Edt), (l.map (·.path)).Nodup → e ∈ l → l.foldl (fun f e => upd f e.path e) f e.path = some e := by
    intro l
    induction l with
    | nil => intro f _ h; cases h
    | cons x l ih =>
      intro f hn he
      rw [List.map_cons, List.nodup_cons] at hn
      rw [List.foldl_cons]
      rcases List.mem_cons.1 he with rfl | he
      · rw [hfar _ _ _ hn.1]; unfold upd; rw [if_pos rfl]
      · exact ih _ hn.2 he
  exact key es _ hn he
/-- The edit into which a record leads, by the reference. -/
def tgtM (x : Rcd) (o : Option Edt) (y : Edt) : Option Edt := if y.path = x.to ∧ y.base + 1 = x.num ∧ y.act ≠ 5 then some y else o
def tgt (es : List Edt) (x : Rcd) : Option Edt := es.foldl (tgtM x) none
theorem tgt_mem {es : List Edt} {x : Rcd} {t : Edt} (h : tgt es x = some t) : t ∈ es ∧ t.path = x.to ∧ t.base + 1 = x.num ∧ t.act ≠ 5 := by
  suffices H : ∀ (l : List Edt) (o : Option Edt) (S : Edt → Prop), (∀ y, o = some y → S y ∧ y.path = x.to ∧ y.base + 1 = x.num ∧ y.act ≠ 5) → (∀ y ∈ l, S y) → l.foldl (tgtM x) o = some t → S t ∧ t.path = x.to ∧ t.base + 1 = x.num ∧ t.act ≠ 5 by
    exact H es none (fun y => y ∈ es) (fun y hy => by cases hy) (fun y hy => hy) h
  intro l
  induction l with
  | nil => intro o S ho _ h; exact ho t h
  | cons z l ih =>
    intro o S ho hl h
    refine ih (tgtM x o z) S (fun y hy => ?_) (fun y hy => hl y (List.mem_cons_of_mem _ hy)) h
    unfold tgtM at hy
    split at hy
    · rename_i hc
      injection hy with hy
      subst hy
      exact ⟨hl _ (List.mem_cons_self ..), hc⟩
    · exact ho y hy
theorem tgt_has {es : List Edt} (hn : (es.map (·.path)).Nodup) {x : Rcd} {t : Edt} (ht : t ∈ es) (h1 : t.path = x.to) (h2 : t.base + 1 = x.num) (h3 : t.act ≠ 5) : tgt es x = some t := by
  have hsome : ∀ (l : List Edt) (o : Option Edt), (o.isSome = true ∨ t ∈ l) → (l.foldl (tgtM x) o).isSome = true := by
    intro l
    induction l with
    | nil => intro o h; rcases h with h | h
             · exact h
             · cases h
    | cons z l ih =>
      intro o h
      rw [List.foldl_cons]
      apply ih
      rcases h with h | h
      · left; unfold tgtM; split
        · rfl
        · exact h
      · rcases List.mem_cons.1 h with rfl | h
        · left; unfold tgtM; rw [if_pos ⟨h1, h2, h3⟩]; rfl
        · exact .inr h
  obtain ⟨u, hu⟩ := Option.isSome_iff_exists.1 (hsome es none (.inr ht))
  have hu' : tgt es x = some u := hu
  obtain ⟨a, b, -⟩ := tgt_mem hu'
  have e1 := editsOf_has hn a
  have e2 := editsOf_has hn ht
  rw [b] at e1
  rw [h1, e1] at e2
  injection e2 with e2
  rw [hu', e2]
def ignB (rs : List Rcd) (x : Rcd) : Bool := rs.all fun y => decide (y.to ≠ x.to ∨ y.num ≠ x.num ∨ y.how = 3)
def atR (D : List Rev) (p : ByteArray) (n : Int) : Rev := (rGet D p n).getD zeroRev
def refLine (D : List Rev) (x : Rcd) : Fil := rFirst D (atR D x.frm x.last)
def refSteps (D : List Rev) (x : Rcd) : Bool := (List.range (x.last - x.first + 1).toNat).all fun (i : Nat) => decide ((atR D x.frm (x.first + i)).act ≠ 5) && decide (rFirst D (atR D x.frm (x.first + i)) = refLine D x)
def refCopy (D : List Rev) (t : Edt) (x : Rcd) : Bool := if x.how = 1 then (decide ((atR D x.frm x.last).act = 3) == decide (t.act = 3)) && (decide ((atR D x.frm x.last).act = 3) || (decide ((atR D x.frm x.last).ty = t.ty) && decide ((atR D x.frm x.last).sum = t.sum) && decide ((atR D x.frm x.last).size = t.size))) else true
def refIgn (D : List Rev) (rs : List Rcd) (t : Edt) (x : Rcd) : Bool := if ignB rs x then decide (t.act = 2) && decide (t.ty = (atR D x.to t.base).ty) && decide (t.sum = (atR D x.to t.base).sum) && decide (t.size = (atR D x.to t.base).size) else true
/-- A record's examination by the reference, its place among the others aside. -/
def refRec (D : List Rev) (c : Chg) (x : Rcd) : Bool :=
  decide (1 ≤ x.how ∧ x.how ≤ 4) && match tgt c.edits x with
    | none => false
    | some t => decide (1 ≤ x.first ∧ x.first ≤ x.last ∧ x.last ≤ (logOf D x.frm).length) && refSteps D x && (decide (t.act = 1) || !decide (rFirst D ((rPrev D (madeR (lastOf D) c.num t)).getD zeroRev) = refLine D x)) && refCopy D t x && refIgn D c.recs t x

theorem LineOk.some_ {D : List Rev} (hL : LineOk D) {f l : Fil} (h : linesOf D f = some l) : ∃ v ∈ D, v.act ≠ 5 ∧ (v.path, v.num) = f ∧ l = rFirst D v := by
  apply Classical.byContradiction
  intro hn
  have := hL.none_ f fun v hv h5 e => hn ⟨v, hv, h5, e, by
    have h2 := hL.live v hv h5
    rw [e, h] at h2
    injection h2⟩
  rw [this] at h
  cases h
theorem DepOk.line_at {d : Dep} (h : DepOk d) {p : ByteArray} {n : Int} {l : Fil} (hl : linesOf d.revs (p, n) = some l) : ∃ v, rGet d.revs p n = some v ∧ v.act ≠ 5 ∧ l = rFirst d.revs v := by
  obtain ⟨v, hv, h5, e, hr⟩ := h.line.some_ hl
  injection e with e1 e2
  subst e1 e2
  exact ⟨v, (h.log _).rget hv rfl, h5, hr⟩
theorem DepOk.at_line {d : Dep} (h : DepOk d) {p : ByteArray} {n : Int} {v : Rev} (hv : rGet d.revs p n = some v) (h5 : v.act ≠ 5) : linesOf d.revs (p, n) = some (rFirst d.revs v) := by
  obtain ⟨a, b, c⟩ := rGet_mem hv
  have := h.line.live v a h5
  rwa [b, c] at this
/-- The line that a revision that an edit makes would be of. -/
theorem target_line {d : Dep} {c : Chg} (h : DepOk d) (hs : ∀ r ∈ d.revs, r.chg < c.num) (h2 : everyE (lastOf d.revs) emptyS c.edits = 0) {e : Edt} (he : e ∈ c.edits) (h5 : e.act ≠ 5) {l : Fil} {v : Rev} (hv : v ∈ d.revs) (hl : l = rFirst d.revs v) :
    (l = lineV (linesOf d.revs) (madeR (lastOf d.revs) c.num e)) ↔ (e.act ≠ 1 ∧ rFirst d.revs ((rPrev d.revs (madeR (lastOf d.revs) c.num e)).getD zeroRev) = l) := by
  rcases made_prev2 h.log hs h2 he with a1 | ⟨u, u1, u2, u3, u4⟩
  · unfold lineV
    rw [if_pos (show (madeR (lastOf d.revs) c.num e).act = 1 from a1)]
    constructor
    · intro hh
      exfalso
      obtain ⟨x, hx, e1⟩ := rFirst_in h.prev hv
      rw [hl, e1] at hh
      injection hh with k1 k2
      have := last_bound h.log hx
      rw [k1] at this
      have k2' : x.num = (lastR (lastOf d.revs) e.path).num + 1 := k2
      have k3 : (lastR (lastOf d.revs) (madeR (lastOf d.revs) c.num e).path).num = (lastR (lastOf d.revs) e.path).num := rfl
      omega
    · rintro ⟨hh, -⟩; exact absurd a1 hh
  · have hu := rPrev_mem u1
    have ha1 : e.act ≠ 1 := by
      intro a1
      unfold rPrev at u1
      rw [if_pos (show (madeR (lastOf d.revs) c.num e).act = 1 from a1)] at u1
      cases u1
    rw [u1]
    have hgu : linesOf d.revs (u.path, u.num) = some (rFirst d.revs u) := h.line.live u hu (fun k => by rw [k] at u3; cases u3)
    have hL : lineV (linesOf d.revs) (madeR (lastOf d.revs) c.num e) = rFirst d.revs u := by
      unfold lineV
      rw [if_neg (show ¬ (madeR (lastOf d.revs) c.num e).act = 1 from ha1)]
      by_cases a4 : e.act = 4
      · rw [if_pos (show (madeR (lastOf d.revs) c.num e).act = 4 from a4)]
        rw [if_pos a4] at u4
        show (linesOf d.revs (e.frm, e.fnum)).getD zeroFil = _
        rw [← u4, hgu]; rfl
      · rw [if_neg (show ¬ (madeR (lastOf d.revs) c.num e).act = 4 from a4)]
        rw [if_neg a4] at u4
        show (linesOf d.revs (e.path, (lastR (lastOf d.revs) e.path).num + 1 - 1)).getD zeroFil = _
        rw [show (lastR (lastOf d.revs) e.path).num + 1 - 1 = (lastR (lastOf d.revs) e.path).num by omega, ← u4, hgu]; rfl
    rw [hL]
    exact ⟨fun hh => ⟨ha1, hh.symm⟩, fun hh => hh.2.symm⟩
theorem DepOk.num_in {d : Dep} (h : DepOk d) {p : ByteArray} {n : Int} {v : Rev} (hv : rGet d.revs p n = some v) : 1 ≤ n ∧ n ≤ (logOf d.revs p).length := ((h.log p).rget_in n).1 ⟨v, hv⟩
/-- What sourceR finds, in the reference's words. -/
theorem source_iff {d : Dep} (h : DepOk d) (r : Rcd) (target : Fil) (v : Rev) : sourceR d.revs r target = some v ↔ (rGet d.revs r.frm r.last = some v ∧ 1 ≤ r.first ∧ r.first ≤ r.last ∧ r.last ≤ (logOf d.revs r.frm).length ∧ refSteps d.revs r = true ∧ refLine d.revs r ≠ target) := by
  have hg := (h.log r.frm).rget_eq r.last
  constructor
  · intro hS
    unfold sourceR at hS
    rw [← hg] at hS
    cases hv : rGet d.revs r.frm r.last with
    | none => rw [hv] at hS; cases hS
    | some u =>
      rw [hv] at hS
      simp only at hS
      split at hS
      · cases hS
      · rename_i hb
        cases hl : linesOf d.revs (r.frm, r.last) with
        | none => rw [hl] at hS; cases hS
        | some line =>
          rw [hl] at hS
          simp only at hS
          split at hS
          · cases hS
          · rename_i hne
            split at hS
            · rename_i hall
              injection hS with hS
              subst hS
              obtain ⟨w, w1, w2, w3⟩ := h.line_at hl
              rw [hv] at w1
              injection w1 with w1
              subst w1
              have hline : refLine d.revs r = line := by unfold refLine atR; rw [hv]; exact w3.symm
              have hin := h.num_in hv
              refine ⟨rfl, by omega, by omega, hin.2, ?_, by rw [hline]; exact hne⟩
              unfold refSteps
              rw [List.all_eq_true]
              intro i hi
              rw [List.mem_range] at hi
              rw [hline]
              by_cases hlast : r.first + (i : Int) = r.last
              · rw [hlast]
                unfold atR
                rw [hv]
                simp [w2, w3]
              · have hlt : i < (r.last - r.first).toNat := by omega
                have hx := List.all_eq_true.1 hall i (List.mem_range.2 hlt)
                have hx' : linesOf d.revs (r.frm, r.first + (i : Int)) = some line := of_decide_eq_true hx
                obtain ⟨y, y1, y2, y3⟩ := h.line_at hx'
                unfold atR
                rw [y1]
                simp [y2, y3]
            · cases hS
  · rintro ⟨hv, h1, h2, h3, h4, h5⟩
    have hstep : ∀ i : Nat, i < (r.last - r.first + 1).toNat → linesOf d.revs (r.frm, r.first + (i : Int)) = some (refLine d.revs r) := by
      intro i hi
      unfold refSteps at h4
      have := List.all_eq_true.1 h4 i (List.mem_range.2 hi)
      rw [Bool.and_eq_true, decide_eq_true_eq, decide_eq_true_eq] at this
      obtain ⟨w, hw⟩ := ((h.log r.frm).rget_in (r.first + (i : Int))).2 ⟨by omega, by omega⟩
      unfold atR at this
      rw [hw] at this
      simp only [Option.getD_some] at this
      rw [← this.2]
      exact h.at_line hw this.1
    have hll := hstep (r.last - r.first).toNat (by omega)
    rw [show r.first + ((r.last - r.first).toNat : Int) = r.last by omega] at hll
    have hlen : (logOf d.revs r.frm).length ≤ d.revs.length := List.length_filter_le ..
    unfold sourceR
    rw [← hg, hv]
    simp only
    rw [if_neg (by omega), hll]
    simp only
    rw [if_neg h5, if_pos]
    rw [List.all_eq_true]
    intro i hi
    rw [List.mem_range] at hi
    exact decide_eq_true (hstep i (by omega))
end Go.Proofs.YtnblfaagchflaaaDoor
/- Plain: of all records of a change the reference says what the program says. -/
namespace Go.Proofs.YtnblfaagchflaaaDoor
open Go.RowKit
set_option linter.unusedVariables false
set_option linter.unusedSimpArgs false

/-- A record that the program's examination passes: its edit and its source. -/
theorem isRec_iff {d : Dep} {c : Chg} (h : DepOk d) (hs : ∀ r ∈ d.revs, r.chg < c.num) (h2 : everyE (lastOf d.revs) emptyS c.edits = 0) (x : Rcd) :
    isRec d.revs c.num (editsOf c.edits) x = true ↔ ∃ t, tgt c.edits x = some t ∧ 1 ≤ x.how ∧ x.how ≤ 4 ∧ (1 ≤ x.first ∧ x.first ≤ x.last ∧ x.last ≤ (logOf d.revs x.frm).length) ∧ refSteps d.revs x = true ∧ ¬ (t.act ≠ 1 ∧ rFirst d.revs ((rPrev d.revs (madeR (lastOf d.revs) c.num t)).getD zeroRev) = refLine d.revs x) ∧ refCopy d.revs t x = true := by
  obtain ⟨p1, p2⟩ := everyE_paths h2
  have hn := paths_nodup p1
  have hcopy : ∀ (t : Edt) (v : Rev), rGet d.revs x.frm x.last = some v → v.act ≠ 5 → ((if x.how = 1 then (if v.act = 3 then decide (t.act = 3) else (!decide (t.act = 3)) && decide (t.ty = v.ty) && decide (t.sum = v.sum) && decide (t.size = v.size)) else true) = true ↔ refCopy d.revs t x = true) := by
    intro t v hv h5
    have ha : atR d.revs x.frm x.last = v := by unfold atR; rw [hv]; rfl
    unfold refCopy
    rw [ha]
    by_cases h1 : x.how = 1
    · rw [if_pos h1, if_pos h1]
      by_cases h3 : v.act = 3
      · rw [if_pos h3]
        by_cases t3 : t.act = 3 <;> simp [h3, t3]
      · rw [if_neg h3]
        by_cases t3 : t.act = 3
        · simp [h3, t3]
        · simp only [h3, t3, decide_false, Bool.not_false, Bool.true_and, BEq.rfl, Bool.false_or, Bool.and_eq_true, decide_eq_true_eq]
          constructor
          · rintro ⟨⟨a, b⟩, c⟩; exact ⟨⟨a.symm, b.symm⟩, c.symm⟩
          · rintro ⟨⟨a, b⟩, c⟩; exact ⟨⟨a.symm, b.symm⟩, c.symm⟩
    · rw [if_neg h1, if_neg h1]
  have hsrc : ∀ (t : Edt), t ∈ c.edits → t.act ≠ 5 → ∀ v, (sourceR d.revs x (lineV (linesOf d.revs) (madeR (lastOf d.revs) c.num t)) = some v ↔ (rGet d.revs x.frm x.last = some v ∧ (1 ≤ x.first ∧ x.first ≤ x.last ∧ x.last ≤ (logOf d.revs x.frm).length) ∧ refSteps d.revs x = true ∧ ¬ (t.act ≠ 1 ∧ rFirst d.revs ((rPrev d.revs (madeR (lastOf d.revs) c.num t)).getD zeroRev) = refLine d.revs x))) := by
    intro t ht h5 v
    rw [source_iff h]
    constructor
    · rintro ⟨a, b1, b2, b3, b4, b5⟩
      refine ⟨a, ⟨b1, b2, b3⟩, b4, fun hh => b5 ?_⟩
      have hv := (rGet_mem a).1
      have hl : refLine d.revs x = rFirst d.revs v := by unfold refLine atR; rw [a]; rfl
      exact (target_line h hs h2 ht h5 hv hl).2 hh
    · rintro ⟨a, ⟨b1, b2, b3⟩, b4, b5⟩
      refine ⟨a, b1, b2, b3, b4, fun hh => b5 ?_⟩
      have hv := (rGet_mem a).1
      have hl : refLine d.revs x = rFirst d.revs v := by unfold refLine atR; rw [a]; rfl
      exact (target_line h hs h2 ht h5 hv hl).1 hh
  have hact : ∀ v, rGet d.revs x.frm x.last = some v → refSteps d.revs x = true → (1 ≤ x.first ∧ x.first ≤ x.last) → v.act ≠ 5 := by
    intro v hv hst hb
    unfold refSteps at hst
    have := List.all_eq_true.1 hst (x.last - x.first).toNat (List.mem_range.2 (by omega))
    rw [show x.first + ((x.last - x.first).toNat : Int) = x.last by omega, Bool.and_eq_true, decide_eq_true_eq] at this
    have h1 := this.1
    unfold atR at h1
    rw [hv] at h1
    exact h1
  constructor
  · intro hi
    unfold isRec at hi
    cases he : editsOf c.edits x.to with
    | none => rw [he] at hi; cases hi
    | some t =>
      rw [he] at hi
      simp only at hi
      obtain ⟨k1, k2⟩ := editsOf_mem _ _ _ he
      split at hi
      · cases hi
      · rename_i hb
        have h5 : t.act ≠ 5 := by omega
        cases hS : sourceR d.revs x (lineV (linesOf d.revs) (madeR (lastOf d.revs) c.num t)) with
        | none => rw [hS] at hi; cases hi
        | some v =>
          rw [hS] at hi
          simp only at hi
          obtain ⟨a, b, e, f⟩ := (hsrc t k1 h5 v).1 hS
          exact ⟨t, tgt_has hn k1 k2 (by omega) h5, by omega, by omega, b, e, f, (hcopy t v a (hact v a e ⟨b.1, b.2.1⟩)).1 hi⟩
  · rintro ⟨t, ht, w1, w2, b, e, f, g⟩
    obtain ⟨k1, k2, k3, k4⟩ := tgt_mem ht
    have he := editsOf_has hn k1
    rw [k2] at he
    obtain ⟨v, hv⟩ := ((h.log x.frm).rget_in x.last).2 ⟨by omega, b.2.2⟩
    have hS := (hsrc t k1 k4 v).2 ⟨hv, b, e, f⟩
    unfold isRec
    rw [he]
    simp only
    rw [if_neg (by omega), hS]
    exact (hcopy t v hv (hact v hv e ⟨b.1, b.2.1⟩)).2 g
/-- An edit that leaves its file as it is. -/
theorem unchanged_iff {d : Dep} {c : Chg} (h : DepOk d) (h2 : everyE (lastOf d.revs) emptyS c.edits = 0) {t : Edt} (ht : t ∈ c.edits) : unchanged (lastOf d.revs) t = true ↔ (decide (t.act = 2) && decide (t.ty = (atR d.revs t.path t.base).ty) && decide (t.sum = (atR d.revs t.path t.base).sum) && decide (t.size = (atR d.revs t.path t.base).size)) = true := by
  obtain ⟨o1, o2, -, -⟩ := oneE_zero ((everyE_paths h2).2 t ht).2.2
  by_cases a2 : t.act = 2
  · have hadd := actE_zero o1
    have hna : addA t.act = false := by rw [a2]; rfl
    rw [hna] at hadd
    have hlv : isLast (lastOf d.revs) t.path = true := by simpa using hadd.symm
    unfold isLast at hlv
    cases hx : lastOf d.revs t.path with
    | none => rw [hx] at hlv; cases hlv
    | some u =>
      obtain ⟨b1, b2, b3⟩ := last_in (h.log _) hx
      have hR : lastR (lastOf d.revs) t.path = u := by unfold lastR; rw [hx]; rfl
      have hA : atR d.revs t.path t.base = u := by
        unfold atR; rw [o2, hR, b3]; rfl
      unfold unchanged
      rw [hR, hA]
  · unfold unchanged
    simp [a2]
theorem refRec_split {D : List Rev} {c : Chg} {x : Rcd} : refRec D c x = true ↔ ∃ t, tgt c.edits x = some t ∧ 1 ≤ x.how ∧ x.how ≤ 4 ∧ (1 ≤ x.first ∧ x.first ≤ x.last ∧ x.last ≤ (logOf D x.frm).length) ∧ refSteps D x = true ∧ ¬ (t.act ≠ 1 ∧ rFirst D ((rPrev D (madeR (lastOf D) c.num t)).getD zeroRev) = refLine D x) ∧ refCopy D t x = true ∧ refIgn D c.recs t x = true := by
  unfold refRec
  cases tgt c.edits x with
  | none => simp
  | some t =>
    simp only [Bool.and_eq_true, decide_eq_true_eq, Bool.or_eq_true, Bool.not_eq_true', decide_eq_false_iff_not, Option.some.injEq]
    constructor
    · rintro ⟨⟨a, b⟩, ⟨⟨⟨c1, c2⟩, c3⟩, c4⟩, c5⟩
      exact ⟨t, rfl, a, b, c1, c2, fun hh => by rcases c3 with c3 | c3; exact hh.1 c3; exact c3 hh.2, c4, c5⟩
    · rintro ⟨t', rfl, a, b, c1, c2, c3, c4, c5⟩
      refine ⟨⟨a, b⟩, ⟨⟨⟨c1, c2⟩, ?_⟩, c4⟩, c5⟩
      by_cases h1 : t.act = 1
      · exact .inl h1
      · exact .inr fun hh => c3 ⟨h1, hh⟩
/-- A record that the reference passes is passed by the program. -/
theorem recOk_of_ref {d : Dep} {c : Chg} (h : DepOk d) (hs : ∀ r ∈ d.revs, r.chg < c.num) (h2 : everyE (lastOf d.revs) emptyS c.edits = 0) {x : Rcd} (hr : refRec d.revs c x = true) : recOk d.revs c (editsOf c.edits) x = true := by
  obtain ⟨t, a, b1, b2, b3, b4, b5, b6, b7⟩ := refRec_split.1 hr
  obtain ⟨k1, k2, k3, k4⟩ := tgt_mem a
  have hn := paths_nodup (everyE_paths h2).1
  unfold recOk
  rw [Bool.and_eq_true, Bool.or_eq_true]
  refine ⟨(isRec_iff h hs h2 x).2 ⟨t, a, b1, b2, b3, b4, b5, b6⟩, ?_⟩
  unfold refIgn at b7
  cases hi : ignB c.recs x with
  | true =>
    rw [hi, if_pos rfl] at b7
    right
    have he := editsOf_has hn k1
    rw [k2] at he
    rw [he]
    refine (unchanged_iff h h2 k1).2 ?_
    rw [k2]; exact b7
  | false =>
    left
    unfold ignB at hi
    rw [List.all_eq_false] at hi
    obtain ⟨y, hy, hh⟩ := hi
    unfold worked
    rw [List.any_eq_true]
    refine ⟨y, hy, ?_⟩
    simp only [decide_eq_true_eq, not_or, Decidable.not_not] at hh
    rw [Bool.and_eq_true, decide_eq_true_eq, decide_eq_true_eq]
    exact ⟨hh.2.2, hh.1⟩
/-- Where the program passes all records the reference passes each. -/
theorem ref_of_recOk {d : Dep} {c : Chg} (h : DepOk d) (hs : ∀ r ∈ d.revs, r.chg < c.num) (h2 : everyE (lastOf d.revs) emptyS c.edits = 0) (hall : ∀ y ∈ c.recs, recOk d.revs c (editsOf c.edits) y = true) {x : Rcd} (hx : x ∈ c.recs) : refRec d.revs c x = true := by
  have hn := paths_nodup (everyE_paths h2).1
  have hget : ∀ y ∈ c.recs, ∃ t, tgt c.edits y = some t ∧ 1 ≤ y.how ∧ y.how ≤ 4 ∧ (1 ≤ y.first ∧ y.first ≤ y.last ∧ y.last ≤ (logOf d.revs y.frm).length) ∧ refSteps d.revs y = true ∧ ¬ (t.act ≠ 1 ∧ rFirst d.revs ((rPrev d.revs (madeR (lastOf d.revs) c.num t)).getD zeroRev) = refLine d.revs y) ∧ refCopy d.revs t y = true := by
    intro y hy
    have := hall y hy
    unfold recOk at this
    rw [Bool.and_eq_true] at this
    exact (isRec_iff h hs h2 y).1 this.1
  obtain ⟨t, a, b1, b2, b3, b4, b5, b6⟩ := hget x hx
  obtain ⟨k1, k2, k3, k4⟩ := tgt_mem a
  refine refRec_split.2 ⟨t, a, b1, b2, b3, b4, b5, b6, ?_⟩
  unfold refIgn
  cases hi : ignB c.recs x with
  | false => rw [if_neg (by decide)]
  | true =>
    rw [if_pos rfl]
    have h1 := hall x hx
    unfold recOk at h1
    rw [Bool.and_eq_true, Bool.or_eq_true] at h1
    rcases h1.2 with hw | hu
    · exfalso
      unfold worked at hw
      rw [List.any_eq_true] at hw
      obtain ⟨y, hy, hh⟩ := hw
      rw [Bool.and_eq_true, decide_eq_true_eq, decide_eq_true_eq] at hh
      obtain ⟨t2, e1, -⟩ := hget y hy
      obtain ⟨q1, q2, q3, -⟩ := tgt_mem e1
      have e2 := editsOf_has hn q1
      have e3 := editsOf_has hn k1
      rw [q2, hh.2] at e2
      rw [k2, e2] at e3
      injection e3 with e3
      subst e3
      unfold ignB at hi
      have := List.all_eq_true.1 hi y hy
      simp only [decide_eq_true_eq] at this
      rcases this with g | g | g
      · exact g hh.2
      · omega
      · exact hh.1 g
    · have he := editsOf_has hn k1
      rw [k2] at he
      rw [he] at hu
      have := (unchanged_iff h h2 k1).1 hu
      rw [k2] at this
      exact this
/-- The reference's counting of moves. -/
def movedN (es : List Edt) (x : Edt) : Nat := es.countP fun y => (decide (x.act = 5) && decide (y.act = 4) && decide (y.frm = x.path)) || (decide (x.act = 4) && decide (y.act = 5) && decide (y.path = x.frm))
def movedB (es : List Edt) (x : Edt) : Bool := decide (movedN es x = 1) || (decide (x.act ≠ 5) && decide (x.act ≠ 4))
theorem moved_iff {es : List Edt} (hn : (es.map (·.path)).Nodup) {x : Edt} (hx : x ∈ es) : movedB es x = moveOk es (editsOf es) x := by
  unfold movedB moveOk movedN
  by_cases h5 : x.act = 5
  · rw [if_pos h5]
    have : (es.countP fun y => (decide (x.act = 5) && decide (y.act = 4) && decide (y.frm = x.path)) || (decide (x.act = 4) && decide (y.act = 5) && decide (y.path = x.frm))) = arrivals es x.path := by
      unfold arrivals
      refine List.countP_congr fun y hy => ?_
      simp [h5]
    rw [this]
    simp [h5]
  · rw [if_neg h5]
    by_cases h4 : x.act = 4
    · rw [if_pos h4]
      have hc : (es.countP fun y => (decide (x.act = 5) && decide (y.act = 4) && decide (y.frm = x.path)) || (decide (x.act = 4) && decide (y.act = 5) && decide (y.path = x.frm))) = es.countP fun y => decide (y.act = 5) && decide (y.path = x.frm) := by
        refine List.countP_congr fun y hy => ?_
        simp [h4]
      rw [hc]
      cases he : editsOf es x.frm with
      | none =>
        have h0 : (es.countP fun y => decide (y.act = 5) && decide (y.path = x.frm)) = 0 := by
          rw [List.countP_eq_zero]
          intro y hy hh
          rw [Bool.and_eq_true, decide_eq_true_eq, decide_eq_true_eq] at hh
          have := editsOf_has hn hy
          rw [hh.2, he] at this
          cases this
        rw [h0]
        simp [h4, zeroEdt]
      | some z =>
        obtain ⟨z1, z2⟩ := editsOf_mem _ _ _ he
        simp only [Option.getD_some]
        by_cases z5 : z.act = 5
        · have := countP_path hn z1 (fun y => decide (y.act = 5)) (by simpa using z5)
          rw [z2] at this
          rw [this]
          simp [z5]
        · have h0 : (es.countP fun y => decide (y.act = 5) && decide (y.path = x.frm)) = 0 := by
            rw [List.countP_eq_zero]
            intro y hy hh
            rw [Bool.and_eq_true, decide_eq_true_eq, decide_eq_true_eq] at hh
            have e2 := editsOf_has hn hy
            rw [hh.2, he] at e2
            injection e2 with e2
            rw [e2] at z5
            exact z5 hh.1
          rw [h0]
          simp [h4, z5]
    · rw [if_neg h4]
      simp [h5, h4]
end Go.Proofs.YtnblfaagchflaaaDoor
