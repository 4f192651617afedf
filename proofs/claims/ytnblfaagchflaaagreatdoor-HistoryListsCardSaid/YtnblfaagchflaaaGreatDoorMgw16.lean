/- Slices of changes; the statements' own Small and play. -/
import Derived.Test.YtnblfaagchflaaaGreatDoorMzApW
import Derived.Test.YtnblfaagchflaaaGreatDoorMgw15
import Derived.Test.YtnblfaagchflaaaGreatDoorMgw9
namespace Go.Proofs.YtnblfaagchflaaaGreatDoor
open Go.RowKit
set_option linter.unusedVariables false
set_option linter.unusedSimpArgs false

/-- A change with the slices that it has in memory. -/
abbrev ChV := Chg × Value × Value
def ChV.cells (p : ChV) : List Value := [.int .i64 p.1.num, .string p.1.client, .string p.1.text, p.2.1, p.2.2]
def ChV.ok (w : World) (p : ChV) : Prop := Edts w p.2.1 p.1.edits ∧ Rcds w p.2.2 p.1.recs
def Chgs (w : World) (v : Value) (ps : List ChV) : Prop := Row w 5 v ps.length (ps.flatMap ChV.cells) ∧ ∀ p ∈ ps, p.ok w
theorem ChV.ok_below {w w' : World} {p : ChV} (h : p.ok w) (hb : Below w.heap.size w w') : p.ok w' := ⟨h.1.below hb, h.2.below hb⟩
theorem Chgs.below {w w' : World} {v : Value} {ps : List ChV} (h : Chgs w v ps) (hb : Below w.heap.size w w') : Chgs w' v ps := ⟨Row.below h.1 hb, fun p hp => ChV.ok_below (h.2 p hp) hb⟩
def ChAt (w : World) (a : Addr) (p : ChV) : Prop := w.cell? a = some (.int .i64 p.1.num) ∧ w.cell? ⟨a.block, a.off + 1, none⟩ = some (.string p.1.client) ∧ w.cell? ⟨a.block, a.off + 2, none⟩ = some (.string p.1.text) ∧ w.cell? ⟨a.block, a.off + 3, none⟩ = some p.2.1 ∧ w.cell? ⟨a.block, a.off + 4, none⟩ = some p.2.2
theorem Chgs.at_ {w : World} {A : Option Addr} {c : Nat} {l : List ChV} (h : Chgs w (.slice A l.length c) l) {k : Nat} (hk : k < l.length) :
    ∃ ad, A = some ad ∧ ad.block < w.heap.size ∧ ChAt w (ad.add (k * 5)) l[k] := by
  obtain ⟨ad, e, hb, hc⟩ := row_at (f := ChV.cells) (n := 5) (fun _ => rfl) h.1 hk
  exact ⟨ad, e, hb, hc 0 _ rfl, hc 1 _ rfl, hc 2 _ rfl, hc 3 _ rfl, hc 4 _ rfl⟩

def edtSm (x : Edt) : Prop := x.path.size + x.frm.size ≤ 500
def rcdSm (x : Rcd) : Prop := x.frm.size + x.to.size ≤ 500
def chgSm (c : Chg) : Prop := (∀ x ∈ c.edits, edtSm x) ∧ ∀ x ∈ c.recs, rcdSm x
def chgLen (c : Chg) : Nat := c.edits.length + c.recs.length
def lenSum (l : List Chg) : Nat := (l.map chgLen).sum
def smallL (l : List Chg) : Prop := (∀ c ∈ l, chgSm c) ∧ l.length ≤ 40 ∧ lenSum l ≤ 200
theorem lenSum_snoc (l : List Chg) (c : Chg) : lenSum (l ++ [c]) = lenSum l + chgLen c := by unfold lenSum; simp
theorem lenSum_mem {l : List Chg} {c : Chg} (h : c ∈ l) : chgLen c ≤ lenSum l := by
  induction l with
  | nil => cases h
  | cons x l ih =>
    unfold lenSum at ih ⊢
    simp only [List.map_cons, List.sum_cons]
    rcases List.mem_cons.1 h with rfl | h
    · omega
    · have := ih h; omega

end Go.Proofs.YtnblfaagchflaaaGreatDoor
/- The statements' own play. -/
namespace Go.Proofs.YtnblfaagchflaaaGreatDoor
open Go.RowKit
set_option linter.unusedVariables false
set_option linter.unusedSimpArgs false

/-- The depots that the changes make, one after the other (the order of equal records is left open). -/
inductive Plays : List Chg → Dep → Prop where
  | nil : Plays [] ⟨[], []⟩
  | skip {l : List Chg} {d : Dep} {c : Chg} : Plays l d → appE d c ≠ 0 → Plays (l ++ [c]) d
  | step {l : List Chg} {d : Dep} {c : Chg} {rs : List Rcd} : Plays l d → appE d c = 0 → rs.Perm (d.recs ++ c.recs) → rs.Pairwise (fun a b => 0 ≤ cmpR b a) → Plays (l ++ [c]) ⟨newRevs d c, rs⟩
theorem depW_nil : DepW ⟨[], []⟩ := ⟨by simp, by simp, fun r hr => by simp at hr, fun r hr => by simp at hr, fun r hr => by simp at hr⟩
theorem small_chgW {c : Chg} (h : chgSm c) (hl : chgLen c ≤ 200) (hr : ∀ r ∈ c.recs, r.last ≤ 9223372036854775807) : ChgW c := by
  unfold chgLen at hl
  refine ⟨by omega, by omega, fun x hx => ?_, fun r hx => ⟨⟨?_, ?_⟩, hr r hx⟩⟩
  · have := h.1 x hx; unfold edtSm at this; omega
  · have := h.2 r hx; unfold rcdSm at this; omega
  · have := h.2 r hx; unfold rcdSm at this; omega
/-- A depot in memory, of which everything that the walks ask is known. -/
def DepAt (w : World) (dv dr : Value) (d : Dep) : Prop := Revs w dv d.revs ∧ Rcds w dr d.recs ∧ DepW d
theorem DepAt.below {w w' : World} {dv dr : Value} {d : Dep} (h : DepAt w dv dr d) (hb : Below w.heap.size w w') : DepAt w' dv dr d := ⟨h.1.below hb, h.2.1.below hb, h.2.2⟩
theorem Row.setCell_far {w : World} {size n g i : Nat} {v u : Value} {xs : List Value} (h : Row w size v n xs) (hne : v.ownBlock ≠ some g) : Row (w.setCell ⟨g, i, none⟩ u) size v n xs := by
  obtain ⟨A, c, rfl, hc, hm, hl, h0, hx⟩ := h
  refine ⟨A, c, rfl, hc, hm, hl, h0, fun hn => ?_⟩
  obtain ⟨ad, rfl, hb, hcell⟩ := hx hn
  refine ⟨ad, rfl, by simpa [World.setCell] using hb, fun j u' hu => ?_⟩
  rw [← hcell j u' hu]
  refine World.cell?_of_block (Below.heap_setCell w _ _ _ ?_)
  rw [add_block]
  intro e
  exact hne (congrArg some e)
theorem DepAt.setCell {w : World} {dv dr u : Value} {d : Dep} {g i : Nat} (h : DepAt w dv dr d) (h1 : dv.ownBlock ≠ some g) (h2 : dr.ownBlock ≠ some g) : DepAt (w.setCell ⟨g, i, none⟩ u) dv dr d :=
  ⟨Row.setCell_far h.1 h1, Row.setCell_far h.2.1 h2, h.2.2⟩
/-- What play leaves. -/
def PlayPost (w : World) (l : List Chg) (e : Ending) (w' : World) : Prop := ∃ dv dr d, e = .returned (.agg #[dv, dr]) ∧ Below w.heap.size w w' ∧ DepAt w' dv dr d ∧ Plays l d ∧ Fresh w.heap.size dv ∧ Fresh w.heap.size dr

/-- The state of play's loop. -/
structure PlSt (w wr : World) (l : List Chg) (g2 g3 B : Nat) (dv dr : Value) (d : Dep) : Prop where
  bel : Below w.heap.size w wr
  box2 : Blk wr g2 31 [.slice none 0 0, .slice none 0 0]
  box3 : Blk wr g3 31 [dv, dr]
  dep : DepAt wr dv dr d
  far : Fresh B dv ∧ Fresh B dr
  pl : Plays l d

end Go.Proofs.YtnblfaagchflaaaGreatDoor
/- Plain: the revisions of a path are numbered from 1 on (HistoryNumbers). -/
namespace Go.Proofs.YtnblfaagchflaaaGreatDoor
open Go.RowKit
set_option linter.unusedVariables false
set_option linter.unusedSimpArgs false

/-- The revisions of a path, as they stand. -/
def logOf (revs : List Rev) (p : ByteArray) : List Rev := revs.filter fun r => decide (r.path = p)
def addA (a : Int) : Bool := (a == 1) || (a == 4)
def altOk : Bool → List Rev → Bool
  | _, [] => true
  | live, v :: l => (addA v.act == !live) && altOk (liveA v.act) l
theorem altOk_snoc (l : List Rev) (v : Rev) (live : Bool) : altOk live (l ++ [v]) = (altOk live l && (addA v.act == !(match l.getLast? with
    | none => live
    | some v => liveA v.act))) := by
  induction l generalizing live with
  | nil => simp [altOk]
  | cons x l ih =>
    rw [List.cons_append, altOk, altOk, ih]
    cases l with
    | nil => simp [Bool.and_assoc]
    | cons y l =>
      obtain ⟨z, hz⟩ : ∃ z, (y :: l).getLast? = some z := ⟨_, List.getLast?_eq_some_getLast (by simp)⟩
      rw [List.getLast?_cons_cons, hz, Bool.and_assoc]
/-- What holds of each path of a depot that was played. -/
structure LogOk (revs : List Rev) (p : ByteArray) : Prop where
  num : ∀ i (h : i < (logOf revs p).length), (logOf revs p)[i].num = (i : Int) + 1
  chg : (logOf revs p).Pairwise (fun a b => a.chg < b.chg)
  pos : ∀ v ∈ logOf revs p, 0 < v.chg
  last : lastOf revs p = (logOf revs p).getLast?
  alt : altOk false (logOf revs p) = true
theorem mem_log {revs : List Rev} {p : ByteArray} {v : Rev} : v ∈ logOf revs p ↔ v ∈ revs ∧ v.path = p := by
  unfold logOf; simp
theorem log_app (a b : List Rev) (p : ByteArray) : logOf (a ++ b) p = logOf a p ++ logOf b p := by unfold logOf; rw [List.filter_append]
theorem log_made (last : ByteArray → Option Rev) (n : Int) (es : List Edt) (hn : (es.map (·.path)).Nodup) (p : ByteArray) :
    (p ∉ es.map (·.path) ∧ logOf (es.map (madeR last n)) p = []) ∨ ∃ e ∈ es, e.path = p ∧ logOf (es.map (madeR last n)) p = [madeR last n e] := by
  induction es with
  | nil => left; simp [logOf]
  | cons x es ih =>
    rw [List.map_cons, List.nodup_cons] at hn
    by_cases hx : x.path = p
    · right
      refine ⟨x, List.mem_cons_self .., hx, ?_⟩
      have h0 : logOf (es.map (madeR last n)) p = [] := by
        unfold logOf
        rw [List.filter_eq_nil_iff]
        intro r hr
        obtain ⟨y, hy, rfl⟩ := List.mem_map.1 hr
        intro e
        exact hn.1 (List.mem_map.2 ⟨y, hy, (show y.path = p from of_decide_eq_true e).trans hx.symm⟩)
      unfold logOf at h0 ⊢
      rw [List.map_cons, List.filter_cons, h0]
      simp [madeR, hx]
    · have hc : logOf ((x :: es).map (madeR last n)) p = logOf (es.map (madeR last n)) p := by
        unfold logOf
        rw [List.map_cons, List.filter_cons]
        simp [madeR, hx]
      rcases ih hn.2 with ⟨h1, h2⟩ | ⟨e, he, h1, h2⟩
      · left
        refine ⟨?_, by rw [hc, h2]⟩
        rw [List.map_cons, List.mem_cons]
        rintro (h | h)
        · exact hx h.symm
        · exact h1 h
      · right
        exact ⟨e, List.mem_cons_of_mem _ he, h1, by rw [hc, h2]⟩
theorem actE_zero {last : ByteArray → Option Rev} {e : Edt} (h : actE last e = 0) : addA e.act = !isLast last e.path := by
  unfold actE at h
  unfold addA
  by_cases h1 : e.act = 1 ∨ e.act = 4
  · rw [if_pos h1] at h
    split at h
    · omega
    · rename_i hl
      have : isLast last e.path = false := by simpa using hl
      rw [this]
      rcases h1 with h1 | h1 <;> rw [h1] <;> rfl
  · rw [if_neg h1] at h
    by_cases h2 : e.act = 2 ∨ e.act = 3 ∨ e.act = 5
    · rw [if_pos h2] at h
      split at h
      · rename_i hl
        rw [hl]
        rcases h2 with h2 | h2 | h2 <;> rw [h2] <;> rfl
      · omega
    · rw [if_neg h2] at h; omega
theorem log_step {d : Dep} {c : Chg} (h : appE d c = 0) (p : ByteArray) (hd : LogOk d.revs p) : LogOk (newRevs d c) p := by
  obtain ⟨h1, h2, -, -, -⟩ := appE_zero h
  obtain ⟨p1, p2⟩ := everyE_paths h2
  obtain ⟨-, -, -, c1, -, hs⟩ := sizeE_zero h1
  have hn := paths_nodup p1
  have hlog : logOf (newRevs d c) p = logOf d.revs p ++ logOf (c.edits.map (madeR (lastOf d.revs) c.num)) p := by unfold newRevs; exact log_app _ _ _
  have hlst : lastOf (newRevs d c) p = (c.edits.map (madeR (lastOf d.revs) c.num)).foldl lastM (lastOf d.revs) p := by unfold newRevs; rw [lastOf_app]
  rcases log_made (lastOf d.revs) c.num c.edits hn p with ⟨k1, k2⟩ | ⟨e, he, k1, k2⟩
  · rw [k2, List.append_nil] at hlog
    rw [lasts_other _ _ (by rw [made_paths]; exact k1)] at hlst
    exact ⟨by rw [hlog]; exact hd.num, by rw [hlog]; exact hd.chg, by rw [hlog]; exact hd.pos, by rw [hlst, hlog]; exact hd.last, by rw [hlog]; exact hd.alt⟩
  · rw [k2] at hlog
    subst k1
    rw [lasts_made _ _ _ hn e he] at hlst
    obtain ⟨o1, o2, o3, o4⟩ := oneE_zero (p2 e he).2.2
    have hnum : (lastR (lastOf d.revs) e.path).num = (logOf d.revs e.path).length := by
      unfold lastR
      rw [hd.last, List.getLast?_eq_getElem?]
      by_cases h0 : (logOf d.revs e.path).length = 0
      · rw [h0, List.getElem?_eq_none (by omega)]; rfl
      · rw [List.getElem?_eq_getElem (by omega)]
        simp only [Option.getD_some]
        rw [hd.num]
        omega
    refine ⟨?_, ?_, ?_, ?_, ?_⟩
    · intro i hi
      simp only [hlog] at hi ⊢
      rw [List.length_append, List.length_singleton] at hi
      by_cases hil : i < (logOf d.revs e.path).length
      · rw [List.getElem_append_left hil]; exact hd.num i hil
      · rw [List.getElem_append_right (by omega)]
        simp only [List.getElem_singleton, madeR]
        omega
    · rw [hlog, List.pairwise_append]
      refine ⟨hd.chg, by simp, fun a ha b hb => ?_⟩
      rw [List.mem_singleton] at hb
      subst hb
      exact hs a (mem_log.1 ha).1
    · rw [hlog]
      intro v hv
      rcases List.mem_append.1 hv with hv | hv
      · exact hd.pos v hv
      · rw [List.mem_singleton] at hv; subst hv; simp only [madeR]; omega
    · rw [hlst, hlog]; simp
    · rw [hlog, altOk_snoc, hd.alt, Bool.true_and]
      have : isLast (lastOf d.revs) e.path = (match (logOf d.revs e.path).getLast? with
        | none => false
        | some v => liveA v.act) := by unfold isLast; rw [hd.last]; cases (logOf d.revs e.path).getLast? <;> rfl
      rw [← this]
      show (addA e.act == !isLast (lastOf d.revs) e.path) = true
      rw [actE_zero o1]; simp
theorem plays_log {l : List Chg} {d : Dep} (h : Plays l d) (p : ByteArray) : LogOk d.revs p := by
  induction h with
  | nil => exact ⟨fun i h => by simp [logOf] at h, by simp [logOf], by simp [logOf], rfl, rfl⟩
  | skip _ _ ih => exact ih
  | step _ h0 _ _ ih => exact log_step h0 p ih
/-- The last one of the first i. -/
def before (l : List Rev) (i : Nat) : Option Rev := (l.take i).getLast?
theorem greatest_some {revs : List Rev} {q : ByteArray} {p : Rev → Bool} {v : Rev} (hv : v ∈ revs) (h1 : v.path = q) (h2 : p v = true) : ∃ x, greatest revs q p = some x := by
  suffices H : ∀ (l : List Rev) (o : Option Rev), (o.isSome = true ∨ v ∈ l) → (l.foldl (fun o r => if r.path = q ∧ p r = true then (match o with
    | none => some r
    | some b => if b.num < r.num then some r else some b) else o) o).isSome = true by
    have := H revs none (.inr hv)
    exact Option.isSome_iff_exists.1 this
  intro l
  induction l with
  | nil => intro o h; rcases h with h | h
           · exact h
           · cases h
  | cons x l ih =>
    intro o h
    rw [List.foldl_cons]
    apply ih
    rcases h with h | h
    · left
      cases o with
      | none => cases h
      | some b => dsimp only; split
                  · split <;> rfl
                  · rfl
    · rcases List.mem_cons.1 h with rfl | h
      · left
        rw [if_pos ⟨h1, h2⟩]
        cases o with
        | none => rfl
        | some b => dsimp only; split <;> rfl
      · exact .inr h
theorem LogOk.uniq {revs : List Rev} {p : ByteArray} (h : LogOk revs p) {a b : Rev} (ha : a ∈ revs) (hb : b ∈ revs) (h1 : a.path = p) (h2 : b.path = p) (hn : a.num = b.num) : a = b := by
  obtain ⟨i, hi, rfl⟩ := List.mem_iff_getElem.1 (mem_log.2 ⟨ha, h1⟩)
  obtain ⟨j, hj, rfl⟩ := List.mem_iff_getElem.1 (mem_log.2 ⟨hb, h2⟩)
  rw [h.num i hi, h.num j hj] at hn
  have : i = j := by omega
  subst this; rfl
theorem LogOk.get {revs : List Rev} {p : ByteArray} (h : LogOk revs p) {v : Rev} (hv : v ∈ revs) (hp : v.path = p) : greatest revs p (fun r => decide (r.num = v.num)) = some v := by
  obtain ⟨x, hx⟩ := greatest_some (p := fun r => decide (r.num = v.num)) hv hp (by simp)
  obtain ⟨g1, g2, g3⟩ := greatest_mem hx
  rw [hx, h.uniq g1 hv g2 hp (by simpa using g3)]
theorem LogOk.sorted {revs : List Rev} {p : ByteArray} (h : LogOk revs p) : (logOf revs p).Pairwise (fun a b => a.num < b.num) := by
  rw [List.pairwise_iff_getElem]
  intro i j hi hj hij
  rw [h.num i hi, h.num j hj]; omega
end Go.Proofs.YtnblfaagchflaaaGreatDoor
/- Plain: what history.Valid does with any depot, and that a depot that was played is valid. -/
namespace Go.Proofs.YtnblfaagchflaaaGreatDoor
open Go.RowKit
set_option linter.unusedVariables false
set_option linter.unusedSimpArgs false
/-! What holds of the records of a depot that was played. -/
theorem cmpR_anti (a b : Rcd) : cmpR b a = - cmpR a b := by
  have hI : ∀ x y : Int, cmpI y x = - cmpI x y := fun x y => by unfold cmpI; split <;> split <;> omega
  unfold cmpR
  rw [cmpP_anti a.to b.to, hI a.num b.num, cmpP_anti a.frm b.frm, hI a.first b.first]
  unfold orI
  split <;> split <;> (try split) <;> (try split) <;> (try split) <;> (try split) <;> omega
abbrev VRcd := { r : Rcd // validS r.frm = true ∧ validS r.to = true }
theorem vRcd_tot : TotC (fun a b : VRcd => cmpR a.1 b.1) := TotC.or (totP (f := fun r : VRcd => r.1.to) fun r => r.2.2) (TotC.or (totI (f := fun r : VRcd => r.1.num)) (TotC.or (totP (f := fun r : VRcd => r.1.frm) fun r => r.2.1) (totI (f := fun r : VRcd => r.1.first))))
theorem cmpR_trans {a b c : Rcd} (ha : a.val_) (hb : b.val_) (hc : c.val_) (h1 : cmpR a b < 0) (h2 : cmpR b c < 0) : cmpR a c < 0 := vRcd_tot.trans ⟨a, ha⟩ ⟨b, hb⟩ ⟨c, hc⟩ h1 h2
theorem cmpR_key {a b : Rcd} (ha : a.val_) (hb : b.val_) (h : cmpR a b = 0) : a.to = b.to ∧ a.num = b.num := by
  unfold cmpR orI at h
  split at h
  · rename_i h1
    refine ⟨cmpP_eq ha.2 hb.2 h1, ?_⟩
    split at h
    · rename_i h2; unfold cmpI at h2; split at h2 <;> (try split at h2) <;> omega
    · rename_i h2; exact absurd h h2
  · rename_i h1; exact absurd h h1
structure RecOk (d : Dep) : Prop where
  path : ∀ r ∈ d.revs, validS r.path = true
  val_ : ∀ r ∈ d.recs, r.val_
  strict : d.recs.Pairwise (fun a b => cmpR a b < 0)
  inn : ∀ r ∈ d.recs, ∃ v ∈ d.revs, v.path = r.to ∧ v.num = r.num
theorem recsF_pair {revs : List Rev} {c : Chg} {ed : ByteArray → Option Edt} : ∀ (rs : List Rcd) (b : Option Rcd), (∀ r ∈ rs, r.val_) → (∀ x, b = some x → x.val_) → recsF revs c ed b rs = true → (∀ x, b = some x → ∀ r ∈ rs, cmpR x r < 0) ∧ rs.Pairwise (fun a b => cmpR a b < 0)
  | [], b, _, _, h => ⟨fun x _ r hr => (by cases hr), List.Pairwise.nil⟩
  | r :: rs, b, hv, hb, h => by
    unfold recsF at h
    simp only [Bool.and_eq_true] at h
    have hr := hv r (List.mem_cons_self ..)
    obtain ⟨i1, i2⟩ := recsF_pair rs (some r) (fun y hy => hv y (List.mem_cons_of_mem _ hy)) (fun x hx => by injection hx with hx; exact hx ▸ hr) h.2
    refine ⟨fun x hx y hy => ?_, List.pairwise_cons.2 ⟨i1 r rfl, i2⟩⟩
    subst hx
    have h1 : cmpR x r < 0 := by simpa using h.1.1
    rcases List.mem_cons.1 hy with rfl | hy
    · exact h1
    · exact cmpR_trans (hb x rfl) hr (hv y (List.mem_cons_of_mem _ hy)) h1 (i1 r rfl y hy)
/-- What is known of the records of a change that is accepted. -/
theorem app_recs {d : Dep} {c : Chg} (hp : ∀ r ∈ d.revs, validS r.path = true) (h : appE d c = 0) : ∀ r ∈ c.recs, r.val_ ∧ ∃ e ∈ c.edits, e.path = r.to ∧ (lastR (lastOf d.revs) e.path).num + 1 = r.num := by
  obtain ⟨-, h2, -, h4, -⟩ := appE_zero h
  obtain ⟨p1, p2⟩ := everyE_paths h2
  intro r hr
  have h1 := recsF_all _ _ (recsE_zero h4) r hr
  unfold recOk at h1
  rw [Bool.and_eq_true] at h1
  obtain ⟨⟨e, he, -, hn⟩, v, hv⟩ := isRec_parts h1.1
  obtain ⟨g1, g2, -⟩ := greatest_mem hv
  obtain ⟨k1, k2⟩ := editsOf_mem _ _ _ he
  obtain ⟨v1, -, v3⟩ := p2 e k1
  refine ⟨⟨?_, ?_⟩, e, k1, k2, ?_⟩
  · rw [← g2]; exact hp v g1
  · rw [← k2]; exact v1
  · have := (oneE_zero v3).2.1; omega
theorem app_strict {d : Dep} {c : Chg} (hp : ∀ r ∈ d.revs, validS r.path = true) (h : appE d c = 0) : c.recs.Pairwise (fun a b => cmpR a b < 0) :=
  (recsF_pair _ none (fun r hr => (app_recs hp h r hr).1) (fun x hx => by cases hx) (recsE_zero (appE_zero h).2.2.2.1)).2
theorem last_bound {revs : List Rev} (hl : ∀ p, LogOk revs p) {v : Rev} (hv : v ∈ revs) : v.num ≤ (lastR (lastOf revs) v.path).num := by
  have h := hl v.path
  obtain ⟨i, hi, he⟩ := List.mem_iff_getElem.1 (mem_log.2 ⟨hv, rfl⟩)
  have h2 := h.num i hi
  rw [he] at h2
  unfold lastR
  rw [h.last, List.getLast?_eq_getElem?, List.getElem?_eq_getElem (by omega)]
  simp only [Option.getD_some]
  rw [h.num, h2]
  omega
/-- Records of the depot and of the change that is accepted are never equal in their order. -/
theorem app_apart {d : Dep} {c : Chg} (hl : ∀ p, LogOk d.revs p) (hd : RecOk d) (h : appE d c = 0) {a b : Rcd} (ha : a ∈ d.recs) (hb : b ∈ c.recs) : cmpR a b ≠ 0 := by
  intro e
  obtain ⟨b1, x, hx, x1, x2⟩ := app_recs hd.path h b hb
  obtain ⟨k1, k2⟩ := cmpR_key (hd.val_ a ha) b1 e
  obtain ⟨v, hv, v1, v2⟩ := hd.inn a ha
  have := last_bound hl hv
  rw [v1, k1, ← x1] at this
  omega
theorem app_recOk {d : Dep} {c : Chg} {rs : List Rcd} (hl : ∀ p, LogOk d.revs p) (hd : RecOk d) (h : appE d c = 0) (hp : rs.Perm (d.recs ++ c.recs)) (hs : rs.Pairwise (fun a b => 0 ≤ cmpR b a)) : RecOk ⟨newRevs d c, rs⟩ := by
  obtain ⟨-, h2, -, -, -⟩ := appE_zero h
  refine ⟨fun r hr => ?_, fun r hr => ?_, ?_, fun r hr => ?_⟩
  · rcases List.mem_append.1 hr with hr | hr
    · exact hd.path r hr
    · obtain ⟨e, he, rfl⟩ := List.mem_map.1 hr
      exact ((everyE_paths h2).2 e he).1
  · rcases List.mem_append.1 (hp.mem_iff.1 hr) with hr | hr
    · exact hd.val_ r hr
    · exact (app_recs hd.path h r hr).1
  · have hne : (d.recs ++ c.recs).Pairwise (fun a b => cmpR a b ≠ 0) := by
      rw [List.pairwise_append]
      exact ⟨hd.strict.imp fun h => by omega, (app_strict hd.path h).imp fun h => by omega, fun a ha b hb => app_apart hl hd h ha hb⟩
    have hne2 := hne.perm hp.symm (fun {x y} hxy => by rw [cmpR_anti]; omega)
    refine (hs.and hne2).imp ?_
    rintro a b ⟨h1, h2⟩
    rw [cmpR_anti] at h1
    omega
  · show ∃ v ∈ newRevs d c, _
    unfold newRevs
    rcases List.mem_append.1 (hp.mem_iff.1 hr) with hr | hr
    · obtain ⟨v, h1, h2⟩ := hd.inn r hr
      exact ⟨v, List.mem_append_left _ h1, h2⟩
    · obtain ⟨-, e, he, e1, e2⟩ := app_recs hd.path h r hr
      exact ⟨_, List.mem_append_right _ (List.mem_map_of_mem he), e1, e2⟩
theorem plays_recOk {l : List Chg} {d : Dep} (h : Plays l d) : RecOk d := by
  induction h with
  | nil => exact ⟨fun r hr => (by cases hr), fun r hr => (by cases hr), List.Pairwise.nil, fun r hr => (by cases hr)⟩
  | skip _ _ ih => exact ih
  | step hp h0 h1 h2 ih => exact app_recOk (fun p => plays_log hp p) ih h0 h1 h2
/-! A depot that was played, and the depots on the way to it. -/
/-! Fences, client and text do not count. -/
end Go.Proofs.YtnblfaagchflaaaGreatDoor
/- Plain: the reference's words for a depot's revisions, and that they say what the program's maps hold. -/
namespace Go.Proofs.YtnblfaagchflaaaGreatDoor
open Go.RowKit
set_option linter.unusedVariables false
set_option linter.unusedSimpArgs false

def rGet (D : List Rev) (p : ByteArray) (n : Int) : Option Rev := (logOf D p).find? fun v => decide (v.num = n)
def rLast (D : List Rev) (p : ByteArray) : Option Rev := (logOf D p).getLast?
def rPrev (D : List Rev) (v : Rev) : Option Rev := if v.act = 1 then none else if v.act = 4 then rGet D v.frm v.fnum else rGet D v.path (v.num - 1)
theorem rGet_mem {D : List Rev} {p : ByteArray} {n : Int} {v : Rev} (h : rGet D p n = some v) : v ∈ D ∧ v.path = p ∧ v.num = n := by
  have h1 := List.mem_of_find?_eq_some h
  have h2 := List.find?_some h
  obtain ⟨a, b⟩ := mem_log.1 h1
  exact ⟨a, b, by simpa using h2⟩
theorem rPrev_mem {D : List Rev} {u v : Rev} (h : rPrev D v = some u) : u ∈ D := by
  unfold rPrev at h
  split at h
  · cases h
  · split at h
    · exact (rGet_mem h).1
    · exact (rGet_mem h).1
theorem chg_count {D : List Rev} {u v : Rev} (hu : u ∈ D) (h : u.chg < v.chg) : D.countP (fun x => decide (x.chg < u.chg)) < D.countP (fun x => decide (x.chg < v.chg)) := by
  have h1 : D.countP (fun x => decide (x.chg < v.chg)) = D.countP (fun x => decide (x.chg < u.chg)) + D.countP (fun x => decide (u.chg ≤ x.chg) && decide (x.chg < v.chg)) := by
    clear hu
    induction D with
    | nil => rfl
    | cons x D ih =>
      rw [List.countP_cons, List.countP_cons, List.countP_cons, ih]
      by_cases a : x.chg < u.chg
      · have b : x.chg < v.chg := by omega
        have c : ¬ u.chg ≤ x.chg := by omega
        simp [a, b, c]; omega
      · by_cases b : x.chg < v.chg
        · have c : u.chg ≤ x.chg := by omega
          simp [a, b, c]; omega
        · simp [a, b]
  have h2 : 0 < D.countP (fun x => decide (u.chg ≤ x.chg) && decide (x.chg < v.chg)) := List.countP_pos_iff.2 ⟨u, hu, by simp [h]⟩
  omega
/-- The first member of the line of a revision. -/
def rFirst (D : List Rev) (v : Rev) : Fil :=
  match h : rPrev D v with
  | none => (v.path, v.num)
  | some u => if hc : u.chg < v.chg then rFirst D u else (v.path, v.num)
termination_by D.countP fun x => decide (x.chg < v.chg)
decreasing_by exact chg_count (rPrev_mem h) hc
theorem rFirst_none {D : List Rev} {v : Rev} (h : rPrev D v = none) : rFirst D v = (v.path, v.num) := by
  rw [rFirst]; split
  · rfl
  · rename_i u hu; rw [h] at hu; cases hu
theorem rFirst_some {D : List Rev} {u v : Rev} (h : rPrev D v = some u) (hc : u.chg < v.chg) : rFirst D v = rFirst D u := by
  conv => lhs; rw [rFirst]
  split
  · rename_i hu; rw [h] at hu; cases hu
  · rename_i w hu
    rw [h] at hu
    injection hu with hu
    subst hu
    rw [dif_pos hc]
theorem rFirst_stop {D : List Rev} {u v : Rev} (h : rPrev D v = some u) (hc : ¬ u.chg < v.chg) : rFirst D v = (v.path, v.num) := by
  rw [rFirst]
  split
  · rfl
  · rename_i w hu
    rw [h] at hu
    injection hu with hu
    subst hu
    rw [dif_neg hc]
theorem LogOk.rlast {D : List Rev} {p : ByteArray} (h : LogOk D p) : rLast D p = lastOf D p := h.last.symm
theorem LogOk.rget {D : List Rev} {p : ByteArray} (h : LogOk D p) {v : Rev} (hv : v ∈ D) (hp : v.path = p) : rGet D p v.num = some v := by
  cases hg : rGet D p v.num with
  | none =>
    exfalso
    have := List.find?_eq_none.1 hg v (mem_log.2 ⟨hv, hp⟩)
    simp at this
  | some u =>
    obtain ⟨a, b, c⟩ := rGet_mem hg
    rw [h.uniq a hv b hp c]
theorem LogOk.rget_eq {D : List Rev} {p : ByteArray} (h : LogOk D p) (n : Int) : rGet D p n = greatest D p (fun r => decide (r.num = n)) := by
  cases hg : rGet D p n with
  | some u =>
    obtain ⟨a, b, c⟩ := rGet_mem hg
    subst c
    exact (h.get a b).symm
  | none =>
    cases hq : greatest D p (fun r => decide (r.num = n)) with
    | none => rfl
    | some u =>
      obtain ⟨a, b, c⟩ := greatest_mem hq
      have := List.find?_eq_none.1 hg u (mem_log.2 ⟨a, b⟩)
      simp at this c
      exact absurd c this
theorem LogOk.rget_in {D : List Rev} {p : ByteArray} (h : LogOk D p) (n : Int) : (∃ v, rGet D p n = some v) ↔ 1 ≤ n ∧ n ≤ (logOf D p).length := by
  constructor
  · rintro ⟨v, hv⟩
    obtain ⟨a, b, c⟩ := rGet_mem hv
    obtain ⟨i, hi, e⟩ := List.mem_iff_getElem.1 (mem_log.2 ⟨a, b⟩)
    have := h.num i hi
    rw [e] at this
    omega
  · rintro ⟨h1, h2⟩
    have hi : n.toNat - 1 < (logOf D p).length := by omega
    have hn := h.num (n.toNat - 1) hi
    obtain ⟨a, b⟩ := mem_log.1 (List.getElem_mem hi)
    refine ⟨(logOf D p)[n.toNat - 1], ?_⟩
    have := h.rget a b
    rw [hn, show ((n.toNat - 1 : Nat) : Int) + 1 = n by omega] at this
    exact this
/-- Each revision follows one of an earlier change that is live, or begins a line. -/
structure PrevOk (D : List Rev) : Prop where
  act : ∀ v ∈ D, 1 ≤ v.act ∧ v.act ≤ 5
  num : ∀ v ∈ D, 1 ≤ v.num
  prev : ∀ v ∈ D, v.act = 1 ∨ ∃ u, rPrev D v = some u ∧ u.chg < v.chg ∧ liveA u.act = true
theorem rGet_app {D E : List Rev} {p : ByteArray} {n : Int} {u : Rev} (h : rGet D p n = some u) : rGet (D ++ E) p n = some u := by
  unfold rGet at h ⊢
  rw [log_app, List.find?_append, h]; rfl
theorem rPrev_app {D E : List Rev} {v u : Rev} (h : rPrev D v = some u) : rPrev (D ++ E) v = some u := by
  unfold rPrev at h ⊢
  split
  · rename_i h1; rw [if_pos h1] at h; cases h
  · rename_i h1
    rw [if_neg h1] at h
    split
    · rename_i h2; rw [if_pos h2] at h; exact rGet_app h
    · rename_i h2; rw [if_neg h2] at h; exact rGet_app h
theorem rFirst_app {D E : List Rev} (hD : PrevOk D) {v : Rev} (hv : v ∈ D) : rFirst (D ++ E) v = rFirst D v := by
  suffices H : ∀ (n : Nat) (v : Rev), v ∈ D → D.countP (fun x => decide (x.chg < v.chg)) ≤ n → rFirst (D ++ E) v = rFirst D v from H _ v hv (Nat.le_refl _)
  intro n
  induction n with
  | zero =>
    intro v hv hn
    rcases hD.prev v hv with h | ⟨u, hu, hc, -⟩
    · rw [rFirst_none (by unfold rPrev; rw [if_pos h]), rFirst_none (by unfold rPrev; rw [if_pos h])]
    · have := chg_count (rPrev_mem hu) hc; omega
  | succ n ih =>
    intro v hv hn
    rcases hD.prev v hv with h | ⟨u, hu, hc, -⟩
    · rw [rFirst_none (by unfold rPrev; rw [if_pos h]), rFirst_none (by unfold rPrev; rw [if_pos h])]
    · rw [rFirst_some hu hc, rFirst_some (rPrev_app hu) hc]
      have := chg_count (rPrev_mem hu) hc
      exact ih u (rPrev_mem hu) (by omega)
theorem rFirst_in {D : List Rev} (hD : PrevOk D) {v : Rev} (hv : v ∈ D) : ∃ u ∈ D, rFirst D v = (u.path, u.num) := by
  suffices H : ∀ (n : Nat) (v : Rev), v ∈ D → D.countP (fun x => decide (x.chg < v.chg)) ≤ n → ∃ u ∈ D, rFirst D v = (u.path, u.num) from H _ v hv (Nat.le_refl _)
  intro n
  induction n with
  | zero =>
    intro v hv hn
    rcases hD.prev v hv with h | ⟨u, hu, hc, -⟩
    · exact ⟨v, hv, rFirst_none (by unfold rPrev; rw [if_pos h])⟩
    · have := chg_count (rPrev_mem hu) hc; omega
  | succ n ih =>
    intro v hv hn
    rcases hD.prev v hv with h | ⟨u, hu, hc, -⟩
    · exact ⟨v, hv, rFirst_none (by unfold rPrev; rw [if_pos h])⟩
    · have := chg_count (rPrev_mem hu) hc
      obtain ⟨x, hx, e⟩ := ih u (rPrev_mem hu) (by omega)
      exact ⟨x, hx, by rw [rFirst_some hu hc]; exact e⟩
theorem last_in {D : List Rev} {p : ByteArray} (h : LogOk D p) {v : Rev} (hl : lastOf D p = some v) : v ∈ D ∧ v.path = p ∧ rGet D p v.num = some v := by
  obtain ⟨a, b⟩ := lastOf_mem _ _ _ hl
  exact ⟨a, b, h.rget a b⟩
/-- The revision that the one that an edit makes follows. -/
theorem made_prev2 {d : Dep} {c : Chg} (hl : ∀ p, LogOk d.revs p) (hs : ∀ r ∈ d.revs, r.chg < c.num) (h2 : everyE (lastOf d.revs) emptyS c.edits = 0) {e : Edt} (he : e ∈ c.edits) : e.act = 1 ∨ ∃ u, rPrev d.revs (madeR (lastOf d.revs) c.num e) = some u ∧ u.chg < c.num ∧ liveA u.act = true ∧ (if e.act = 4 then (u.path, u.num) = (e.frm, e.fnum) else (u.path, u.num) = (e.path, (lastR (lastOf d.revs) e.path).num)) := by
  obtain ⟨o1, o2, o3, -⟩ := oneE_zero ((everyE_paths h2).2 e he).2.2
  by_cases a1 : e.act = 1
  · exact .inl a1
  right
  by_cases a4 : e.act = 4
  · unfold fromE at o3
    rw [if_pos a4] at o3
    simp only [Bool.and_eq_true, decide_eq_true_eq] at o3
    obtain ⟨⟨f1, -⟩, f3⟩ := o3
    unfold isLast at f1
    unfold lastR at f3
    cases hx : lastOf d.revs e.frm with
    | none => rw [hx] at f1; cases f1
    | some u =>
      rw [hx] at f1 f3
      simp only [Option.getD_some] at f3
      obtain ⟨b1, b2, b3⟩ := last_in (hl _) hx
      refine ⟨u, ?_, hs u b1, f1, ?_⟩
      · unfold rPrev
        rw [if_neg (show ¬ (madeR (lastOf d.revs) c.num e).act = 1 from a1), if_pos (show (madeR (lastOf d.revs) c.num e).act = 4 from a4)]
        show rGet d.revs e.frm e.fnum = some u
        rw [f3]; exact b3
      · rw [if_pos a4, b2, f3]
  · have hadd := actE_zero o1
    have hna : addA e.act = false := by unfold addA; simp [a1, a4]
    rw [hna] at hadd
    have hlv : isLast (lastOf d.revs) e.path = true := by simpa using hadd.symm
    unfold isLast at hlv
    cases hx : lastOf d.revs e.path with
    | none => rw [hx] at hlv; cases hlv
    | some u =>
      rw [hx] at hlv
      obtain ⟨b1, b2, b3⟩ := last_in (hl _) hx
      have hR : lastR (lastOf d.revs) e.path = u := by unfold lastR; rw [hx]; rfl
      refine ⟨u, ?_, hs u b1, hlv, ?_⟩
      · unfold rPrev
        rw [if_neg (show ¬ (madeR (lastOf d.revs) c.num e).act = 1 from a1), if_neg (show ¬ (madeR (lastOf d.revs) c.num e).act = 4 from a4)]
        show rGet d.revs e.path ((lastR (lastOf d.revs) e.path).num + 1 - 1) = some u
        rw [hR, show u.num + 1 - 1 = u.num by omega]
        exact b3
      · rw [if_neg a4, hR, b2]
theorem made_prev {d : Dep} {c : Chg} (hl : ∀ p, LogOk d.revs p) (h : appE d c = 0) {e : Edt} (he : e ∈ c.edits) : e.act = 1 ∨ ∃ u, rPrev d.revs (madeR (lastOf d.revs) c.num e) = some u ∧ u.chg < c.num ∧ liveA u.act = true ∧ (if e.act = 4 then (u.path, u.num) = (e.frm, e.fnum) else (u.path, u.num) = (e.path, (lastR (lastOf d.revs) e.path).num)) :=
  made_prev2 hl (sizeE_zero (appE_zero h).1).2.2.2.2.2 (appE_zero h).2.1 he
theorem acts_ok {last : ByteArray → Option Rev} {e : Edt} (h : actE last e = 0) : 1 ≤ e.act ∧ e.act ≤ 5 := by
  unfold actE at h
  split at h
  · omega
  · split at h
    · omega
    · omega
theorem app_prevOk {d : Dep} {c : Chg} (hl : ∀ p, LogOk d.revs p) (hP : PrevOk d.revs) (h : appE d c = 0) : PrevOk (newRevs d c) := by
  obtain ⟨h1, h2, -, -, -⟩ := appE_zero h
  refine ⟨fun v hv => ?_, fun v hv => ?_, fun v hv => ?_⟩
  · rcases List.mem_append.1 hv with hv | hv
    · exact hP.act v hv
    · obtain ⟨e, he, rfl⟩ := List.mem_map.1 hv
      exact acts_ok (oneE_zero ((everyE_paths h2).2 e he).2.2).1
  · rcases List.mem_append.1 hv with hv | hv
    · exact hP.num v hv
    · obtain ⟨e, he, rfl⟩ := List.mem_map.1 hv
      show 1 ≤ (lastR (lastOf d.revs) e.path).num + 1
      unfold lastR
      cases hx : lastOf d.revs e.path with
      | none => simp [zeroRev]
      | some u => have := hP.num u (lastOf_mem _ _ _ hx).1; simp; omega
  · rcases List.mem_append.1 hv with hv | hv
    · rcases hP.prev v hv with h | ⟨u, a, b⟩
      · exact .inl h
      · exact .inr ⟨u, rPrev_app a, b⟩
    · obtain ⟨e, he, rfl⟩ := List.mem_map.1 hv
      rcases made_prev hl h he with h | ⟨u, a, b, c', -⟩
      · exact .inl h
      · exact .inr ⟨u, rPrev_app a, b, c'⟩
/-- The map of the lines holds the first members, and none of a file that moved away. -/
structure LineOk (D : List Rev) : Prop where
  live : ∀ v ∈ D, v.act ≠ 5 → linesOf D (v.path, v.num) = some (rFirst D v)
  none_ : ∀ f, (∀ v ∈ D, v.act ≠ 5 → (v.path, v.num) ≠ f) → linesOf D f = none
theorem lines_news (last : ByteArray → Option Rev) (n : Int) (g : Edt → Fil) : ∀ (es : List Edt) (f : Fil → Option Fil), (es.map (·.path)).Nodup → (∀ e ∈ es, e.act ≠ 5 → ∀ h : Fil → Option Fil, (∀ k, (∀ x ∈ es, k ≠ (x.path, (lastR last x.path).num + 1)) → h k = f k) → lineV h (madeR last n e) = g e) →
    ∀ k, ((es.map (madeR last n)).foldl lineM f) k = (match es.find? (fun e => decide (e.act ≠ 5) && decide ((e.path, (lastR last e.path).num + 1) = k)) with
      | some e => some (g e)
      | none => f k) := by
  intro es
  induction es with
  | nil => intro f _ _ k; rfl
  | cons e es ih =>
    intro f hn hg k
    rw [List.map_cons, List.nodup_cons] at hn
    rw [List.map_cons, List.foldl_cons]
    have hkey : ∀ x ∈ es, (e.path, (lastR last e.path).num + 1) ≠ (x.path, (lastR last x.path).num + 1) := by
      intro x hx h
      injection h with h _
      exact hn.1 (List.mem_map.2 ⟨x, hx, h.symm⟩)
    by_cases h5 : e.act = 5
    · have hl : lineM f (madeR last n e) = f := by unfold lineM; rw [if_pos (show (madeR last n e).act = 5 from h5)]
      rw [hl, List.find?_cons_of_neg (by simp [h5])]
      refine ih f hn.2 (fun x hx hx5 h hh => hg x (List.mem_cons_of_mem _ hx) hx5 h fun k hk => hh k fun y hy => hk y (List.mem_cons_of_mem _ hy)) k
    · have hv : lineV f (madeR last n e) = g e := hg e (List.mem_cons_self ..) h5 f fun _ _ => rfl
      have hl : lineM f (madeR last n e) = upd f (e.path, (lastR last e.path).num + 1) (g e) := by
        unfold lineM
        rw [if_neg (show ¬ (madeR last n e).act = 5 from h5), hv]
        rfl
      rw [hl]
      rw [ih (upd f (e.path, (lastR last e.path).num + 1) (g e)) hn.2 (fun x hx hx5 h hh => hg x (List.mem_cons_of_mem _ hx) hx5 h fun k hk => by
        rw [hh k fun y hy => hk y (List.mem_cons_of_mem _ hy)]
        unfold upd
        rw [if_neg (hk e (List.mem_cons_self ..))]) k]
      by_cases hk : (e.path, (lastR last e.path).num + 1) = k
      · rw [List.find?_cons_of_pos (by simp [h5, hk])]
        have hf : es.find? (fun e => decide (e.act ≠ 5) && decide ((e.path, (lastR last e.path).num + 1) = k)) = none := by
          rw [List.find?_eq_none]
          intro x hx hh
          rw [Bool.and_eq_true] at hh
          exact hkey x hx (hk.trans (of_decide_eq_true hh.2).symm)
        rw [hf]
        dsimp only
        unfold upd
        rw [if_pos hk.symm]
      · rw [List.find?_cons_of_neg (by simp [hk])]
        cases es.find? (fun e => decide (e.act ≠ 5) && decide ((e.path, (lastR last e.path).num + 1) = k)) with
        | some x => rfl
        | none =>
          dsimp only
          unfold upd
          rw [if_neg (fun h => hk h.symm)]
theorem find_edit {es : List Edt} (hn : (es.map (·.path)).Nodup) (last : ByteArray → Option Rev) {e : Edt} (he : e ∈ es) (h5 : e.act ≠ 5) : es.find? (fun x => decide (x.act ≠ 5) && decide ((x.path, (lastR last x.path).num + 1) = (e.path, (lastR last e.path).num + 1))) = some e := by
  induction es with
  | nil => cases he
  | cons x es ih =>
    rw [List.map_cons, List.nodup_cons] at hn
    rcases List.mem_cons.1 he with rfl | he
    · rw [List.find?_cons_of_pos (by simp [h5])]
    · have hne : x.path ≠ e.path := fun h => hn.1 (List.mem_map.2 ⟨e, he, h.symm⟩)
      rw [List.find?_cons_of_neg (by simp [hne])]
      exact ih hn.2 he
theorem app_lineOk {d : Dep} {c : Chg} (hl : ∀ p, LogOk d.revs p) (hP : PrevOk d.revs) (hL : LineOk d.revs) (h : appE d c = 0) : LineOk (newRevs d c) := by
  obtain ⟨h1, h2, -, -, -⟩ := appE_zero h
  obtain ⟨p1, p2⟩ := everyE_paths h2
  have hn := paths_nodup p1
  -- what the map holds of a revision that an edit follows
  have hold : ∀ u : Rev, u ∈ d.revs → liveA u.act = true → linesOf d.revs (u.path, u.num) = some (rFirst d.revs u) := fun u hu hl => hL.live u hu (fun h5 => by rw [h5] at hl; cases hl)
  have hkey : ∀ u ∈ d.revs, ∀ x ∈ c.edits, (u.path, u.num) ≠ (x.path, (lastR (lastOf d.revs) x.path).num + 1) := by
    intro u hu x hx e
    injection e with e1 e2
    have := last_bound hl hu
    rw [e1] at this
    omega
  have hlin : ∀ k, linesOf (newRevs d c) k = (match c.edits.find? (fun e => decide (e.act ≠ 5) && decide ((e.path, (lastR (lastOf d.revs) e.path).num + 1) = k)) with
      | some e => some (rFirst (newRevs d c) (madeR (lastOf d.revs) c.num e))
      | none => linesOf d.revs k) := by
    intro k
    have hf : linesOf (newRevs d c) = (c.edits.map (madeR (lastOf d.revs) c.num)).foldl lineM (linesOf d.revs) := by unfold newRevs linesOf; rw [List.foldl_append]
    rw [hf]
    refine lines_news (lastOf d.revs) c.num (fun e => rFirst (newRevs d c) (madeR (lastOf d.revs) c.num e)) c.edits (linesOf d.revs) hn ?_ k
    intro e he h5 g hg
    rcases made_prev hl h he with a1 | ⟨u, u1, u2, u3, u4⟩
    · rw [rFirst_none (by unfold rPrev; rw [if_pos (show (madeR (lastOf d.revs) c.num e).act = 1 from a1)])]
      unfold lineV
      rw [if_pos (show (madeR (lastOf d.revs) c.num e).act = 1 from a1)]
    · have hu := rPrev_mem u1
      have ha1 : e.act ≠ 1 := by
        intro a1
        unfold rPrev at u1
        rw [if_pos (show (madeR (lastOf d.revs) c.num e).act = 1 from a1)] at u1
        cases u1
      have hr : rFirst (newRevs d c) (madeR (lastOf d.revs) c.num e) = rFirst d.revs u := by
        show rFirst (d.revs ++ c.edits.map (madeR (lastOf d.revs) c.num)) (madeR (lastOf d.revs) c.num e) = _
        rw [rFirst_some (rPrev_app (E := c.edits.map (madeR (lastOf d.revs) c.num)) u1) u2]
        exact rFirst_app hP hu
      rw [hr]
      have hgu : g (u.path, u.num) = some (rFirst d.revs u) := by
        rw [hg _ (hkey u hu)]
        exact hold u hu u3
      unfold lineV
      rw [if_neg (show ¬ (madeR (lastOf d.revs) c.num e).act = 1 from ha1)]
      by_cases a4 : e.act = 4
      · rw [if_pos (show (madeR (lastOf d.revs) c.num e).act = 4 from a4)]
        rw [if_pos a4] at u4
        show (g (e.frm, e.fnum)).getD zeroFil = _
        rw [← u4, hgu]; rfl
      · rw [if_neg (show ¬ (madeR (lastOf d.revs) c.num e).act = 4 from a4)]
        rw [if_neg a4] at u4
        show (g (e.path, (lastR (lastOf d.revs) e.path).num + 1 - 1)).getD zeroFil = _
        rw [show (lastR (lastOf d.revs) e.path).num + 1 - 1 = (lastR (lastOf d.revs) e.path).num by omega, ← u4, hgu]; rfl
  refine ⟨fun v hv h5 => ?_, fun f hf => ?_⟩
  · rw [hlin]
    rcases List.mem_append.1 hv with hv | hv
    · have hnf : c.edits.find? (fun e => decide (e.act ≠ 5) && decide ((e.path, (lastR (lastOf d.revs) e.path).num + 1) = (v.path, v.num))) = none := by
        rw [List.find?_eq_none]
        intro x hx hh
        rw [Bool.and_eq_true] at hh
        exact hkey v hv x hx (of_decide_eq_true hh.2).symm
      rw [hnf]
      dsimp only
      rw [hL.live v hv h5]
      exact congrArg some (rFirst_app hP hv).symm
    · obtain ⟨e, he, rfl⟩ := List.mem_map.1 hv
      have := find_edit hn (lastOf d.revs) he h5
      rw [show ((madeR (lastOf d.revs) c.num e).path, (madeR (lastOf d.revs) c.num e).num) = (e.path, (lastR (lastOf d.revs) e.path).num + 1) from rfl, this]
  · rw [hlin]
    have hnf : c.edits.find? (fun e => decide (e.act ≠ 5) && decide ((e.path, (lastR (lastOf d.revs) e.path).num + 1) = f)) = none := by
      rw [List.find?_eq_none]
      intro x hx hh
      rw [Bool.and_eq_true] at hh
      exact hf (madeR (lastOf d.revs) c.num x) (List.mem_append_right _ (List.mem_map_of_mem hx)) (of_decide_eq_true hh.1) (of_decide_eq_true hh.2)
    rw [hnf]
    exact hL.none_ f fun v hv => hf v (List.mem_append_left _ hv)
/-- All that is known of a depot that was played. -/
structure DepOk (d : Dep) : Prop where
  log : ∀ p, LogOk d.revs p
  rec_ : RecOk d
  prev : PrevOk d.revs
  line : LineOk d.revs
theorem depOk_nil : DepOk ⟨[], []⟩ := ⟨fun p => plays_log Plays.nil p, plays_recOk Plays.nil, ⟨fun v hv => (by cases hv), fun v hv => (by cases hv), fun v hv => (by cases hv)⟩, ⟨fun v hv => (by cases hv), fun f _ => rfl⟩⟩
theorem DepOk.step {d : Dep} {c : Chg} {rs : List Rcd} (h : DepOk d) (h0 : appE d c = 0) (h1 : rs.Perm (d.recs ++ c.recs)) (h2 : rs.Pairwise (fun a b => 0 ≤ cmpR b a)) : DepOk ⟨newRevs d c, rs⟩ :=
  ⟨fun p => log_step h0 p (h.log p), app_recOk h.log h.rec_ h0 h1 h2, app_prevOk h.log h.prev h0, app_lineOk h.log h.prev h.line h0⟩
theorem plays_depOk {l : List Chg} {d : Dep} (h : Plays l d) : DepOk d := by
  induction h with
  | nil => exact depOk_nil
  | skip _ _ ih => exact ih
  | step _ h0 h1 h2 ih => exact ih.step h0 h1 h2
end Go.Proofs.YtnblfaagchflaaaGreatDoor
