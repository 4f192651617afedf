/- Plain Lean: what the walk of Append leans on, and that Append keeps it. -/
import Derived.Test.YtmhmnchdhacdbaaMzSrt
import Derived.Test.YtmhmnchdhacdbaaMzCat
namespace Go.Proofs.Ytmhmnchdhacdbaa
open Go.RowKit
set_option linter.unusedVariables false
set_option linter.unusedSimpArgs false

structure DepW (d : Dep) : Prop where
  len : d.revs.length ≤ 512
  rlen : d.recs.length ≤ 512
  num : ∀ r ∈ d.revs, 0 < r.num ∧ r.num ≤ d.revs.length
  path : ∀ r ∈ d.revs, validS r.path = true
  rec_ : ∀ r ∈ d.recs, r.good
structure ChgW (c : Chg) : Prop where
  len : c.edits.length ≤ 1000
  rlen : c.recs.length ≤ 1000
  path : ∀ x ∈ c.edits, x.path.size ≤ 1000
  rec_ : ∀ r ∈ c.recs, r.small ∧ r.last ≤ 9223372036854775807

theorem lastM_mem {f : ByteArray → Option Rev} {revs : List Rev} {x : Rev} (h : ∀ p r, f p = some r → r ∈ revs ∧ r.path = p) : ∀ p r, lastM f x p = some r → r ∈ revs ++ [x] ∧ r.path = p := by
  intro p r hr
  have hu : ∀ p r, upd f x.path x p = some r → r ∈ revs ++ [x] ∧ r.path = p := by
    intro p r hr
    unfold upd at hr
    by_cases e : p = x.path
    · rw [if_pos (by simpa using e)] at hr
      injection hr with hr
      subst hr
      exact ⟨by simp, e.symm⟩
    · rw [if_neg (by simpa using e)] at hr
      obtain ⟨h1, h2⟩ := h p r hr
      exact ⟨by simp [h1], h2⟩
  unfold lastM at hr
  cases hb : f x.path with
  | none => rw [hb] at hr; exact hu p r hr
  | some b =>
    rw [hb] at hr
    simp only at hr
    by_cases hlt : b.num < x.num
    · rw [if_pos hlt] at hr; exact hu p r hr
    · rw [if_neg hlt] at hr
      obtain ⟨h1, h2⟩ := h p r hr
      exact ⟨by simp [h1], h2⟩
theorem lastOf_mem (revs : List Rev) : ∀ p r, lastOf revs p = some r → r ∈ revs ∧ r.path = p := by
  suffices H : ∀ (l done : List Rev) (f : ByteArray → Option Rev), (∀ p r, f p = some r → r ∈ done ∧ r.path = p) → ∀ p r, l.foldl lastM f p = some r → r ∈ done ++ l ∧ r.path = p by
    intro p r hr
    have := H revs [] (fun _ => none) (fun p r h => by cases h) p r hr
    simpa using this
  intro l
  induction l with
  | nil => intro done f h p r hr; simpa using h p r hr
  | cons x l ih =>
    intro done f h p r hr
    have := ih (done ++ [x]) (lastM f x) (lastM_mem h) p r hr
    simpa using this
theorem DepW.lastNum {d : Dep} (h : DepW d) (p : ByteArray) : 0 ≤ (lastR (lastOf d.revs) p).num ∧ (lastR (lastOf d.revs) p).num ≤ d.revs.length := by
  unfold lastR
  cases hl : lastOf d.revs p with
  | none => simp [zeroRev]
  | some r =>
    have := h.num r (lastOf_mem _ _ _ hl).1
    simp; omega
theorem editsOf_mem (es : List Edt) : ∀ p e, editsOf es p = some e → e ∈ es ∧ e.path = p := by
  suffices H : ∀ (l done : List Edt) (f : ByteArray → Option Edt), (∀ p r, f p = some r → r ∈ done ∧ r.path = p) → ∀ p r, l.foldl (fun f e => upd f e.path e) f p = some r → r ∈ done ++ l ∧ r.path = p by
    intro p r hr
    have := H es [] (fun _ => none) (fun p r h => by cases h) p r hr
    simpa using this
  intro l
  induction l with
  | nil => intro done f h p r hr; simpa using h p r hr
  | cons x l ih =>
    intro done f h p r hr
    have := ih (done ++ [x]) (upd f x.path x) (fun p r hr => by
      unfold upd at hr
      by_cases e : p = x.path
      · rw [if_pos (by simpa using e)] at hr
        injection hr with hr
        subst hr
        exact ⟨by simp, e.symm⟩
      · rw [if_neg (by simpa using e)] at hr
        obtain ⟨h1, h2⟩ := h p r hr
        exact ⟨by simp [h1], h2⟩) p r hr
    simpa using this
theorem greatest_mem {revs : List Rev} {q : ByteArray} {p : Rev → Bool} {v : Rev} (h : greatest revs q p = some v) : v ∈ revs ∧ v.path = q ∧ p v = true := by
  suffices H : ∀ (l : List Rev) (o : Option Rev) (S : Rev → Prop), (∀ x, o = some x → S x ∧ x.path = q ∧ p x = true) → (∀ x ∈ l, S x) → ∀ v, l.foldl (fun o r => if r.path = q ∧ p r = true then (match o with
    | none => some r
    | some b => if b.num < r.num then some r else some b) else o) o = some v → S v ∧ v.path = q ∧ p v = true by
    exact H revs none (fun x => x ∈ revs) (fun x hx => by cases hx) (fun x hx => hx) v h
  intro l
  induction l with
  | nil => intro o S ho hl v hv; exact ho v hv
  | cons x l ih =>
    intro o S ho hl v hv
    refine ih _ S ?_ (fun y hy => hl y (List.mem_cons_of_mem _ hy)) v hv
    intro y hy
    simp only at hy
    split at hy
    · rename_i hx
      split at hy
      · injection hy with hy; subst hy; exact ⟨hl _ (List.mem_cons_self ..), hx⟩
      · split at hy
        · injection hy with hy; subst hy; exact ⟨hl _ (List.mem_cons_self ..), hx⟩
        · injection hy with hy; subst hy; exact ho _ rfl
    · exact ho y hy
theorem recsF_all {revs : List Rev} {c : Chg} {ed : ByteArray → Option Edt} : ∀ (rs : List Rcd) (b : Option Rcd), recsF revs c ed b rs = true → ∀ r ∈ rs, recOk revs c ed r = true
  | [], b, h, r, hr => by cases hr
  | x :: rs, b, h, r, hr => by
    unfold recsF at h
    simp only [Bool.and_eq_true] at h
    rcases List.mem_cons.1 hr with rfl | hr
    · exact h.1.2
    · exact recsF_all rs _ h.2 r hr
theorem recsE_zero {revs : List Rev} {c : Chg} (h : recsE revs c = 0) : recsF revs c (editsOf c.edits) none c.recs = true := by
  unfold recsE at h; split at h
  · assumption
  · cases h
/-- A record that is accepted: its target is an edit, its source a revision. -/
theorem isRec_parts {revs : List Rev} {n : Int} {ed : ByteArray → Option Edt} {r : Rcd} (h : isRec revs n ed r = true) : (∃ e, ed r.to = some e ∧ e.act ≠ 5 ∧ r.num = e.base + 1) ∧ ∃ v, greatest revs r.frm (fun v => decide (v.num = r.last)) = some v := by
  unfold isRec at h
  cases he : ed r.to with
  | none => rw [he] at h; cases h
  | some e =>
    rw [he] at h
    simp only at h
    split at h
    · cases h
    · rename_i hn
      refine ⟨⟨e, rfl, fun h5 => hn (.inl h5), ?_⟩, ?_⟩
      · exact Classical.byContradiction fun hc => hn (.inr (.inl hc))
      · unfold sourceR at h
        cases hg : greatest revs r.frm (fun v => decide (v.num = r.last)) with
        | none => rw [hg] at h; cases h
        | some v => exact ⟨v, rfl⟩
theorem appE_goods {d : Dep} {c : Chg} (hd : DepW d) (hc : ChgW c) (h2 : everyE (lastOf d.revs) emptyS c.edits = 0) (h4 : recsE d.revs c = 0) : ∀ r ∈ c.recs, r.good := by
  intro r hr
  have h1 := recsF_all _ _ (recsE_zero h4) r hr
  unfold recOk at h1
  rw [Bool.and_eq_true] at h1
  obtain ⟨⟨e, he, -, -⟩, v, hv⟩ := isRec_parts h1.1
  obtain ⟨g1, g2, -⟩ := greatest_mem hv
  obtain ⟨k1, k2⟩ := editsOf_mem _ _ _ he
  refine ⟨(hc.rec_ r hr).1, ?_, ?_⟩
  · rw [← g2]; exact hd.path v g1
  · rw [← k2]; exact ((everyE_paths h2).2 e k1).1
theorem roomE_zero {d : Dep} {c : Chg} (h : roomE d c = 0) : d.revs.length + c.edits.length ≤ 512 ∧ d.recs.length + c.recs.length ≤ 512 := by
  unfold roomE at h; split at h
  · cases h
  · omega
theorem appE_keeps {d : Dep} {c : Chg} (hd : DepW d) (hc : ChgW c) (h : appE d c = 0) (l : List Rcd) (hl : l.Perm (d.recs ++ c.recs)) : DepW ⟨newRevs d c, l⟩ := by
  obtain ⟨h1, h2, h3, h4, h5⟩ := appE_zero h
  obtain ⟨r1, r2⟩ := roomE_zero h5
  obtain ⟨s1, -⟩ := sizeE_zero h1
  have hlen : (newRevs d c).length = d.revs.length + c.edits.length := by unfold newRevs; simp
  refine ⟨by simp only [hlen]; exact r1, by simp only [hl.length_eq, List.length_append]; exact r2, ?_, ?_, ?_⟩
  · intro r hr
    simp only [hlen]
    rcases List.mem_append.1 hr with hr | hr
    · have := hd.num r hr; omega
    · obtain ⟨e, he, rfl⟩ := List.mem_map.1 hr
      have := hd.lastNum e.path
      simp only [madeR]; omega
  · intro r hr
    rcases List.mem_append.1 hr with hr | hr
    · exact hd.path r hr
    · obtain ⟨e, he, rfl⟩ := List.mem_map.1 hr
      exact ((everyE_paths h2).2 e he).1
  · intro r hr
    rcases List.mem_append.1 (hl.mem_iff.1 hr) with hr | hr
    · exact hd.rec_ r hr
    · exact appE_goods hd hc h2 h4 r hr
theorem appE_bases {d : Dep} {c : Chg} (hd : DepW d) (h2 : everyE (lastOf d.revs) emptyS c.edits = 0) : ∀ p e, editsOf c.edits p = some e → 0 ≤ e.base ∧ e.base ≤ 1000000 := by
  intro p e he
  obtain ⟨k1, k2⟩ := editsOf_mem _ _ _ he
  have := (oneE_zero ((everyE_paths h2).2 e k1).2.2).2.1
  have h3 := hd.lastNum e.path
  have := hd.len
  omega
/-- Records that are good, as elements of the sort. -/
theorem goods_list {l : List Rcd} (h : ∀ r ∈ l, r.good) : ∃ l' : List OkRcd, l'.map (·.1) = l ∧ l'.length = l.length ∧ l'.flatMap OkRcd.enc = l.flatMap Rcd.cells := by
  induction l with
  | nil => exact ⟨[], rfl, rfl, rfl⟩
  | cons r l ih =>
    obtain ⟨l', h1, h2, h3⟩ := ih fun x hx => h x (List.mem_cons_of_mem _ hx)
    exact ⟨⟨r, h r (List.mem_cons_self ..)⟩ :: l', by simp [h1], by simp [h2], by simp [h3, OkRcd.enc]⟩
theorem enc_list (l : List OkRcd) : l.flatMap OkRcd.enc = (l.map (·.1)).flatMap Rcd.cells := by
  induction l with
  | nil => rfl
  | cons r l ih => simp [ih, OkRcd.enc]
end Go.Proofs.Ytmhmnchdhacdbaa
