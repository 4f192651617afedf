/- Plain Lean: what the walk of Append leans on, and that Append keeps it. -/
import Derived.Test.YtnblfaagchflaaaGreatDoorMgw10
import Derived.Test.YtnblfaagchflaaaGreatDoorMgw2
import Derived.Test.YtnblfaagchflaaaGreatDoorMgw14
import Derived.StillTailTactics
import Derived.IntWalk
import Derived.Laws.EntriesVeiled
import Derived.Lib.AppendZeros
namespace Go.Proofs.YtnblfaagchflaaaGreatDoor
open Go.RowKit
set_option linter.unusedVariables false
set_option linter.unusedSimpArgs false

structure DepW (d : Dep) : Prop where
  len : d.revs.length ≤ 512
  rlen : d.recs.length ≤ 512
  num : ∀ r ∈ d.revs, 0 < r.num ∧ r.num ≤ d.revs.length
  path : ∀ r ∈ d.revs, validS r.path = true
  rec_ : ∀ r ∈ d.recs, r.good
structure ChgW (c : Chg) : Prop where
  len : c.edits.length ≤ 1000
  rlen : c.recs.length ≤ 1000
  path : ∀ x ∈ c.edits, x.path.size ≤ 1000
  rec_ : ∀ r ∈ c.recs, r.small ∧ r.last ≤ 9223372036854775807

theorem lastM_mem {f : ByteArray → Option Rev} {revs : List Rev} {x : Rev} (h : ∀ p r, f p = some r → r ∈ revs ∧ r.path = p) : ∀ p r, lastM f x p = some r → r ∈ revs ++ [x] ∧ r.path = p := by
  intro p r hr
  have hu : ∀ p r, upd f x.path x p = some r → r ∈ revs ++ [x] ∧ r.path = p := by
    intro p r hr
    unfold upd at hr
    by_cases e : p = x.path
    · rw [if_pos (by simpa using e)] at hr
      injection hr with hr
      subst hr
      exact ⟨by simp, e.symm⟩
    · rw [if_neg (by simpa using e)] at hr
      obtain ⟨h1, h2⟩ := h p r hr
      exact ⟨by simp [h1], h2⟩
  unfold lastM at hr
  cases hb : f x.path with
  | none => rw [hb] at hr; exact hu p r hr
  | some b =>
    rw [hb] at hr
    simp only at hr
    by_cases hlt : b.num < x.num
    · rw [if_pos hlt] at hr; exact hu p r hr
    · rw [if_neg hlt] at hr
      obtain ⟨h1, h2⟩ := h p r hr
      exact ⟨by simp [h1], h2⟩
theorem lastOf_mem (revs : List Rev) : ∀ p r, lastOf revs p = some r → r ∈ revs ∧ r.path = p := by
  suffices H : ∀ (l done : List Rev) (f : ByteArray → Option Rev), (∀ p r, f p = some r → r ∈ done ∧ r.path = p) → ∀ p r, l.foldl lastM f p = some r → r ∈ done ++ l ∧ r.path = p by
    intro p r hr
    have := H revs [] (fun _ => none) (fun p r h => by cases h) p r hr
    simpa using this
  intro l
  induction l with
  | nil => intro done f h p r hr; simpa using h p r hr
  | cons x l ih =>
    intro done f h p r hr
    have := ih (done ++ [x]) (lastM f x) (lastM_mem h) p r hr
    simpa using this
theorem DepW.lastNum {d : Dep} (h : DepW d) (p : ByteArray) : 0 ≤ (lastR (lastOf d.revs) p).num ∧ (lastR (lastOf d.revs) p).num ≤ d.revs.length := by
  unfold lastR
  cases hl : lastOf d.revs p with
  | none => simp [zeroRev]
  | some r =>
    have := h.num r (lastOf_mem _ _ _ hl).1
    simp; omega
theorem editsOf_mem (es : List Edt) : ∀ p e, editsOf es p = some e → e ∈ es ∧ e.path = p := by
  suffices H : ∀ (l done : List Edt) (f : ByteArray → Option Edt), (∀ p r, f p = some r → r ∈ done ∧ r.path = p) → ∀ p r, l.foldl (fun f e => upd f e.path e) f p = some r → r ∈ done ++ l ∧ r.path = p by
    intro p r hr
    have := H es [] (fun _ => none) (fun p r h => by cases h) p r hr
    simpa using this
  intro l
  induction l with
  | nil => intro done f h p r hr; simpa using h p r hr
  | cons x l ih =>
    intro done f h p r hr
    have := ih (done ++ [x]) (upd f x.path x) (fun p r hr => by
      unfold upd at hr
      by_cases e : p = x.path
      · rw [if_pos (by simpa using e)] at hr
        injection hr with hr
        subst hr
        exact ⟨by simp, e.symm⟩
      · rw [if_neg (by simpa using e)] at hr
        obtain ⟨h1, h2⟩ := h p r hr
        exact ⟨by simp [h1], h2⟩) p r hr
    simpa using this
theorem greatest_mem {revs : List Rev} {q : ByteArray} {p : Rev → Bool} {v : Rev} (h : greatest revs q p = some v) : v ∈ revs ∧ v.path = q ∧ p v = true := by
  suffices H : ∀ (l : List Rev) (o : Option Rev) (S : Rev → Prop), (∀ x, o = some x → S x ∧ x.path = q ∧ p x = true) → (∀ x ∈ l, S x) → ∀ v, l.foldl (fun o r => if r.path = q ∧ p r = true then (match o with
    | none => some r
    | some b => if b.num < r.num then some r else some b) else o) o = some v → S v ∧ v.path = q ∧ p v = true by
    exact H revs none (fun x => x ∈ revs) (fun x hx => by cases hx) (fun x hx => hx) v h
  intro l
  induction l with
  | nil => intro o S ho hl v hv; exact ho v hv
  | cons x l ih =>
    intro o S ho hl v hv
    refine ih _ S ?_ (fun y hy => hl y (List.mem_cons_of_mem _ hy)) v hv
    intro y hy
    simp only at hy
    split at hy
    · rename_i hx
      split at hy
      · injection hy with hy; subst hy; exact ⟨hl _ (List.mem_cons_self ..), hx⟩
      · split at hy
        · injection hy with hy; subst hy; exact ⟨hl _ (List.mem_cons_self ..), hx⟩
        · injection hy with hy; subst hy; exact ho _ rfl
    · exact ho y hy
theorem recsF_all {revs : List Rev} {c : Chg} {ed : ByteArray → Option Edt} : ∀ (rs : List Rcd) (b : Option Rcd), recsF revs c ed b rs = true → ∀ r ∈ rs, recOk revs c ed r = true
  | [], b, h, r, hr => by cases hr
  | x :: rs, b, h, r, hr => by
    unfold recsF at h
    simp only [Bool.and_eq_true] at h
    rcases List.mem_cons.1 hr with rfl | hr
    · exact h.1.2
    · exact recsF_all rs _ h.2 r hr
theorem recsE_zero {revs : List Rev} {c : Chg} (h : recsE revs c = 0) : recsF revs c (editsOf c.edits) none c.recs = true := by
  unfold recsE at h; split at h
  · assumption
  · cases h
/-- A record that is accepted: its target is an edit, its source a revision. -/
theorem isRec_parts {revs : List Rev} {n : Int} {ed : ByteArray → Option Edt} {r : Rcd} (h : isRec revs n ed r = true) : (∃ e, ed r.to = some e ∧ e.act ≠ 5 ∧ r.num = e.base + 1) ∧ ∃ v, greatest revs r.frm (fun v => decide (v.num = r.last)) = some v := by
  unfold isRec at h
  cases he : ed r.to with
  | none => rw [he] at h; cases h
  | some e =>
    rw [he] at h
    simp only at h
    split at h
    · cases h
    · rename_i hn
      refine ⟨⟨e, rfl, fun h5 => hn (.inl h5), ?_⟩, ?_⟩
      · exact Classical.byContradiction fun hc => hn (.inr (.inl hc))
      · unfold sourceR at h
        cases hg : greatest revs r.frm (fun v => decide (v.num = r.last)) with
        | none => rw [hg] at h; cases h
        | some v => exact ⟨v, rfl⟩
theorem appE_goods {d : Dep} {c : Chg} (hd : DepW d) (hc : ChgW c) (h2 : everyE (lastOf d.revs) emptyS c.edits = 0) (h4 : recsE d.revs c = 0) : ∀ r ∈ c.recs, r.good := by
  intro r hr
  have h1 := recsF_all _ _ (recsE_zero h4) r hr
  unfold recOk at h1
  rw [Bool.and_eq_true] at h1
  obtain ⟨⟨e, he, -, -⟩, v, hv⟩ := isRec_parts h1.1
  obtain ⟨g1, g2, -⟩ := greatest_mem hv
  obtain ⟨k1, k2⟩ := editsOf_mem _ _ _ he
  refine ⟨(hc.rec_ r hr).1, ?_, ?_⟩
  · rw [← g2]; exact hd.path v g1
  · rw [← k2]; exact ((everyE_paths h2).2 e k1).1
theorem roomE_zero {d : Dep} {c : Chg} (h : roomE d c = 0) : d.revs.length + c.edits.length ≤ 512 ∧ d.recs.length + c.recs.length ≤ 512 := by
  unfold roomE at h; split at h
  · cases h
  · omega
theorem appE_keeps {d : Dep} {c : Chg} (hd : DepW d) (hc : ChgW c) (h : appE d c = 0) (l : List Rcd) (hl : l.Perm (d.recs ++ c.recs)) : DepW ⟨newRevs d c, l⟩ := by
  obtain ⟨h1, h2, h3, h4, h5⟩ := appE_zero h
  obtain ⟨r1, r2⟩ := roomE_zero h5
  obtain ⟨s1, -⟩ := sizeE_zero h1
  have hlen : (newRevs d c).length = d.revs.length + c.edits.length := by unfold newRevs; simp
  refine ⟨by simp only [hlen]; exact r1, by simp only [hl.length_eq, List.length_append]; exact r2, ?_, ?_, ?_⟩
  · intro r hr
    simp only [hlen]
    rcases List.mem_append.1 hr with hr | hr
    · have := hd.num r hr; omega
    · obtain ⟨e, he, rfl⟩ := List.mem_map.1 hr
      have := hd.lastNum e.path
      simp only [madeR]; omega
  · intro r hr
    rcases List.mem_append.1 hr with hr | hr
    · exact hd.path r hr
    · obtain ⟨e, he, rfl⟩ := List.mem_map.1 hr
      exact ((everyE_paths h2).2 e he).1
  · intro r hr
    rcases List.mem_append.1 (hl.mem_iff.1 hr) with hr | hr
    · exact hd.rec_ r hr
    · exact appE_goods hd hc h2 h4 r hr
theorem appE_bases {d : Dep} {c : Chg} (hd : DepW d) (h2 : everyE (lastOf d.revs) emptyS c.edits = 0) : ∀ p e, editsOf c.edits p = some e → 0 ≤ e.base ∧ e.base ≤ 1000000 := by
  intro p e he
  obtain ⟨k1, k2⟩ := editsOf_mem _ _ _ he
  have := (oneE_zero ((everyE_paths h2).2 e k1).2.2).2.1
  have h3 := hd.lastNum e.path
  have := hd.len
  omega
/-- Records that are good, as elements of the sort. -/
theorem goods_list {l : List Rcd} (h : ∀ r ∈ l, r.good) : ∃ l' : List OkRcd, l'.map (·.1) = l ∧ l'.length = l.length ∧ l'.flatMap OkRcd.enc = l.flatMap Rcd.cells := by
  induction l with
  | nil => exact ⟨[], rfl, rfl, rfl⟩
  | cons r l ih =>
    obtain ⟨l', h1, h2, h3⟩ := ih fun x hx => h x (List.mem_cons_of_mem _ hx)
    exact ⟨⟨r, h r (List.mem_cons_self ..)⟩ :: l', by simp [h1], by simp [h2], by simp [h3, OkRcd.enc]⟩
theorem enc_list (l : List OkRcd) : l.flatMap OkRcd.enc = (l.map (·.1)).flatMap Rcd.cells := by
  induction l with
  | nil => rfl
  | cons r l ih => simp [ih, OkRcd.enc]
end Go.Proofs.YtnblfaagchflaaaGreatDoor
/- The reference's patterns: Check: the walk. -/
namespace Go.Proofs.YtnblfaagchflaaaGreatDoor
open Go.RowKit
set_option linter.unusedVariables false
set_option linter.unusedSimpArgs false

theorem partOk_succ {j : Nat} {x : ByteArray} (hj : 0 < j) : partOk j x = rpartB x := by
  unfold partOk
  rw [form_part, decide_eq_false (by omega : ¬ j = 0)]
  simp
theorem patE_comp {p : Pat} (h : 0 < p.parts.length) (hc : compS p.parts[0] = false) : patE p = 30 := by
  by_cases h1 : p.parts.length = 1 ∧ p.rest = false
  · exact patE_1 h1.1 h1.2
  · exact patE_form (partsOk_no h (by rw [form_one, hc]))
theorem patE_part {p : Pat} {j : Nat} (hj : j + 1 < p.parts.length) (hc : rpartB p.parts[j + 1] = false) : patE p = 30 := patE_form (partsOk_no hj (by rw [partOk_succ (by omega), hc]))
theorem patE_fin {p : Pat} (h1 : ¬ (p.parts.length = 0 ∨ (p.parts.length = 1 ∧ p.rest = false))) (h0 : ∀ h : 0 < p.parts.length, compS p.parts[0] = true) (h : ∀ j (hj : j + 1 < p.parts.length), rpartB p.parts[j + 1] = true) : patE p = if 12 < p.parts.length then 31 else 0 := by
  refine patE_end h1 (partsOk_yes fun j hj => ?_)
  cases j with
  | zero => rw [form_one]; exact h0 hj
  | succ j => rw [partOk_succ (by omega)]; exact h j hj
set_option maxRecDepth 100000 in
set_option maxHeartbeats 4000000 in
theorem rPatCheck_any (p : Pat) (A : Option Addr) (c : Nat) (w : World) (hS : Strs w (.slice A p.parts.length c) p.parts) (hz : ∀ x ∈ p.parts, x.size ≤ maxLen) :
    Calls Tryz.prog 66 #[.agg #[.slice A p.parts.length c, .bool p.rest]] w fun e w' => e = .returned (.int .i64 (patE p)) ∧ Below w.heap.size w w' := by
  obtain ⟨A', c', e', hcc, hmm, -⟩ := id hS
  injection e' with e1 e2 e3
  subst e1 e3
  unfold maxLen at hmm
  have HS := Lib.hid hS
  have HZ := Lib.hid hz
  have HCO := Lib.hid (fun x (hx : x.size ≤ maxLen) X => refComponent_any x X hx)
  have HPA := Lib.hid (fun x (hx : x.size ≤ maxLen) X => rPart_any x X hx)
  obtain ⟨parts, rest⟩ := p
  dsimp only at hcc hmm HS HZ ⊢
  have HE0 := Lib.hid (@patE_0 ⟨parts, rest⟩)
  have HE1 := Lib.hid (@patE_1 ⟨parts, rest⟩)
  have HEC := Lib.hid (@patE_comp ⟨parts, rest⟩)
  have HEP := Lib.hid (fun j hj hc => @patE_part ⟨parts, rest⟩ j hj hc)
  have HEE := Lib.hid (@patE_fin ⟨parts, rest⟩)
  have hB := blk_new w [.slice A parts.length c, .bool rest] 25
  have hA : Below w.heap.size w (w.alloc (.cells #[.slice A parts.length c, .bool rest] 25)) := (Below.refl _ _).alloc (Nat.le_refl _) _
  clear hS hz e2
  go_enter Tryz.func66, Tryz.ntmps66
  go_upto_region 1 with fail
  generalize w.alloc (.cells #[.slice A parts.length c, .bool rest] 25) = W1 at hB hA ⊢
  have d0 : W1.cell? ⟨w.heap.size, 0, none⟩ = some (.slice A parts.length c) := hB.cell 0
  have d1 : W1.cell? ⟨w.heap.size, 1, none⟩ = some (.bool rest) := hB.cell 1
  have HB := Lib.hid hB
  have HA := Lib.hid hA
  clear hB hA
  by_cases h0 : parts.length = 0
  · have q0 : ((parts.length : Int) == 0) = true := by rw [beq_iff_eq]; omega
    have HR := Lib.hid (HE0.out h0)
    clear h0
    go_wp2_with fail
    go_ret
    exact ⟨ret_intP HR.out.symm, HA.out⟩
  · have q0 : ((parts.length : Int) == 0) = false := by rw [beq_eq_false_iff_ne]; omega
    by_cases h1 : parts.length = 1 ∧ rest = false
    · have q1 : ((parts.length : Int) == 1) = true := by rw [beq_iff_eq]; omega
      have HR := Lib.hid (HE1.out h1.1 h1.2)
      obtain ⟨h1, rfl⟩ := h1
      clear h0 h1
      go_wp2_with fail
      go_ret
      exact ⟨ret_intP HR.out.symm, HA.out⟩
    · have hpos : 0 < parts.length := by omega
      have HN1 := Lib.hid (show ¬ (parts.length = 0 ∨ (parts.length = 1 ∧ rest = false)) from fun h => h.elim h0 h1)
      obtain ⟨ad, rfl, hab, x0⟩ := Strs.at_ (HS.out.below HA.out) hpos
      have hadd : (ad.add 0) = ad := by unfold Addr.add; cases ad; simp
      have HX0 := Lib.hid (HCO.out _ (HZ.out _ (List.getElem_mem hpos)))
      have HNC := Lib.hid (fun h => HEC.out hpos h)
      obtain ⟨fst, hfst⟩ : ∃ x, parts[0] = x := ⟨_, rfl⟩
      rw [hfst] at x0
      have HF : Hid (∀ X, Calls Tryz.prog 101 #[.string fst] X fun e w' => e = .returned (.bool (compS fst)) ∧ X = w') := Lib.hid (fun X => by rw [← hfst]; exact HX0.out X)
      have HNC2 : Hid (compS fst = false → patE ⟨parts, rest⟩ = 30) := Lib.hid (fun h => HNC.out (by dsimp only; rw [hfst]; exact h))
      have HYC2 : Hid (compS fst = true → ∀ h : 0 < parts.length, compS parts[0] = true) := Lib.hid (fun h _ => by rw [hfst]; exact h)
      clear hfst HX0 HNC
      clear h0 hab
      have hone : ((parts.length : Int) == 1) = true → rest = true := fun h => by
        cases rest with
        | true => rfl
        | false => exact absurd ⟨by rw [beq_iff_eq] at h; omega, rfl⟩ h1
      clear h1
      rw [hadd] at x0
      clear hadd
      have hp0 : (0 : Int) < (parts.length : Int) := by omega
      go_cut [27] (fun v wx => v = .bool (!compS fst) ∧ wx = W1)
      case first =>
        have HON := Lib.hid hone
        clear hone
        cases q1 : ((parts.length : Int) == 1) with
        | true =>
          obtain rfl := HON.out q1
          go_wp2_with fail
          refine (HF.out _).mono ?_
          rintro e w' ⟨rfl, rfl⟩
          go_wp2_with fail
          go_meet
          exact ⟨rfl, rfl⟩
        | false =>
          go_wp2_with fail
          refine (HF.out _).mono ?_
          rintro e w' ⟨rfl, rfl⟩
          go_wp2_with fail
          go_meet
          exact ⟨rfl, rfl⟩
      case rest =>
        obtain ⟨rfl, rfl⟩ := hcut
        have HNO := Lib.hid hone
        clear hone x0 hp0 q0
        cases hc : compS fst with
        | false =>
          have HR := Lib.hid (HNC2.out hc)
          clear hc
          go_wp2_with fail
          go_ret
          exact ⟨ret_intP HR.out.symm, HA.out⟩
        | true =>
          have HYC := Lib.hid (HYC2.out hc)
          obtain ⟨A2, c2, hrun, hrow⟩ := run_sub_from (P := Tryz.prog) (t := 23) (lo := 1) (x := 1) (kx := .i64) Tryz.underlying23 Tryz.sizeOf9 (HS.out.below HA.out) (by omega) rfl
          rw [Nat.one_mul, ← List.map_drop] at hrow
          obtain ⟨l2, hl2⟩ : ∃ l2, parts.drop 1 = l2 := ⟨_, rfl⟩
          have hlen : parts.length - 1 = l2.length := by rw [← hl2, List.length_drop]
          rw [hl2] at hrow
          rw [hlen] at hrow hrun
          have HS2 : Hid (Strs wc (.slice A2 l2.length c2) l2) := Lib.hid hrow
          have HGT : Hid (∀ j (hj : j < l2.length), ∃ h : j + 1 < parts.length, parts[j + 1] = l2[j]) := Lib.hid (fun j hj => ⟨by omega, by subst hl2; rw [List.getElem_drop]; congr 1; omega⟩)
          have HLN := Lib.hid hlen
          have hl2b : l2.length ≤ 9223372036854775806 := by omega
          clear hrow hl2 hlen hc
          go_wp2_with fail
          clear hrun
          go_loop [32] (fun i => ∃ k : Nat, k ≤ l2.length ∧ i = .int .i64 k ∧ Hid (∀ j (hj : j < l2.length), j < k → rpartB l2[j] = true)) (fun i => l2.length - (intOf i).toNat)
          case atStart => exact ⟨0, Nat.zero_le _, rfl, fun j _ h => by omega⟩
          case round =>
            obtain ⟨k, hk, rfl, HI⟩ := hrel
            by_cases hlt : k < l2.length
            · obtain ⟨ad2, rfl, hab2, x1⟩ := Strs.at_ HS2.out hlt
              have HPX := Lib.hid (fun X => HPA.out l2[k] (by obtain ⟨h, e⟩ := HGT.out k hlt; rw [← e]; exact HZ.out _ (List.getElem_mem h)) X)
              have HBD : Hid (rpartB l2[k] = false → patE ⟨parts, rest⟩ = 30) := Lib.hid (fun h => by obtain ⟨h1, e⟩ := HGT.out k hlt; exact HEP.out k h1 (by rw [e]; exact h))
              have HGD : Hid (rpartB l2[k] = true → ∀ j (hj : j < l2.length), j < k + 1 → rpartB l2[j] = true) := Lib.hid (fun h j hj a => by
                by_cases e : j = k
                · subst e; exact h
                · exact HI.out j hj (by omega))
              generalize hx : l2[k] = x at x1 HPX HBD HGD
              clear hx HI
              cases hb : rpartB x with
              | false =>
                have HR := Lib.hid (HBD.out hb)
                rw [hb] at HPX
                clear hb
                go_wp2_with fail
                refine (HPX.out _).mono ?_
                rintro e w' ⟨rfl, rfl⟩
                go_wp2_with fail
                go_ret
                exact ⟨ret_intP HR.out.symm, HA.out⟩
              | true =>
                have HJ := Lib.hid (HGD.out hb)
                rw [hb] at HPX
                clear hb
                go_wp2_with fail
                refine (HPX.out _).mono ?_
                rintro e w' ⟨rfl, rfl⟩
                go_wp2_with fail
                go_round
                case rel => exact ⟨k + 1, by omega, by go_num, HJ.out⟩
                case measure => simp [intOf]; omega
            · have HR := Lib.hid (HEE.out HN1.out (fun h => HYC.out h) (fun j hj => by
                obtain ⟨h, e⟩ := HGT.out j (by have := HLN.out; omega)
                rw [e]; exact HI.out j _ (by have := HLN.out; omega)))
              clear HI
              by_cases h12 : 12 < parts.length
              · have q12 : decide ((12 : Int) < (parts.length : Int)) = true := by simp; omega
                have HR2 : Hid (patE ⟨parts, rest⟩ = 31) := Lib.hid (by rw [HR.out]; exact if_pos h12)
                clear h12
                go_wp2_with fail
                go_ret
                exact ⟨ret_intP HR2.out.symm, HA.out⟩
              · have q12 : decide ((12 : Int) < (parts.length : Int)) = false := by simp; omega
                have HR2 : Hid (patE ⟨parts, rest⟩ = 0) := Lib.hid (by rw [HR.out]; exact if_neg h12)
                clear h12
                go_wp2_with fail
                go_ret
                exact ⟨ret_intP HR2.out.symm, HA.out⟩
end Go.Proofs.YtnblfaagchflaaaGreatDoor
