/- The reference's Sorted: the walk. -/
import Derived.Test.YtnblfaagchflaaaGreatDoorMgw10
import Derived.Test.YtnblfaagchflaaaGreatDoorMzOrd
import Derived.Test.YtnblfaagchflaaaGreatDoorMgw17
namespace Go.Proofs.YtnblfaagchflaaaGreatDoor
open Go.RowKit Go.Lib
open Go.Sort hiding Below
set_option linter.unusedVariables false
set_option linter.unusedSimpArgs false

/-- A record whose paths are paths, of a length that the reference's order takes. -/
def Rcd.fine (r : Rcd) : Prop := r.val_ ∧ r.frm.size ≤ 2000000 ∧ r.to.size ≤ 2000000
abbrev FnRcd := { r : Rcd // r.fine }
instance : Inhabited FnRcd := ⟨⟨⟨somePath, 0, 0, somePath, 0, 0⟩, ⟨somePath_ok, somePath_ok⟩, by unfold somePath; decide, by unfold somePath; decide⟩⟩
def FnRcd.enc (r : FnRcd) : List Value := r.1.cells
def FnRcd.cmp (a b : FnRcd) : Int := cmpR a.1 b.1
theorem fnRcd_tot : TotC FnRcd.cmp := TotC.or (totP (f := fun r : FnRcd => r.1.to) fun r => r.2.1.2) (TotC.or (totI (f := fun r : FnRcd => r.1.num)) (TotC.or (totP (f := fun r : FnRcd => r.1.frm) fun r => r.2.1.1) (totI (f := fun r : FnRcd => r.1.first))))
theorem fnRcd_len (x : FnRcd) : x.enc.length = 6 := rfl
theorem fnRcd_one (x : FnRcd) : ∀ v ∈ x.enc, v.oneCell' = true := by
  intro v hv
  simp only [FnRcd.enc, Rcd.cells, List.mem_cons, List.not_mem_nil, or_false] at hv
  rcases hv with rfl | rfl | rfl | rfl | rfl | rfl <;> rfl
theorem before_at (x y : FnRcd) (W : World) (he : Env W) (d : Nat) (os : Array Obj) :
    Calls Tryz.prog 97 #[.agg x.enc.toArray, .agg y.enc.toArray] (grow (redrawn W d) os) fun e w'' => e = .returned (.bool (decide (FnRcd.cmp x y < 0))) ∧ ∃ p : Regrown, w'' = grow (redrawn W p.d) p.os :=
  Calls.regrown_of ((refBefore_any x.1 y.1 _ (he.below (below_regrown W d os)) x.2.2.2 y.2.2.2 x.2.2.1 y.2.2.1).mono fun e w' ⟨v, h1, h2, h3⟩ => ⟨by rw [h1, h3 x.2.1 y.2.1]; rfl, h2⟩)

theorem env_sb {w0 W : World} {blk off C : Nat} {d : Array FnRcd} (h : SB FnRcd.enc 6 57 w0 blk off C d W) (he : Env w0) (hb : 0 < blk) : Env W := by
  obtain ⟨m, hm⟩ := he
  refine ⟨m, ?_⟩
  rw [← hm]
  exact World.cell?_of_block (h.gr.block _ (cell_lt hm) (fun e => by injection e with e; have e' : 0 = blk := e; omega))

section
variable {P : Program} {α : Type} [Inhabited α]
set_option maxHeartbeats 4000000 in
set_option maxRecDepth 100000 in
theorem sorted_over {k : Nat} (L : SFacts P 29 57 87 k) (F : P.funcs[62]? = some Tryz.f62)
    (enc : α → List Value) (hk : ∀ x, (enc x).length = k) (h1 : ∀ x, ∀ v ∈ enc x, v.oneCell' = true) (cf : α → α → Int) (w0 W : World) (blk off C cap : Nat) (d : Array α) (h : SB enc k 57 w0 blk off C d W)
    (hC : ∀ dd X, SB enc k 57 w0 blk off C dd X → ∀ x y q os, Calls P 97 #[.agg (enc x).toArray, .agg (enc y).toArray] (grow (redrawn X q) os) fun e w'' => e = .returned (.bool (decide (cf x y < 0))) ∧ ∃ p : Regrown, w'' = grow (redrawn X p.d) p.os)
    (eg : ∀ args w, (callFunc 97 args).run P w = .ok (.enter 97 args) w) (hsz : d.size ≤ 100000) :
    Calls P 62 #[.slice (some ⟨blk, off, none⟩) d.size cap] W fun e w' => e = .returned (.slice (some ⟨blk, off, none⟩) d.size cap) ∧ SB enc k 57 w0 blk off C (insOuter (ltOf cf) 0 d.size 0 d) w' := by
  have mixed := L.mixed; have t0 := L.t0; have a0 := L.a0; have z0 := L.z0; have ti := L.ti; have ai := L.ai; have zi := L.zi; have vi := L.vi; have tb := L.tb; have ab := L.ab; have zb := L.zb; have tu := L.tu; have au := L.au; have zu := L.zu; have tS := L.tS; have aS := L.aS; have zS := L.zS; have aE := L.aE; have zE := L.zE; have tF := L.tF; have aF := L.aF; have zF := L.zF
  have HS := Lib.hid h
  have HK := Lib.hid hk
  have H1 := Lib.hid h1
  have HCC := Lib.hid hC
  clear h hk h1 hC
  go_enter F, Tryz.ntmps62
  go_wp2
  go_loopw [7] (fun s wr => ∃ (i : Nat) (dk : Array α), s = .int .i64 i ∧ i ≤ d.size ∧ dk.size = d.size ∧ Hid (insOuter (ltOf cf) 0 d.size i dk = insOuter (ltOf cf) 0 d.size 0 d ∧ SB enc k 57 w0 blk off C dk wr)) (fun s _ => d.size - (intOf s).toNat)
  case atStart => exact ⟨0, d, rfl, Nat.zero_le _, rfl, rfl, HS.out⟩
  case round =>
    obtain ⟨i, dk, rfl, hib, hsk, HO⟩ := hrel
    by_cases hlt : i < d.size
    · have hltz : (i : Int) < (d.size : Int) := by omega
      go_wp2
      go_loopw [4] (fun s wr => ∃ (j : Nat) (dj : Array α), s = .int .i64 j ∧ j ≤ i ∧ dj.size = d.size ∧ Hid (insInner (ltOf cf) 0 j dj = insInner (ltOf cf) 0 i dk ∧ SB enc k 57 w0 blk off C dj wr)) (fun s _ => (intOf s).toNat)
      case atStart => exact ⟨i, dk, rfl, Nat.le_refl _, hsk, rfl, HO.out.2⟩
      case round =>
        obtain ⟨j, dj, rfl, hji, hsj, HI⟩ := hrel
        have OUT : Hid ((j ≤ 0 ∨ ltOf cf dj[j]! dj[j - 1]! = false) → insOuter (ltOf cf) 0 d.size (i + 1) dj = insOuter (ltOf cf) 0 d.size 0 d) := fun hs => by
          rw [← HO.out.1, insOuter_go _ _ _ _ _ hlt, ← HI.out.1, insInner_stop _ _ _ _ hs]
        by_cases hja : 0 < j
        · obtain ⟨jp, rfl⟩ : ∃ jp, j = jp + 1 := ⟨j - 1, by omega⟩
          have hjaz' : (0 : Int) < (jp : Int) + 1 := by omega
          have dja : decide ((0 : Int) < (jp : Int) + 1) = true := decide_eq_true (by omega)
          have hwp : IntKind.i64.wrap (jp : Int) = (jp : Int) := by rw [IntKind.wrap_i64]; omega
          have jz : (jp : Int) + 1 < (d.size : Int) := by omega
          have jz1 : (jp : Int) < (d.size : Int) := by omega
          have p0 : (0 : Int) ≤ (jp : Int) + 1 := by omega
          have e0 : ((jp : Int) + 1).toNat = jp + 1 := by omega
          have lj := HI.out.2.lds HK.out P (i := jp + 1) (by omega)
          have lp := HI.out.2.lds HK.out P (i := jp) (by omega)
          obtain ⟨xj, hxj⟩ : ∃ x, dj[jp + 1]! = x := ⟨_, rfl⟩
          obtain ⟨xp, hxp⟩ : ∃ x, dj[jp]! = x := ⟨_, rfl⟩
          rw [hxj] at lj
          rw [hxp] at lp
          have HCG := Lib.hid (HCC.out _ _ HI.out.2 xj xp)
          have HXJ := Lib.hid hxj
          have HXP := Lib.hid hxp
          clear hxj hxp
          by_cases hlv : cf xj xp < 0
          · have dlv : decide (cf xj xp < 0) = true := by simp; omega
            go_wp2_with fail
            refine wp_region_quiet_below (by assumption) (by kernel_rfl) ?_
            repeat (first | go_big_quiet_step (exact HCG.out _ _) | quiet_step (exact HCG.out _ _))
            refine wpQuiet_nil ?_
            intro _ hw'
            obtain ⟨⟨dq, osq⟩, hw''⟩ := hw'
            subst hw''
            have hB5 := HI.out.2.below (below_regrown wr dq osq)
            clear lj lp
            generalize grow (redrawn wr dq) osq = W5 at hB5 ⊢
            have hB6 := hB5.drew
            have lj := hB6.load HK.out P (i := jp + 1) (by omega)
            have lp := hB6.load HK.out P (i := jp) (by omega)
            have s1 := hB6.st1 HK.out H1.out P (i := jp + 1) (by omega) dj[jp]!
            have s2 := hB6.st2 HK.out H1.out P (i := jp + 1) (j := jp) (by omega) (by omega) dj[jp]! dj[jp + 1]!
            have HN : Hid _ := hB6.swap HK.out (i := jp + 1) (j := jp) (by omega) (by omega)
            have q1 : (enc dj[jp + 1]!).length = k := HK.out _
            have q2 : (enc dj[jp]!).length = k := HK.out _
            clear hB6 hB5
            generalize enc dj[jp + 1]! = cj at lj lp s1 s2 HN q1 q2
            generalize enc dj[jp]! = cp at lj lp s1 s2 HN q1 q2
            go_wp2_with fail
            go_big_region_o
            all_goals go_wp2
            go_roundw
            case rel =>
              refine ⟨jp, swp dj (jp + 1) jp, by first | rfl | go_num | (congr 1; omega), by omega, by rw [size_swp]; exact hsj, ?_, HN.out⟩
              have := insInner_go (ltOf cf) 0 (jp + 1) dj hja (by simp only [Nat.add_sub_cancel]; rw [HXJ.out, HXP.out]; exact dlv)
              simp only [Nat.add_sub_cancel] at this
              rw [← HI.out.1, this]
            case measure => simp [intOf]
          · have dlv : decide (cf xj xp < 0) = false := by simp; omega
            go_wp2_with fail
            refine wp_region_quiet_below (by assumption) (by kernel_rfl) ?_
            repeat (first | go_big_quiet_step (exact HCG.out _ _) | quiet_step (exact HCG.out _ _))
            refine wpQuiet_nil ?_
            intro _ hw'
            obtain ⟨⟨dq, osq⟩, hw''⟩ := hw'
            subst hw''
            have HB5 := Lib.hid (HI.out.2.below (below_regrown wr dq osq))
            generalize grow (redrawn wr dq) osq = W5 at HB5 ⊢
            go_wp2
            go_roundw
            case rel => exact ⟨i + 1, dj, by go_num, by omega, hsj, OUT.out (Or.inr (by simp only [Nat.add_sub_cancel]; rw [HXJ.out, HXP.out]; exact dlv)), HB5.out⟩
            case measure => simp [intOf]; omega
        · have hj0 : j = 0 := by omega
          subst hj0
          have HB5 := Lib.hid HI.out.2.drew
          go_wp2_with fail
          go_big_region_o
          all_goals go_wp2
          go_roundw
          case rel => exact ⟨i + 1, dj, by go_num, by omega, hsj, OUT.out (Or.inl (Nat.le_refl _)), HB5.out⟩
          case measure => simp [intOf]; omega
    · have hltz : ¬ (i : Int) < (d.size : Int) := by omega
      go_wp2
      go_ret
      exact ⟨rfl, by rw [← HO.out.1, insOuter_stop _ _ _ _ _ hlt]; exact HO.out.2⟩
end

/-- What Sorted leaves: its own row, in order. -/
def SortedPost (w : World) (base : Nat) (v : Value) (l : List FnRcd) (e : Ending) (w' : World) : Prop :=
  e = .returned v ∧ ∃ l' : List FnRcd, l'.Perm l ∧ l'.Pairwise (fun a b => ¬ FnRcd.cmp b a < 0) ∧ w'.ownsRow base 57 6 v l.length (l'.flatMap FnRcd.enc) ∧ w.grownBy w' v.ownBlock
set_option maxHeartbeats 1000000 in
theorem refSorted_any (l : List FnRcd) (v : Value) (base : Nat) (w : World) (he : Env w) (hg : 0 < base) (hown : w.ownsRow base 57 6 v l.length (l.flatMap FnRcd.enc)) (hl : l.length ≤ 100000) :
    Calls Tryz.prog 62 #[v] w (SortedPost w base v l) := by
  by_cases h0 : l.length = 0
  · have hl0 : l = [] := List.eq_nil_of_length_eq_zero h0
    subst hl0
    have hv : ∃ A c, v = .slice A 0 c := by
      rcases hown.2 with ⟨rfl, -⟩ | ⟨g, cap, cur, rfl, -⟩
      · exact ⟨_, _, rfl⟩
      · exact ⟨_, _, rfl⟩
    obtain ⟨A, c, rfl⟩ := hv
    have HO := Lib.hid hown
    clear hown he
    go_enter Tryz.func62, Tryz.ntmps62
    go_wp2
    refine wp_loop_rounds 1 ?_
    rw [rounds_succ]
    go_wp2
    go_ret
    exact ⟨rfl, [], List.Perm.refl _, List.Pairwise.nil, HO.out, ⟨rfl, rfl, rfl, Nat.le_refl _, fun _ _ _ => rfl⟩⟩
  · have hd : l.toArray.size = l.length := by simp
    obtain ⟨g, cap, rfl, hb, h3, h4, hSB⟩ := own_sb (d := l.toArray) fnRcd_len (by rw [hd]; omega) (by rw [hd]; exact hown)
    rw [hd] at h3 ⊢
    have hX := sorted_over rcdFacts Tryz.func62 FnRcd.enc fnRcd_len fnRcd_one FnRcd.cmp w w g 0 (cap * 6) cap l.toArray hSB
      (fun dd X hh x y q os => before_at x y X (env_sb hh he (by omega)) q os) (enters_of Tryz.func97 (by kernel_rfl) rfl) (by omega)
    rw [hd] at hX
    refine hX.mono ?_
    rintro e w' ⟨rfl, k3⟩
    by_cases hn : 0 < l.length
    case neg => omega
    have hio : insOuter (ltOf FnRcd.cmp) 0 l.length 0 l.toArray = Sort.insertionSort (ltOf FnRcd.cmp) l.toArray 0 l.length := by
      unfold Sort.insertionSort
      rw [insOuter_go _ _ _ _ _ hn, insInner_stop _ _ _ _ (Or.inl (Nat.le_refl _))]
    rw [hio] at k3
    obtain ⟨k1, k2⟩ := insertionSort_holds (lt := ltOf FnRcd.cmp) fnRcd_tot.swo l.toArray 0 l.length (Nat.zero_le _) (by omega)
    generalize Sort.insertionSort (ltOf FnRcd.cmp) l.toArray 0 l.length = d' at k1 k2 k3
    have hs : d'.size = l.length := by rw [k1.1, hd]
    refine ⟨rfl, d'.toList, ?_, ?_, ?_, ?_⟩
    · have := k1.2.2
      rw [← hs, Array.extract_size, hs] at this
      rw [← hd, Array.extract_size] at this
      simpa using this
    · rw [List.pairwise_iff_getElem]
      intro i j hi hj hij
      have hi' : i < d'.size := by simpa using hi
      have hj' : j < d'.size := by simpa using hj
      have := k2 i j (Nat.zero_le _) hij (by omega)
      rw [getElem!_pos d' j hj', getElem!_pos d' i hi'] at this
      simpa [ltOf] using this
    · have := sb_own fnRcd_len hb (by rw [hs]; exact h3) h4 k3
      rw [hs] at this
      exact this
    · exact k3.gr
end Go.Proofs.YtnblfaagchflaaaGreatDoor
/- Plain: of all records of a change the reference says what the program says. -/
namespace Go.Proofs.YtnblfaagchflaaaGreatDoor
open Go.RowKit
set_option linter.unusedVariables false
set_option linter.unusedSimpArgs false

/-- A record that the program's examination passes: its edit and its source. -/
theorem isRec_iff {d : Dep} {c : Chg} (h : DepOk d) (hs : ∀ r ∈ d.revs, r.chg < c.num) (h2 : everyE (lastOf d.revs) emptyS c.edits = 0) (x : Rcd) :
    isRec d.revs c.num (editsOf c.edits) x = true ↔ ∃ t, tgt c.edits x = some t ∧ 1 ≤ x.how ∧ x.how ≤ 4 ∧ (1 ≤ x.first ∧ x.first ≤ x.last ∧ x.last ≤ (logOf d.revs x.frm).length) ∧ refSteps d.revs x = true ∧ ¬ (t.act ≠ 1 ∧ rFirst d.revs ((rPrev d.revs (madeR (lastOf d.revs) c.num t)).getD zeroRev) = refLine d.revs x) ∧ refCopy d.revs t x = true := by
  obtain ⟨p1, p2⟩ := everyE_paths h2
  have hn := paths_nodup p1
  have hcopy : ∀ (t : Edt) (v : Rev), rGet d.revs x.frm x.last = some v → v.act ≠ 5 → ((if x.how = 1 then (if v.act = 3 then decide (t.act = 3) else (!decide (t.act = 3)) && decide (t.ty = v.ty) && decide (t.sum = v.sum) && decide (t.size = v.size)) else true) = true ↔ refCopy d.revs t x = true) := by
    intro t v hv h5
    have ha : atR d.revs x.frm x.last = v := by unfold atR; rw [hv]; rfl
    unfold refCopy
    rw [ha]
    by_cases h1 : x.how = 1
    · rw [if_pos h1, if_pos h1]
      by_cases h3 : v.act = 3
      · rw [if_pos h3]
        by_cases t3 : t.act = 3 <;> simp [h3, t3]
      · rw [if_neg h3]
        by_cases t3 : t.act = 3
        · simp [h3, t3]
        · simp only [h3, t3, decide_false, Bool.not_false, Bool.true_and, BEq.rfl, Bool.false_or, Bool.and_eq_true, decide_eq_true_eq]
          constructor
          · rintro ⟨⟨a, b⟩, c⟩; exact ⟨⟨a.symm, b.symm⟩, c.symm⟩
          · rintro ⟨⟨a, b⟩, c⟩; exact ⟨⟨a.symm, b.symm⟩, c.symm⟩
    · rw [if_neg h1, if_neg h1]
  have hsrc : ∀ (t : Edt), t ∈ c.edits → t.act ≠ 5 → ∀ v, (sourceR d.revs x (lineV (linesOf d.revs) (madeR (lastOf d.revs) c.num t)) = some v ↔ (rGet d.revs x.frm x.last = some v ∧ (1 ≤ x.first ∧ x.first ≤ x.last ∧ x.last ≤ (logOf d.revs x.frm).length) ∧ refSteps d.revs x = true ∧ ¬ (t.act ≠ 1 ∧ rFirst d.revs ((rPrev d.revs (madeR (lastOf d.revs) c.num t)).getD zeroRev) = refLine d.revs x))) := by
    intro t ht h5 v
    rw [source_iff h]
    constructor
    · rintro ⟨a, b1, b2, b3, b4, b5⟩
      refine ⟨a, ⟨b1, b2, b3⟩, b4, fun hh => b5 ?_⟩
      have hv := (rGet_mem a).1
      have hl : refLine d.revs x = rFirst d.revs v := by unfold refLine atR; rw [a]; rfl
      exact (target_line h hs h2 ht h5 hv hl).2 hh
    · rintro ⟨a, ⟨b1, b2, b3⟩, b4, b5⟩
      refine ⟨a, b1, b2, b3, b4, fun hh => b5 ?_⟩
      have hv := (rGet_mem a).1
      have hl : refLine d.revs x = rFirst d.revs v := by unfold refLine atR; rw [a]; rfl
      exact (target_line h hs h2 ht h5 hv hl).1 hh
  have hact : ∀ v, rGet d.revs x.frm x.last = some v → refSteps d.revs x = true → (1 ≤ x.first ∧ x.first ≤ x.last) → v.act ≠ 5 := by
    intro v hv hst hb
    unfold refSteps at hst
    have := List.all_eq_true.1 hst (x.last - x.first).toNat (List.mem_range.2 (by omega))
    rw [show x.first + ((x.last - x.first).toNat : Int) = x.last by omega, Bool.and_eq_true, decide_eq_true_eq] at this
    have h1 := this.1
    unfold atR at h1
    rw [hv] at h1
    exact h1
  constructor
  · intro hi
    unfold isRec at hi
    cases he : editsOf c.edits x.to with
    | none => rw [he] at hi; cases hi
    | some t =>
      rw [he] at hi
      simp only at hi
      obtain ⟨k1, k2⟩ := editsOf_mem _ _ _ he
      split at hi
      · cases hi
      · rename_i hb
        have h5 : t.act ≠ 5 := by omega
        cases hS : sourceR d.revs x (lineV (linesOf d.revs) (madeR (lastOf d.revs) c.num t)) with
        | none => rw [hS] at hi; cases hi
        | some v =>
          rw [hS] at hi
          simp only at hi
          obtain ⟨a, b, e, f⟩ := (hsrc t k1 h5 v).1 hS
          exact ⟨t, tgt_has hn k1 k2 (by omega) h5, by omega, by omega, b, e, f, (hcopy t v a (hact v a e ⟨b.1, b.2.1⟩)).1 hi⟩
  · rintro ⟨t, ht, w1, w2, b, e, f, g⟩
    obtain ⟨k1, k2, k3, k4⟩ := tgt_mem ht
    have he := editsOf_has hn k1
    rw [k2] at he
    obtain ⟨v, hv⟩ := ((h.log x.frm).rget_in x.last).2 ⟨by omega, b.2.2⟩
    have hS := (hsrc t k1 k4 v).2 ⟨hv, b, e, f⟩
    unfold isRec
    rw [he]
    simp only
    rw [if_neg (by omega), hS]
    exact (hcopy t v hv (hact v hv e ⟨b.1, b.2.1⟩)).2 g
/-- An edit that leaves its file as it is. -/
theorem unchanged_iff {d : Dep} {c : Chg} (h : DepOk d) (h2 : everyE (lastOf d.revs) emptyS c.edits = 0) {t : Edt} (ht : t ∈ c.edits) : unchanged (lastOf d.revs) t = true ↔ (decide (t.act = 2) && decide (t.ty = (atR d.revs t.path t.base).ty) && decide (t.sum = (atR d.revs t.path t.base).sum) && decide (t.size = (atR d.revs t.path t.base).size)) = true := by
  obtain ⟨o1, o2, -, -⟩ := oneE_zero ((everyE_paths h2).2 t ht).2.2
  by_cases a2 : t.act = 2
  · have hadd := actE_zero o1
    have hna : addA t.act = false := by rw [a2]; rfl
    rw [hna] at hadd
    have hlv : isLast (lastOf d.revs) t.path = true := by simpa using hadd.symm
    unfold isLast at hlv
    cases hx : lastOf d.revs t.path with
    | none => rw [hx] at hlv; cases hlv
    | some u =>
      obtain ⟨b1, b2, b3⟩ := last_in (h.log _) hx
      have hR : lastR (lastOf d.revs) t.path = u := by unfold lastR; rw [hx]; rfl
      have hA : atR d.revs t.path t.base = u := by
        unfold atR; rw [o2, hR, b3]; rfl
      unfold unchanged
      rw [hR, hA]
  · unfold unchanged
    simp [a2]
theorem refRec_split {D : List Rev} {c : Chg} {x : Rcd} : refRec D c x = true ↔ ∃ t, tgt c.edits x = some t ∧ 1 ≤ x.how ∧ x.how ≤ 4 ∧ (1 ≤ x.first ∧ x.first ≤ x.last ∧ x.last ≤ (logOf D x.frm).length) ∧ refSteps D x = true ∧ ¬ (t.act ≠ 1 ∧ rFirst D ((rPrev D (madeR (lastOf D) c.num t)).getD zeroRev) = refLine D x) ∧ refCopy D t x = true ∧ refIgn D c.recs t x = true := by
  unfold refRec
  cases tgt c.edits x with
  | none => simp
  | some t =>
    simp only [Bool.and_eq_true, decide_eq_true_eq, Bool.or_eq_true, Bool.not_eq_true', decide_eq_false_iff_not, Option.some.injEq]
    constructor
    · rintro ⟨⟨a, b⟩, ⟨⟨⟨c1, c2⟩, c3⟩, c4⟩, c5⟩
      exact ⟨t, rfl, a, b, c1, c2, fun hh => by rcases c3 with c3 | c3; exact hh.1 c3; exact c3 hh.2, c4, c5⟩
    · rintro ⟨t', rfl, a, b, c1, c2, c3, c4, c5⟩
      refine ⟨⟨a, b⟩, ⟨⟨⟨c1, c2⟩, ?_⟩, c4⟩, c5⟩
      by_cases h1 : t.act = 1
      · exact .inl h1
      · exact .inr fun hh => c3 ⟨h1, hh⟩
/-- A record that the reference passes is passed by the program. -/
theorem recOk_of_ref {d : Dep} {c : Chg} (h : DepOk d) (hs : ∀ r ∈ d.revs, r.chg < c.num) (h2 : everyE (lastOf d.revs) emptyS c.edits = 0) {x : Rcd} (hr : refRec d.revs c x = true) : recOk d.revs c (editsOf c.edits) x = true := by
  obtain ⟨t, a, b1, b2, b3, b4, b5, b6, b7⟩ := refRec_split.1 hr
  obtain ⟨k1, k2, k3, k4⟩ := tgt_mem a
  have hn := paths_nodup (everyE_paths h2).1
  unfold recOk
  rw [Bool.and_eq_true, Bool.or_eq_true]
  refine ⟨(isRec_iff h hs h2 x).2 ⟨t, a, b1, b2, b3, b4, b5, b6⟩, ?_⟩
  unfold refIgn at b7
  cases hi : ignB c.recs x with
  | true =>
    rw [hi, if_pos rfl] at b7
    right
    have he := editsOf_has hn k1
    rw [k2] at he
    rw [he]
    refine (unchanged_iff h h2 k1).2 ?_
    rw [k2]; exact b7
  | false =>
    left
    unfold ignB at hi
    rw [List.all_eq_false] at hi
    obtain ⟨y, hy, hh⟩ := hi
    unfold worked
    rw [List.any_eq_true]
    refine ⟨y, hy, ?_⟩
    simp only [decide_eq_true_eq, not_or, Decidable.not_not] at hh
    rw [Bool.and_eq_true, decide_eq_true_eq, decide_eq_true_eq]
    exact ⟨hh.2.2, hh.1⟩
/-- Where the program passes all records the reference passes each. -/
theorem ref_of_recOk {d : Dep} {c : Chg} (h : DepOk d) (hs : ∀ r ∈ d.revs, r.chg < c.num) (h2 : everyE (lastOf d.revs) emptyS c.edits = 0) (hall : ∀ y ∈ c.recs, recOk d.revs c (editsOf c.edits) y = true) {x : Rcd} (hx : x ∈ c.recs) : refRec d.revs c x = true := by
  have hn := paths_nodup (everyE_paths h2).1
  have hget : ∀ y ∈ c.recs, ∃ t, tgt c.edits y = some t ∧ 1 ≤ y.how ∧ y.how ≤ 4 ∧ (1 ≤ y.first ∧ y.first ≤ y.last ∧ y.last ≤ (logOf d.revs y.frm).length) ∧ refSteps d.revs y = true ∧ ¬ (t.act ≠ 1 ∧ rFirst d.revs ((rPrev d.revs (madeR (lastOf d.revs) c.num t)).getD zeroRev) = refLine d.revs y) ∧ refCopy d.revs t y = true := by
    intro y hy
    have := hall y hy
    unfold recOk at this
    rw [Bool.and_eq_true] at this
    exact (isRec_iff h hs h2 y).1 this.1
  obtain ⟨t, a, b1, b2, b3, b4, b5, b6⟩ := hget x hx
  obtain ⟨k1, k2, k3, k4⟩ := tgt_mem a
  refine refRec_split.2 ⟨t, a, b1, b2, b3, b4, b5, b6, ?_⟩
  unfold refIgn
  cases hi : ignB c.recs x with
  | false => rw [if_neg (by decide)]
  | true =>
    rw [if_pos rfl]
    have h1 := hall x hx
    unfold recOk at h1
    rw [Bool.and_eq_true, Bool.or_eq_true] at h1
    rcases h1.2 with hw | hu
    · exfalso
      unfold worked at hw
      rw [List.any_eq_true] at hw
      obtain ⟨y, hy, hh⟩ := hw
      rw [Bool.and_eq_true, decide_eq_true_eq, decide_eq_true_eq] at hh
      obtain ⟨t2, e1, -⟩ := hget y hy
      obtain ⟨q1, q2, q3, -⟩ := tgt_mem e1
      have e2 := editsOf_has hn q1
      have e3 := editsOf_has hn k1
      rw [q2, hh.2] at e2
      rw [k2, e2] at e3
      injection e3 with e3
      subst e3
      unfold ignB at hi
      have := List.all_eq_true.1 hi y hy
      simp only [decide_eq_true_eq] at this
      rcases this with g | g | g
      · exact g hh.2
      · omega
      · exact hh.1 g
    · have he := editsOf_has hn k1
      rw [k2] at he
      rw [he] at hu
      have := (unchanged_iff h h2 k1).1 hu
      rw [k2] at this
      exact this
/-- The reference's counting of moves. -/
def movedN (es : List Edt) (x : Edt) : Nat := es.countP fun y => (decide (x.act = 5) && decide (y.act = 4) && decide (y.frm = x.path)) || (decide (x.act = 4) && decide (y.act = 5) && decide (y.path = x.frm))
def movedB (es : List Edt) (x : Edt) : Bool := decide (movedN es x = 1) || (decide (x.act ≠ 5) && decide (x.act ≠ 4))
theorem moved_iff {es : List Edt} (hn : (es.map (·.path)).Nodup) {x : Edt} (hx : x ∈ es) : movedB es x = moveOk es (editsOf es) x := by
  unfold movedB moveOk movedN
  by_cases h5 : x.act = 5
  · rw [if_pos h5]
    have : (es.countP fun y => (decide (x.act = 5) && decide (y.act = 4) && decide (y.frm = x.path)) || (decide (x.act = 4) && decide (y.act = 5) && decide (y.path = x.frm))) = arrivals es x.path := by
      unfold arrivals
      refine List.countP_congr fun y hy => ?_
      simp [h5]
    rw [this]
    simp [h5]
  · rw [if_neg h5]
    by_cases h4 : x.act = 4
    · rw [if_pos h4]
      have hc : (es.countP fun y => (decide (x.act = 5) && decide (y.act = 4) && decide (y.frm = x.path)) || (decide (x.act = 4) && decide (y.act = 5) && decide (y.path = x.frm))) = es.countP fun y => decide (y.act = 5) && decide (y.path = x.frm) := by
        refine List.countP_congr fun y hy => ?_
        simp [h4]
      rw [hc]
      cases he : editsOf es x.frm with
      | none =>
        have h0 : (es.countP fun y => decide (y.act = 5) && decide (y.path = x.frm)) = 0 := by
          rw [List.countP_eq_zero]
          intro y hy hh
          rw [Bool.and_eq_true, decide_eq_true_eq, decide_eq_true_eq] at hh
          have := editsOf_has hn hy
          rw [hh.2, he] at this
          cases this
        rw [h0]
        simp [h4, zeroEdt]
      | some z =>
        obtain ⟨z1, z2⟩ := editsOf_mem _ _ _ he
        simp only [Option.getD_some]
        by_cases z5 : z.act = 5
        · have := countP_path hn z1 (fun y => decide (y.act = 5)) (by simpa using z5)
          rw [z2] at this
          rw [this]
          simp [z5]
        · have h0 : (es.countP fun y => decide (y.act = 5) && decide (y.path = x.frm)) = 0 := by
            rw [List.countP_eq_zero]
            intro y hy hh
            rw [Bool.and_eq_true, decide_eq_true_eq, decide_eq_true_eq] at hh
            have e2 := editsOf_has hn hy
            rw [hh.2, he] at e2
            injection e2 with e2
            rw [e2] at z5
            exact z5 hh.1
          rw [h0]
          simp [h4, z5]
    · rw [if_neg h4]
      simp [h5, h4]
end Go.Proofs.YtnblfaagchflaaaGreatDoor
