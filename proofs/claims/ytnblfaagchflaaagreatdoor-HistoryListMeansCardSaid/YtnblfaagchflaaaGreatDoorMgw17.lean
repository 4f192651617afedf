/- Plain: what the reference's At says, and that it says what the program's At says. -/
import Derived.Test.YtnblfaagchflaaaGreatDoorMgw12
import Derived.Test.YtnblfaagchflaaaGreatDoorMzOrd
import Derived.Test.YtnblfaagchflaaaGreatDoorMgw6
import Derived.Test.YtnblfaagchflaaaGreatDoorMgw16
import Derived.Test.YtnblfaagchflaaaGreatDoorMgw1
import Derived.Test.YtnblfaagchflaaaGreatDoorShelf
namespace Go.Proofs.YtnblfaagchflaaaGreatDoor
open Go.RowKit
set_option linter.unusedVariables false
set_option linter.unusedSimpArgs false

def atM (m : Int) (o v : Rev) : Rev := if v.chg ≤ m then v else o
/-- The reference's At: the last one of the log that counts. -/
def rAt (D : List Rev) (p : ByteArray) (m : Int) : Rev := (logOf D p).foldl (atM m) zeroRev
def gS (p : ByteArray) (f : Rev → Bool) (o : Option Rev) (r : Rev) : Option Rev := if r.path = p ∧ f r = true then (match o with
    | none => some r
    | some b => if b.num < r.num then some r else some b) else o
theorem greatest_gS (D : List Rev) (p : ByteArray) (f : Rev → Bool) : greatest D p f = D.foldl (gS p f) none := rfl
theorem gS_far {p : ByteArray} {f : Rev → Bool} {o : Option Rev} {r : Rev} (h : ¬ (r.path = p ∧ f r = true)) : gS p f o r = o := if_neg h
theorem gS_more {p : ByteArray} {f : Rev → Bool} {o : Option Rev} {r : Rev} (h : r.path = p ∧ f r = true) (ho : ∀ b, o = some b → b.num < r.num) : gS p f o r = some r := by
  unfold gS
  rw [if_pos h]
  cases o with
  | none => rfl
  | some b => exact if_pos (ho b rfl)
theorem greatest_log (D : List Rev) (p : ByteArray) (f : Rev → Bool) : greatest D p f = greatest (logOf D p) p f := by
  rw [greatest_gS, greatest_gS]
  unfold logOf
  rw [List.foldl_filter]
  congr 1
  funext o r
  by_cases h : r.path = p
  · simp [h]
  · rw [gS_far (fun e => h e.1)]; simp [h]
theorem at_fold (m : Int) (p : ByteArray) : ∀ (l : List Rev) (o : Option Rev), l.Pairwise (fun a b => a.num < b.num) → (∀ v ∈ l, 0 < v.num ∧ v.path = p) → (∀ b, o = some b → 0 < b.num ∧ ∀ v ∈ l, b.num < v.num) →
    someR (l.foldl (gS p (fun v => decide (v.chg ≤ m))) o) = l.foldl (atM m) (someR o) ∧ (l.foldl (gS p (fun v => decide (v.chg ≤ m))) o).isSome = decide (0 < (l.foldl (atM m) (someR o)).num)
  | [], o, _, _, ho => by
    refine ⟨rfl, ?_⟩
    cases o with
    | none => rfl
    | some b => have := (ho b rfl).1; simp [someR, this]
  | v :: l, o, hs, hn, ho => by
    obtain ⟨h1, h2⟩ := List.pairwise_cons.1 hs
    have hv := hn v (List.mem_cons_self ..)
    have hn2 : ∀ x ∈ l, 0 < x.num ∧ x.path = p := fun x hx => hn x (List.mem_cons_of_mem _ hx)
    rw [List.foldl_cons, List.foldl_cons]
    by_cases hc : v.chg ≤ m
    · have e2 : atM m (someR o) v = someR (some v) := by unfold atM; rw [if_pos hc]; rfl
      rw [gS_more ⟨hv.2, by simpa using hc⟩ (fun b hb => (ho b hb).2 v (List.mem_cons_self ..)), e2]
      exact at_fold m p l (some v) h2 hn2 (fun b hb => by injection hb with hb; subst hb; exact ⟨hv.1, h1⟩)
    · have e2 : atM m (someR o) v = someR o := by unfold atM; rw [if_neg hc]
      rw [gS_far (by simp [hc]), e2]
      exact at_fold m p l o h2 hn2 (fun b hb => ⟨(ho b hb).1, fun x hx => (ho b hb).2 x (List.mem_cons_of_mem _ hx)⟩)
theorem LogOk.rat_eq {D : List Rev} {p : ByteArray} (h : LogOk D p) (m : Int) : someR (greatest D p (fun v => decide (v.chg ≤ m))) = rAt D p m ∧ (greatest D p (fun v => decide (v.chg ≤ m))).isSome = decide (0 < (rAt D p m).num) := by
  rw [greatest_log, greatest_gS]
  refine at_fold m p (logOf D p) none h.sorted (fun v hv => ⟨?_, (mem_log.1 hv).2⟩) (fun b hb => by cases hb)
  obtain ⟨i, hi, e⟩ := List.mem_iff_getElem.1 hv
  have := h.num i hi
  rw [e] at this
  omega
end Go.Proofs.YtnblfaagchflaaaGreatDoor
/- The reference's Sorted: the walk. -/
namespace Go.Proofs.YtnblfaagchflaaaGreatDoor
open Go.RowKit Go.Lib
open Go.Sort hiding Below
set_option linter.unusedVariables false
set_option linter.unusedSimpArgs false

/-- A record whose paths are paths, of a length that the reference's order takes. -/
def Rcd.fine (r : Rcd) : Prop := r.val_ ∧ r.frm.size ≤ 2000000 ∧ r.to.size ≤ 2000000
abbrev FnRcd := { r : Rcd // r.fine }
instance : Inhabited FnRcd := ⟨⟨⟨somePath, 0, 0, somePath, 0, 0⟩, ⟨somePath_ok, somePath_ok⟩, by unfold somePath; decide, by unfold somePath; decide⟩⟩
def FnRcd.enc (r : FnRcd) : List Value := r.1.cells
def FnRcd.cmp (a b : FnRcd) : Int := cmpR a.1 b.1
theorem fnRcd_tot : TotC FnRcd.cmp := TotC.or (totP (f := fun r : FnRcd => r.1.to) fun r => r.2.1.2) (TotC.or (totI (f := fun r : FnRcd => r.1.num)) (TotC.or (totP (f := fun r : FnRcd => r.1.frm) fun r => r.2.1.1) (totI (f := fun r : FnRcd => r.1.first))))
theorem fnRcd_len (x : FnRcd) : x.enc.length = 6 := rfl
theorem fnRcd_one (x : FnRcd) : ∀ v ∈ x.enc, v.oneCell' = true := by
  intro v hv
  simp only [FnRcd.enc, Rcd.cells, List.mem_cons, List.not_mem_nil, or_false] at hv
  rcases hv with rfl | rfl | rfl | rfl | rfl | rfl <;> rfl
theorem before_at (x y : FnRcd) (W : World) (he : Env W) (d : Nat) (os : Array Obj) :
    Calls Tryz.prog 97 #[.agg x.enc.toArray, .agg y.enc.toArray] (grow (redrawn W d) os) fun e w'' => e = .returned (.bool (decide (FnRcd.cmp x y < 0))) ∧ ∃ p : Regrown, w'' = grow (redrawn W p.d) p.os :=
  Calls.regrown_of ((refBefore_any x.1 y.1 _ (he.below (below_regrown W d os)) x.2.2.2 y.2.2.2 x.2.2.1 y.2.2.1).mono fun e w' ⟨v, h1, h2, h3⟩ => ⟨by rw [h1, h3 x.2.1 y.2.1]; rfl, h2⟩)

theorem env_sb {w0 W : World} {blk off C : Nat} {d : Array FnRcd} (h : SB FnRcd.enc 6 57 w0 blk off C d W) (he : Env w0) (hb : 0 < blk) : Env W := by
  obtain ⟨m, hm⟩ := he
  refine ⟨m, ?_⟩
  rw [← hm]
  exact World.cell?_of_block (h.gr.block _ (cell_lt hm) (fun e => by injection e with e; have e' : 0 = blk := e; omega))

section
variable {P : Program} {α : Type} [Inhabited α]
set_option maxHeartbeats 4000000 in
set_option maxRecDepth 100000 in
theorem sorted_over {k : Nat} (L : SFacts P 29 57 87 k) (F : P.funcs[62]? = some Tryz.f62)
    (enc : α → List Value) (hk : ∀ x, (enc x).length = k) (h1 : ∀ x, ∀ v ∈ enc x, v.oneCell' = true) (cf : α → α → Int) (w0 W : World) (blk off C cap : Nat) (d : Array α) (h : SB enc k 57 w0 blk off C d W)
    (hC : ∀ dd X, SB enc k 57 w0 blk off C dd X → ∀ x y q os, Calls P 97 #[.agg (enc x).toArray, .agg (enc y).toArray] (grow (redrawn X q) os) fun e w'' => e = .returned (.bool (decide (cf x y < 0))) ∧ ∃ p : Regrown, w'' = grow (redrawn X p.d) p.os)
    (eg : ∀ args w, (callFunc 97 args).run P w = .ok (.enter 97 args) w) (hsz : d.size ≤ 100000) :
    Calls P 62 #[.slice (some ⟨blk, off, none⟩) d.size cap] W fun e w' => e = .returned (.slice (some ⟨blk, off, none⟩) d.size cap) ∧ SB enc k 57 w0 blk off C (insOuter (ltOf cf) 0 d.size 0 d) w' := by
  have mixed := L.mixed; have t0 := L.t0; have a0 := L.a0; have z0 := L.z0; have ti := L.ti; have ai := L.ai; have zi := L.zi; have vi := L.vi; have tb := L.tb; have ab := L.ab; have zb := L.zb; have tu := L.tu; have au := L.au; have zu := L.zu; have tS := L.tS; have aS := L.aS; have zS := L.zS; have aE := L.aE; have zE := L.zE; have tF := L.tF; have aF := L.aF; have zF := L.zF
  have HS := Lib.hid h
  have HK := Lib.hid hk
  have H1 := Lib.hid h1
  have HCC := Lib.hid hC
  clear h hk h1 hC
  go_enter F, Tryz.ntmps62
  go_wp2
  go_loopw [7] (fun s wr => ∃ (i : Nat) (dk : Array α), s = .int .i64 i ∧ i ≤ d.size ∧ dk.size = d.size ∧ Hid (insOuter (ltOf cf) 0 d.size i dk = insOuter (ltOf cf) 0 d.size 0 d ∧ SB enc k 57 w0 blk off C dk wr)) (fun s _ => d.size - (intOf s).toNat)
  case atStart => exact ⟨0, d, rfl, Nat.zero_le _, rfl, rfl, HS.out⟩
  case round =>
    obtain ⟨i, dk, rfl, hib, hsk, HO⟩ := hrel
    by_cases hlt : i < d.size
    · have hltz : (i : Int) < (d.size : Int) := by omega
      go_wp2
      go_loopw [4] (fun s wr => ∃ (j : Nat) (dj : Array α), s = .int .i64 j ∧ j ≤ i ∧ dj.size = d.size ∧ Hid (insInner (ltOf cf) 0 j dj = insInner (ltOf cf) 0 i dk ∧ SB enc k 57 w0 blk off C dj wr)) (fun s _ => (intOf s).toNat)
      case atStart => exact ⟨i, dk, rfl, Nat.le_refl _, hsk, rfl, HO.out.2⟩
      case round =>
        obtain ⟨j, dj, rfl, hji, hsj, HI⟩ := hrel
        have OUT : Hid ((j ≤ 0 ∨ ltOf cf dj[j]! dj[j - 1]! = false) → insOuter (ltOf cf) 0 d.size (i + 1) dj = insOuter (ltOf cf) 0 d.size 0 d) := fun hs => by
          rw [← HO.out.1, insOuter_go _ _ _ _ _ hlt, ← HI.out.1, insInner_stop _ _ _ _ hs]
        by_cases hja : 0 < j
        · obtain ⟨jp, rfl⟩ : ∃ jp, j = jp + 1 := ⟨j - 1, by omega⟩
          have hjaz' : (0 : Int) < (jp : Int) + 1 := by omega
          have dja : decide ((0 : Int) < (jp : Int) + 1) = true := decide_eq_true (by omega)
          have hwp : IntKind.i64.wrap (jp : Int) = (jp : Int) := by rw [IntKind.wrap_i64]; omega
          have jz : (jp : Int) + 1 < (d.size : Int) := by omega
          have jz1 : (jp : Int) < (d.size : Int) := by omega
          have p0 : (0 : Int) ≤ (jp : Int) + 1 := by omega
          have e0 : ((jp : Int) + 1).toNat = jp + 1 := by omega
          have lj := HI.out.2.lds HK.out P (i := jp + 1) (by omega)
          have lp := HI.out.2.lds HK.out P (i := jp) (by omega)
          obtain ⟨xj, hxj⟩ : ∃ x, dj[jp + 1]! = x := ⟨_, rfl⟩
          obtain ⟨xp, hxp⟩ : ∃ x, dj[jp]! = x := ⟨_, rfl⟩
          rw [hxj] at lj
          rw [hxp] at lp
          have HCG := Lib.hid (HCC.out _ _ HI.out.2 xj xp)
          have HXJ := Lib.hid hxj
          have HXP := Lib.hid hxp
          clear hxj hxp
          by_cases hlv : cf xj xp < 0
          · have dlv : decide (cf xj xp < 0) = true := by simp; omega
            go_wp2_with fail
            refine wp_region_quiet_below (by assumption) (by kernel_rfl) ?_
            repeat (first | go_big_quiet_step (exact HCG.out _ _) | quiet_step (exact HCG.out _ _))
            refine wpQuiet_nil ?_
            intro _ hw'
            obtain ⟨⟨dq, osq⟩, hw''⟩ := hw'
            subst hw''
            have hB5 := HI.out.2.below (below_regrown wr dq osq)
            clear lj lp
            generalize grow (redrawn wr dq) osq = W5 at hB5 ⊢
            have hB6 := hB5.drew
            have lj := hB6.load HK.out P (i := jp + 1) (by omega)
            have lp := hB6.load HK.out P (i := jp) (by omega)
            have s1 := hB6.st1 HK.out H1.out P (i := jp + 1) (by omega) dj[jp]!
            have s2 := hB6.st2 HK.out H1.out P (i := jp + 1) (j := jp) (by omega) (by omega) dj[jp]! dj[jp + 1]!
            have HN : Hid _ := hB6.swap HK.out (i := jp + 1) (j := jp) (by omega) (by omega)
            have q1 : (enc dj[jp + 1]!).length = k := HK.out _
            have q2 : (enc dj[jp]!).length = k := HK.out _
            clear hB6 hB5
            generalize enc dj[jp + 1]! = cj at lj lp s1 s2 HN q1 q2
            generalize enc dj[jp]! = cp at lj lp s1 s2 HN q1 q2
            go_wp2_with fail
            go_big_region_o
            all_goals go_wp2
            go_roundw
            case rel =>
              refine ⟨jp, swp dj (jp + 1) jp, by first | rfl | go_num | (congr 1; omega), by omega, by rw [size_swp]; exact hsj, ?_, HN.out⟩
              have := insInner_go (ltOf cf) 0 (jp + 1) dj hja (by simp only [Nat.add_sub_cancel]; rw [HXJ.out, HXP.out]; exact dlv)
              simp only [Nat.add_sub_cancel] at this
              rw [← HI.out.1, this]
            case measure => simp [intOf]
          · have dlv : decide (cf xj xp < 0) = false := by simp; omega
            go_wp2_with fail
            refine wp_region_quiet_below (by assumption) (by kernel_rfl) ?_
            repeat (first | go_big_quiet_step (exact HCG.out _ _) | quiet_step (exact HCG.out _ _))
            refine wpQuiet_nil ?_
            intro _ hw'
            obtain ⟨⟨dq, osq⟩, hw''⟩ := hw'
            subst hw''
            have HB5 := Lib.hid (HI.out.2.below (below_regrown wr dq osq))
            generalize grow (redrawn wr dq) osq = W5 at HB5 ⊢
            go_wp2
            go_roundw
            case rel => exact ⟨i + 1, dj, by go_num, by omega, hsj, OUT.out (Or.inr (by simp only [Nat.add_sub_cancel]; rw [HXJ.out, HXP.out]; exact dlv)), HB5.out⟩
            case measure => simp [intOf]; omega
        · have hj0 : j = 0 := by omega
          subst hj0
          have HB5 := Lib.hid HI.out.2.drew
          go_wp2_with fail
          go_big_region_o
          all_goals go_wp2
          go_roundw
          case rel => exact ⟨i + 1, dj, by go_num, by omega, hsj, OUT.out (Or.inl (Nat.le_refl _)), HB5.out⟩
          case measure => simp [intOf]; omega
    · have hltz : ¬ (i : Int) < (d.size : Int) := by omega
      go_wp2
      go_ret
      exact ⟨rfl, by rw [← HO.out.1, insOuter_stop _ _ _ _ _ hlt]; exact HO.out.2⟩
end

/-- What Sorted leaves: its own row, in order. -/
def SortedPost (w : World) (base : Nat) (v : Value) (l : List FnRcd) (e : Ending) (w' : World) : Prop :=
  e = .returned v ∧ ∃ l' : List FnRcd, l'.Perm l ∧ l'.Pairwise (fun a b => ¬ FnRcd.cmp b a < 0) ∧ w'.ownsRow base 57 6 v l.length (l'.flatMap FnRcd.enc) ∧ w.grownBy w' v.ownBlock
set_option maxHeartbeats 1000000 in
theorem refSorted_any (l : List FnRcd) (v : Value) (base : Nat) (w : World) (he : Env w) (hg : 0 < base) (hown : w.ownsRow base 57 6 v l.length (l.flatMap FnRcd.enc)) (hl : l.length ≤ 100000) :
    Calls Tryz.prog 62 #[v] w (SortedPost w base v l) := by
  by_cases h0 : l.length = 0
  · have hl0 : l = [] := List.eq_nil_of_length_eq_zero h0
    subst hl0
    have hv : ∃ A c, v = .slice A 0 c := by
      rcases hown.2 with ⟨rfl, -⟩ | ⟨g, cap, cur, rfl, -⟩
      · exact ⟨_, _, rfl⟩
      · exact ⟨_, _, rfl⟩
    obtain ⟨A, c, rfl⟩ := hv
    have HO := Lib.hid hown
    clear hown he
    go_enter Tryz.func62, Tryz.ntmps62
    go_wp2
    refine wp_loop_rounds 1 ?_
    rw [rounds_succ]
    go_wp2
    go_ret
    exact ⟨rfl, [], List.Perm.refl _, List.Pairwise.nil, HO.out, ⟨rfl, rfl, rfl, Nat.le_refl _, fun _ _ _ => rfl⟩⟩
  · have hd : l.toArray.size = l.length := by simp
    obtain ⟨g, cap, rfl, hb, h3, h4, hSB⟩ := own_sb (d := l.toArray) fnRcd_len (by rw [hd]; omega) (by rw [hd]; exact hown)
    rw [hd] at h3 ⊢
    have hX := sorted_over rcdFacts Tryz.func62 FnRcd.enc fnRcd_len fnRcd_one FnRcd.cmp w w g 0 (cap * 6) cap l.toArray hSB
      (fun dd X hh x y q os => before_at x y X (env_sb hh he (by omega)) q os) (enters_of Tryz.func97 (by kernel_rfl) rfl) (by omega)
    rw [hd] at hX
    refine hX.mono ?_
    rintro e w' ⟨rfl, k3⟩
    by_cases hn : 0 < l.length
    case neg => omega
    have hio : insOuter (ltOf FnRcd.cmp) 0 l.length 0 l.toArray = Sort.insertionSort (ltOf FnRcd.cmp) l.toArray 0 l.length := by
      unfold Sort.insertionSort
      rw [insOuter_go _ _ _ _ _ hn, insInner_stop _ _ _ _ (Or.inl (Nat.le_refl _))]
    rw [hio] at k3
    obtain ⟨k1, k2⟩ := insertionSort_holds (lt := ltOf FnRcd.cmp) fnRcd_tot.swo l.toArray 0 l.length (Nat.zero_le _) (by omega)
    generalize Sort.insertionSort (ltOf FnRcd.cmp) l.toArray 0 l.length = d' at k1 k2 k3
    have hs : d'.size = l.length := by rw [k1.1, hd]
    refine ⟨rfl, d'.toList, ?_, ?_, ?_, ?_⟩
    · have := k1.2.2
      rw [← hs, Array.extract_size, hs] at this
      rw [← hd, Array.extract_size] at this
      simpa using this
    · rw [List.pairwise_iff_getElem]
      intro i j hi hj hij
      have hi' : i < d'.size := by simpa using hi
      have hj' : j < d'.size := by simpa using hj
      have := k2 i j (Nat.zero_le _) hij (by omega)
      rw [getElem!_pos d' j hj', getElem!_pos d' i hi'] at this
      simpa [ltOf] using this
    · have := sb_own fnRcd_len hb (by rw [hs]; exact h3) h4 k3
      rw [hs] at this
      exact this
    · exact k3.gr
end Go.Proofs.YtnblfaagchflaaaGreatDoor
/- Region 1 of HistoryOnce: Small of the changes and one more. -/
namespace Go.Proofs.YtnblfaagchflaaaGreatDoor
open Go.RowKit
set_option linter.unusedVariables false
set_option linter.unusedSimpArgs false

theorem chgElem : ElemOk Tryz.prog 22 53 5 88 := elemOk_of Tryz.underlying22 (z := .agg #[.int .i64 0, .string ⟨#[]⟩, .string ⟨#[]⟩, .slice none 0 0, .slice none 0 0]) (by kernel_rfl) rfl (by decide)
theorem chv_one {w : World} {ps : List ChV} (h : ∀ p ∈ ps, p.ok w) : ∀ u ∈ ps.flatMap ChV.cells, u.oneCell' = true := by
  intro u hu
  obtain ⟨p, hp, hc⟩ := List.mem_flatMap.1 hu
  obtain ⟨⟨A, c, e, -⟩, ⟨A2, c2, e2, -⟩⟩ := h p hp
  simp only [ChV.cells, List.mem_cons, List.not_mem_nil, or_false] at hc
  rcases hc with rfl | rfl | rfl | rfl | rfl
  · rfl
  · rfl
  · rfl
  · rw [e]; rfl
  · rw [e2]; rfl
theorem below_nogrow {w w' : World} {row : Option Nat} (h : w.grownBy w' row) (hr : row = none) : Below w.heap.size w w' := ⟨h.os, h.tape, h.output, h.size, fun k hk => h.block k hk (by rw [hr]; exact fun e => by cases e)⟩
theorem chgs_own {w V : World} {base : Nat} {e : TypeId} {v : Value} {ps : List ChV} {p : ChV} (h : w.ownsRow base e 5 v (ps.length + 1) (ps.flatMap ChV.cells ++ p.cells)) (hV : Below V.heap.size V w) (h1 : ∀ q ∈ ps, q.ok V) (h2 : p.ok V) : Chgs w v (ps ++ [p]) := by
  refine ⟨?_, fun q hq => ?_⟩
  · rw [List.length_append, List.flatMap_append, List.flatMap_cons, List.flatMap_nil, List.append_nil]
    exact Row.of_own h
  · rcases List.mem_append.1 hq with hq | hq
    · exact ChV.ok_below (h1 q hq) hV
    · rw [List.mem_singleton] at hq; subst hq; exact ChV.ok_below h2 hV
/-- What Small is asked of, as a test. -/
def sizeOk (ps : List ChV) : Prop := ps.length * 88 ≤ 140737488355328 ∧ (∀ p ∈ ps, chgLen p.1 ≤ 10000000000000) ∧ ∀ p ∈ ps, (∀ x ∈ p.1.edits, x.path.size ≤ 140737488355328 ∧ x.frm.size ≤ 140737488355328) ∧ ∀ x ∈ p.1.recs, x.frm.size ≤ 140737488355328 ∧ x.to.size ≤ 140737488355328

end Go.Proofs.YtnblfaagchflaaaGreatDoor
/- Patterns: plain words; the walks of formOf, isStar, Check. -/
namespace Go.Proofs.YtnblfaagchflaaaGreatDoor
open Go.RowKit
set_option linter.unusedVariables false
set_option linter.unusedSimpArgs false

structure Pat where
  parts : List ByteArray
  rest : Bool
def starS (s : ByteArray) : Bool := Lib.hasPrefix s.data.toList [42]
def tailOk (s : ByteArray) : Bool := (s.data.toList.drop 1).all fun c => byteB c.toNat
def formI (s : ByteArray) : Int := if compS s then 1 else if starS s then (if tailOk s then 2 else 0) else 0
def partOk (j : Nat) (x : ByteArray) : Bool := decide (formI x ≠ 0) && !(decide (j = 0) && decide (formI x = 2))
def partsOk (l : List ByteArray) : Bool := (List.range l.length).all fun j => partOk j ((l[j]?).getD emptyS)
def patE (p : Pat) : Int := if p.parts.length = 0 ∨ (p.parts.length = 1 ∧ p.rest = false) then 30 else if partsOk p.parts = false then 30 else if 12 < p.parts.length then 31 else 0
theorem partsOk_no {l : List ByteArray} {j : Nat} (h : j < l.length) (hf : partOk j l[j] = false) : partsOk l = false := by
  unfold partsOk
  rw [List.all_eq_false]
  exact ⟨j, List.mem_range.2 h, by rw [List.getElem?_eq_getElem h]; simpa using hf⟩
theorem partsOk_yes {l : List ByteArray} (h : ∀ j (hj : j < l.length), partOk j l[j] = true) : partsOk l = true := by
  unfold partsOk
  rw [List.all_eq_true]
  intro j hj
  rw [List.mem_range] at hj
  rw [List.getElem?_eq_getElem hj]
  exact h j hj
theorem tail_no {s : ByteArray} {k : Nat} (h : k < s.size) (h1 : 1 ≤ k) (hb : byteB s[k].toNat = false) : tailOk s = false := by
  unfold tailOk
  rw [List.all_eq_false]
  have hl : k < s.data.toList.length := h
  refine ⟨s.data.toList[k], ?_, ?_⟩
  · refine List.mem_iff_getElem.2 ⟨k - 1, by rw [List.length_drop]; omega, ?_⟩
    rw [List.getElem_drop]
    congr 1; omega
  · have e : s.data.toList[k] = s[k] := by rw [Array.getElem_toList]; rfl
    rw [e, hb]; simp
theorem tail_yes {s : ByteArray} (h : ∀ k (hk : k < s.size), 1 ≤ k → byteB s[k].toNat = true) : tailOk s = true := by
  unfold tailOk
  rw [List.all_eq_true]
  intro c hc
  obtain ⟨i, hi, rfl⟩ := List.mem_iff_getElem.1 hc
  rw [List.getElem_drop]
  rw [List.length_drop] at hi
  have hk : 1 + i < s.size := by have : s.data.toList.length = s.size := rfl; omega
  have e : s.data.toList[1 + i]'(by have : s.data.toList.length = s.size := rfl; omega) = s[1 + i] := by rw [Array.getElem_toList]; rfl
  rw [e]
  exact h _ hk (by omega)
theorem ret_intP {a b : Int} (h : a = b) : Ending.returned (.int .i64 a) = .returned (.int .i64 b) := by rw [h]
theorem isStar_any (s : ByteArray) (w : World) : Calls Tryz.prog 30 #[.string s] w fun e w' => e = .returned (.bool (starS s)) ∧ w = w' := by
  go_enter Tryz.func30, Tryz.ntmps30
  go_wp2_with (go_at_call 51; refine (Tryz.strings_HasPrefix _ _ _).mono ?_; rintro e w' ⟨rfl, rfl⟩)
  go_ret
  exact ⟨rfl, rfl⟩
set_option maxHeartbeats 1000000 in
theorem formOf_any (s : ByteArray) (w : World) (hs : s.size ≤ maxLen) :
    Calls Tryz.prog 48 #[.string s] w fun e w' => e = .returned (.int .i64 (formI s)) ∧ w = w' := by
  have hsz : s.size ≤ 9223372036854775807 := by unfold maxLen at hs; omega
  have HC := Lib.hid (component_any s w hs)
  have HP := Lib.hid (Tryz.strings_HasPrefix s ⟨#[42]⟩ w)
  clear hs
  cases hc : compS s with
  | true =>
    have HF : Hid (formI s = 1) := Lib.hid (by unfold formI; rw [if_pos hc])
    rw [hc] at HC
    clear hc
    go_enter Tryz.func48, Tryz.ntmps48
    go_wp2_with (go_at_call 52; refine HC.out.mono ?_; rintro e w' ⟨rfl, rfl⟩)
    go_ret
    exact ⟨ret_intP HF.out.symm, rfl⟩
  | false =>
    rw [hc] at HC
    cases hp : Lib.hasPrefix s.data.toList [42] with
    | false =>
      have HF : Hid (formI s = 0) := Lib.hid (by unfold formI starS; rw [hc, hp]; rfl)
      have hp' : Lib.hasPrefix s.data.toList (⟨#[42]⟩ : ByteArray).data.toList = false := hp
      rw [hp'] at HP
      clear hc hp hp'
      go_enter Tryz.func48, Tryz.ntmps48
      go_wp2_with (first
        | (go_at_call 52; refine HC.out.mono ?_; rintro e w' ⟨rfl, rfl⟩)
        | (go_at_call 51; refine HP.out.mono ?_; rintro e w' ⟨rfl, rfl⟩))
      go_ret
      exact ⟨ret_intP HF.out.symm, rfl⟩
    | true =>
      have HT : Hid (formI s = if tailOk s then 2 else 0) := Lib.hid (by unfold formI starS; rw [hc, hp]; rfl)
      have h1 : 1 ≤ s.size := by
        rcases Nat.eq_zero_or_pos s.size with h0 | h0
        · have : s.data.toList = [] := List.eq_nil_of_length_eq_zero (by simpa using h0)
          rw [this] at hp; cases hp
        · exact h0
      have hp' : Lib.hasPrefix s.data.toList (⟨#[42]⟩ : ByteArray).data.toList = true := hp
      rw [hp'] at HP
      clear hc hp hp'
      go_enter Tryz.func48, Tryz.ntmps48
      go_wp2_with (first
        | (go_at_call 52; refine HC.out.mono ?_; rintro e w' ⟨rfl, rfl⟩)
        | (go_at_call 51; refine HP.out.mono ?_; rintro e w' ⟨rfl, rfl⟩))
      go_loop [3] (fun i => ∃ k : Nat, 1 ≤ k ∧ k ≤ s.size ∧ i = .int .i64 k ∧ Hid (∀ j (hj : j < s.size), 1 ≤ j → j < k → byteB s[j].toNat = true)) (fun i => s.size - (intOf i).toNat)
      case atStart => exact ⟨1, Nat.le_refl _, h1, rfl, fun j _ a b => by omega⟩
      case round =>
        obtain ⟨k, hk1, hk, rfl, HI⟩ := hrel
        by_cases hlt : k < s.size
        · cases hl : byteB s[k].toNat
          · have HF : Hid (formI s = 0) := Lib.hid (by rw [HT.out, tail_no hlt hk1 hl]; rfl)
            have HL := Lib.hid hl
            clear HI
            go_wp2_with (go_at_call 78; refine (isByte_any _ _).mono ?_; rintro e w' ⟨rfl, rfl⟩)
            go_ret
            exact ⟨ret_intP HF.out.symm, rfl⟩
          · have HN : Hid (∀ j (hj : j < s.size), 1 ≤ j → j < k + 1 → byteB s[j].toNat = true) := Lib.hid (fun j hj a b => by
              by_cases e : j = k
              · subst e; exact hl
              · exact HI.out j hj a (by omega))
            have HL := Lib.hid hl
            clear HI
            go_wp2_with (go_at_call 78; refine (isByte_any _ _).mono ?_; rintro e w' ⟨rfl, rfl⟩)
            go_round
            case rel => exact ⟨k + 1, by omega, by omega, by go_num, HN.out⟩
            case measure => simp [intOf]; omega
        · have hke : k = s.size := by omega
          have HF : Hid (formI s = 2) := Lib.hid (by rw [HT.out, tail_yes (fun j hj a => HI.out j hj a (by omega))]; rfl)
          clear HI hke
          go_wp2
          go_ret
          exact ⟨ret_intP HF.out.symm, rfl⟩
end Go.Proofs.YtnblfaagchflaaaGreatDoor
