/- slices.insertionSortCmpFunc at records, with a comparison that may lay blocks. -/
import Derived.Test.YtnblfaagchflaaaGreatDoorMgw5
import Derived.Test.YtnblfaagchflaaaGreatDoorMgw2
import Derived.Test.YtnblfaagchflaaaGreatDoorMgw4
import Derived.Test.YtnblfaagchflaaaGreatDoorProg
import Derived.Deep.DeepCutAuto
import Derived.Shelf.SlGeneric
import Derived.Ground.SlsfProg
import Derived.Shelf.SlSortCmp.WholeK
import Derived.Shelf.SlSortCmp.NoneTotal
namespace Go.Proofs.YtnblfaagchflaaaGreatDoor
open Go.RowKit Go.Lib
open Go.Sort hiding Below
set_option linter.unusedVariables false
set_option linter.unusedSimpArgs false
variable {P : Program} {α : Type} [Inhabited α]

/-- The comparison g answers cf, wherever it is called; of what was there nothing turns. -/
def CmpB (P : Program) (g : Nat) (enc : α → List Value) (cf : α → α → Int) : Prop :=
  (∀ args w, (callFunc g args).run P w = .ok (.enter g args) w) ∧ ∀ x y W, Calls P g #[.agg (enc x).toArray, .agg (enc y).toArray] W fun e w' => e = .returned (.int .i64 (cf x y)) ∧ Go.RowKit.Below W.heap.size W w'
omit [Inhabited α] in
theorem CmpB.at_ {g : Nat} {enc : α → List Value} {cf : α → α → Int} (h : CmpB P g enc cf) (x y : α) (W : World) (d : Nat) (os : Array Obj) :
    Calls P g #[.agg (enc x).toArray, .agg (enc y).toArray] (grow (redrawn W d) os) fun e w'' => e = .returned (.int .i64 (cf x y)) ∧ ∃ p : Regrown, w'' = grow (redrawn W p.d) p.os := Calls.regrown_of (h.2 x y _)
theorem SB.lds {enc : α → List Value} {k : Nat} {e : TypeId} {w0 W : World} {blk off C : Nat} {d : Array α} (h : SB enc k e w0 blk off C d W) (hk : ∀ x, (enc x).length = k) (P : Program) {i : Nat} (hi : i < d.size) (q : Nat) (os : Array Obj) :
    Sem.run P (loadCellsFrom ⟨blk, off + i * k, none⟩ 0 k #[]) (grow (redrawn W q) os) = .ok (enc d[i]!).toArray (grow (redrawn W q) os) := (h.below (below_regrown W q os)).load hk P hi

set_option maxHeartbeats 4000000 in
set_option maxRecDepth 100000 in
theorem insertion_rcd {k : Nat} (L : SFacts P 29 57 87 k) (F : P.funcs[108]? = some Tryz.f108)
    (enc : α → List Value) (hk : ∀ x, (enc x).length = k) (h1 : ∀ x, ∀ v ∈ enc x, v.oneCell' = true) (cf : α → α → Int) (g : Nat) (hC : CmpB P g enc cf) (w0 W : World) (blk off C cap a b : Nat) (d : Array α) (h : SB enc k 57 w0 blk off C d W)
    (hab : a ≤ b) (hb : b ≤ d.size) (hsz : d.size < 4611686018427387904) :
    Calls P 108 #[.slice (some ⟨blk, off, none⟩) d.size cap, .int .i64 a, .int .i64 b, .func (.func g) #[] #[]] W fun e w' => e = .returned (.tuple #[]) ∧ SB enc k 57 w0 blk off C (Sort.insertionSort (ltOf cf) d a b) w' := by
  have mixed := L.mixed; have t0 := L.t0; have a0 := L.a0; have z0 := L.z0; have ti := L.ti; have ai := L.ai; have zi := L.zi; have vi := L.vi; have tb := L.tb; have ab := L.ab; have zb := L.zb; have tu := L.tu; have au := L.au; have zu := L.zu; have tS := L.tS; have aS := L.aS; have zS := L.zS; have aE := L.aE; have zE := L.zE; have tF := L.tF; have aF := L.aF; have zF := L.zF
  have HC := Lib.hid hC.2
  have HCB := Lib.hid hC
  have eg := hC.1
  have HS := Lib.hid h
  have HK := Lib.hid hk
  have H1 := Lib.hid h1
  clear h hk h1 hC
  go_enter F, Tryz.ntmps108
  go_wp2
  go_loopw [8] (fun s wr => ∃ (i : Nat) (dk : Array α), s = .int .i64 i ∧ a < i ∧ i ≤ b + 1 ∧ dk.size = d.size ∧ Hid (insOuter (ltOf cf) a b i dk = insOuter (ltOf cf) a b (a + 1) d ∧ SB enc k 57 w0 blk off C dk wr)) (fun s _ => b + 1 - (intOf s).toNat)
  case atStart => exact ⟨a + 1, d, by go_num, by omega, by omega, rfl, rfl, HS.out⟩
  case round =>
    obtain ⟨i, dk, rfl, hai, hib, hsk, HO⟩ := hrel
    by_cases hlt : i < b
    · have hltz : (i : Int) < (b : Int) := by omega
      go_wp2
      go_loopw [9] (fun s wr => ∃ (j : Nat) (dj : Array α), s = .int .i64 j ∧ a ≤ j ∧ j ≤ i ∧ dj.size = d.size ∧ Hid (insInner (ltOf cf) a j dj = insInner (ltOf cf) a i dk ∧ SB enc k 57 w0 blk off C dj wr)) (fun s _ => (intOf s).toNat)
      case atStart => exact ⟨i, dk, rfl, by omega, Nat.le_refl _, hsk, rfl, HO.out.2⟩
      case round =>
        obtain ⟨j, dj, rfl, haj, hji, hsj, HI⟩ := hrel
        have OUT : Hid ((j ≤ a ∨ ltOf cf dj[j]! dj[j - 1]! = false) → insOuter (ltOf cf) a b (i + 1) dj = insOuter (ltOf cf) a b (a + 1) d) := fun hs => by
          rw [← HO.out.1, insOuter_go _ _ _ _ _ hlt, ← HI.out.1, insInner_stop _ _ _ _ hs]
        by_cases hja : a < j
        · obtain ⟨jp, rfl⟩ : ∃ jp, j = jp + 1 := ⟨j - 1, by omega⟩
          have hjaz' : (a : Int) < (jp : Int) + 1 := by omega
          have hwp : IntKind.i64.wrap (jp : Int) = (jp : Int) := by rw [IntKind.wrap_i64]; omega
          have jz : (jp : Int) + 1 < (d.size : Int) := by omega
          have jz1 : (jp : Int) < (d.size : Int) := by omega
          have p0 : (0 : Int) ≤ (jp : Int) + 1 := by omega
          have e0 : ((jp : Int) + 1).toNat = jp + 1 := by omega
          have lj := HI.out.2.lds HK.out P (i := jp + 1) (by omega)
          have lp := HI.out.2.lds HK.out P (i := jp) (by omega)
          obtain ⟨xj, hxj⟩ : ∃ x, dj[jp + 1]! = x := ⟨_, rfl⟩
          obtain ⟨xp, hxp⟩ : ∃ x, dj[jp]! = x := ⟨_, rfl⟩
          rw [hxj] at lj
          rw [hxp] at lp
          have HCG := Lib.hid (HCB.out.at_ xj xp wr)
          have HXJ := Lib.hid hxj
          have HXP := Lib.hid hxp
          clear hxj hxp
          by_cases hlv : cf xj xp < 0
          · have dlv : decide (cf xj xp < 0) = true := by simp; omega
            go_wp2_with fail
            refine wp_region_quiet_below (by assumption) (by kernel_rfl) ?_
            repeat (first | go_big_quiet_step (exact HCG.out _ _) | quiet_step (exact HCG.out _ _))
            refine wpQuiet_nil ?_
            intro _ hw'
            obtain ⟨⟨dq, osq⟩, hw''⟩ := hw'
            subst hw''
            have hB5 := HI.out.2.below (below_regrown wr dq osq)
            clear lj lp
            generalize grow (redrawn wr dq) osq = W5 at hB5 ⊢
            have hB6 := hB5.drew
            have lj := hB6.load HK.out P (i := jp + 1) (by omega)
            have lp := hB6.load HK.out P (i := jp) (by omega)
            have s1 := hB6.st1 HK.out H1.out P (i := jp + 1) (by omega) dj[jp]!
            have s2 := hB6.st2 HK.out H1.out P (i := jp + 1) (j := jp) (by omega) (by omega) dj[jp]! dj[jp + 1]!
            have HN : Hid _ := hB6.swap HK.out (i := jp + 1) (j := jp) (by omega) (by omega)
            have q1 : (enc dj[jp + 1]!).length = k := HK.out _
            have q2 : (enc dj[jp]!).length = k := HK.out _
            clear hB6 hB5
            generalize enc dj[jp + 1]! = cj at lj lp s1 s2 HN q1 q2
            generalize enc dj[jp]! = cp at lj lp s1 s2 HN q1 q2
            go_wp2_with fail
            go_big_region_o
            all_goals go_wp2
            go_roundw
            case rel =>
              refine ⟨jp, swp dj (jp + 1) jp, by first | rfl | go_num | (congr 1; omega), by omega, by omega, by rw [size_swp]; exact hsj, ?_, HN.out⟩
              have := insInner_go (ltOf cf) a (jp + 1) dj hja (by simp only [Nat.add_sub_cancel]; rw [HXJ.out, HXP.out]; exact dlv)
              simp only [Nat.add_sub_cancel] at this
              rw [← HI.out.1, this]
            case measure => simp [intOf]
          · have dlv : decide (cf xj xp < 0) = false := by simp; omega
            go_wp2_with fail
            refine wp_region_quiet_below (by assumption) (by kernel_rfl) ?_
            repeat (first | go_big_quiet_step (exact HCG.out _ _) | quiet_step (exact HCG.out _ _))
            refine wpQuiet_nil ?_
            intro _ hw'
            obtain ⟨⟨dq, osq⟩, hw''⟩ := hw'
            subst hw''
            have HB5 := Lib.hid (HI.out.2.below (below_regrown wr dq osq))
            generalize grow (redrawn wr dq) osq = W5 at HB5 ⊢
            go_wp2
            go_roundw
            case rel => exact ⟨i + 1, dj, by go_num, by omega, by omega, hsj, OUT.out (Or.inr (by simp only [Nat.add_sub_cancel]; rw [HXJ.out, HXP.out]; exact dlv)), HB5.out⟩
            case measure => simp [intOf]; omega
        · have hjaz : decide ((a : Int) < (j : Int)) = false := decide_eq_false (by omega)
          have hjaz' : ¬ (a : Int) < (j : Int) := by omega
          have HB5 := Lib.hid HI.out.2.drew
          go_wp2_with fail
          go_big_region_o
          all_goals go_wp2
          go_roundw
          case rel => exact ⟨i + 1, dj, by go_num, by omega, by omega, hsj, OUT.out (Or.inl (by omega)), HB5.out⟩
          case measure => simp [intOf]; omega
    · have hltz : ¬ (i : Int) < (b : Int) := by omega
      go_wp2
      go_end0
      exact ⟨rfl, by unfold Sort.insertionSort; rw [← HO.out.1, insOuter_stop _ _ _ _ _ hlt]; exact HO.out.2⟩
end Go.Proofs.YtnblfaagchflaaaGreatDoor
/- slices.symMergeCmpFunc at records: a left run of one element, a right run of one element. -/
namespace Go.Proofs.YtnblfaagchflaaaGreatDoor
open Go.RowKit Go.Lib
open Go.Sort hiding Below
set_option linter.unusedVariables false
set_option linter.unusedSimpArgs false
variable {P : Program} {α : Type} [Inhabited α]

set_option maxHeartbeats 4000000 in
set_option maxRecDepth 100000 in
theorem symMerge_left_rcd {k : Nat} (L : SFacts P 29 57 87 k) (F : P.funcs[109]? = some Tryz.f109)
    (enc : α → List Value) (hk : ∀ x, (enc x).length = k) (h1 : ∀ x, ∀ v ∈ enc x, v.oneCell' = true) (cf : α → α → Int) (hO : SWO (ltOf cf)) (g : Nat) (hC : CmpB P g enc cf) (w0 W : World) (blk off C cap a b : Nat) (d : Array α) (h : SB enc k 57 w0 blk off C d W)
    (hab : a + 1 < b) (hb : b ≤ d.size) (hsz : d.size < 1000000000) (hs : SortedIn (ltOf cf) (a + 1) b d) :
    Calls P 109 #[.slice (some ⟨blk, off, none⟩) d.size cap, .int .i64 a, .int .i64 (a + 1 : Nat), .int .i64 b, .func (.func g) #[] #[]] W fun e w' => e = .returned (.tuple #[]) ∧ ∃ d', PermIn a b d d' ∧ SortedIn (ltOf cf) a b d' ∧ SB enc k 57 w0 blk off C d' w' := by
  have mixed := L.mixed; have t0 := L.t0; have a0 := L.a0; have z0 := L.z0; have ti := L.ti; have ai := L.ai; have zi := L.zi; have vi := L.vi; have tb := L.tb; have ab := L.ab; have zb := L.zb; have tu := L.tu; have au := L.au; have zu := L.zu; have tS := L.tS; have aS := L.aS; have zS := L.zS; have aE := L.aE; have zE := L.zE; have tF := L.tF; have aF := L.aF; have zF := L.zF
  have HCB := Lib.hid hC
  have eg := hC.1
  have HS := Lib.hid h
  have HK := Lib.hid hk
  have H1 := Lib.hid h1
  have HSO := Lib.hid hs
  have HO := Lib.hid hO
  clear h hk h1 hC hs hO
  have wm : IntKind.i64.wrap (((a + 1 : Nat) : Int) - (a : Int)) = 1 := by rw [IntKind.wrap_i64]; omega
  go_enter F, Tryz.ntmps109
  go_wp2
  clear wm
  go_loopw [10, 11] (fun s t wr => ∃ (i j : Nat), s = .int .i64 i ∧ t = .int .i64 j ∧ a + 1 ≤ i ∧ i ≤ j ∧ j ≤ b ∧ Hid ((∀ x, a + 1 ≤ x → x < i → ltOf cf d[x]! d[a]! = true) ∧ (∀ x, j ≤ x → x < b → ltOf cf d[x]! d[a]! = false) ∧ SB enc k 57 w0 blk off C d wr)) (fun s t _ => (intOf t).toNat - (intOf s).toNat)
  case atStart => exact ⟨a + 1, b, by go_num, rfl, by omega, by omega, by omega, fun x h1 h2 => by omega, fun x h1 h2 => by omega, HS.out⟩
  case round =>
    obtain ⟨i, j, rfl, rfl, hi, hij, hj, HI⟩ := hrel
    by_cases hlt : i < j
    · have hltz : (i : Int) < (j : Int) := by omega
      obtain ⟨c, hc⟩ : ∃ c : Nat, c = (i + j) / 2 := ⟨_, rfl⟩
      have hc1 : i ≤ c := by omega
      have hc2 : c < j := by omega
      have hcz : ((i : Int) + (j : Int)) / 2 = (c : Int) := by omega
      have zc : (c : Int) < (d.size : Int) := by omega
      have za : (a : Int) < (d.size : Int) := by omega
      have lc := HI.out.2.2.lds HK.out P (i := c) (by omega)
      have la := HI.out.2.2.lds HK.out P (i := a) (by omega)
      obtain ⟨xc, hxc⟩ : ∃ x, d[c]! = x := ⟨_, rfl⟩
      obtain ⟨xa, hxa⟩ : ∃ x, d[a]! = x := ⟨_, rfl⟩
      rw [hxc] at lc
      rw [hxa] at la
      have HCG := Lib.hid (HCB.out.at_ xc xa wr)
      have HXC := Lib.hid hxc
      have HXA := Lib.hid hxa
      clear hxc hxa hc
      by_cases hlv : cf xc xa < 0
      · have dlv : decide (cf xc xa < 0) = true := by simp; omega
        have HN : Hid (∀ x, a + 1 ≤ x → x < c + 1 → ltOf cf d[x]! d[a]! = true) := Lib.hid fun x hx hx2 => by
          have hcc : ltOf cf d[c]! d[a]! = true := by rw [HXC.out, HXA.out]; exact dlv
          by_cases e : x = c
          · rw [e]; exact hcc
          · cases hh : ltOf cf d[x]! d[a]! with
            | true => rfl
            | false =>
              have := SWO.le HO.out hh (HSO.out x c hx (by omega) (by omega))
              rw [hcc] at this; cases this
        clear hlv
        go_wp2_with fail
        clear hcz
        refine wp_region_quiet_below (by assumption) (by kernel_rfl) ?_
        repeat (first | go_big_quiet_step (exact HCG.out _ _) | quiet_step (exact HCG.out _ _))
        refine wpQuiet_nil ?_
        intro _ hw'
        obtain ⟨⟨dq, osq⟩, hw''⟩ := hw'
        subst hw''
        have HB5 := Lib.hid (HI.out.2.2.below (below_regrown wr dq osq))
        generalize grow (redrawn wr dq) osq = W5 at HB5 ⊢
        go_wp2
        go_roundw
        case rel => exact ⟨c + 1, j, by go_num, rfl, by omega, by omega, hj, HN.out, HI.out.2.1, HB5.out⟩
        case measure => simp [intOf]; omega
      · have dlv : decide (cf xc xa < 0) = false := by simp; omega
        have HN : Hid (∀ x, c ≤ x → x < b → ltOf cf d[x]! d[a]! = false) := Lib.hid fun x hx hx2 => by
          have hcc : ltOf cf d[c]! d[a]! = false := by rw [HXC.out, HXA.out]; exact dlv
          by_cases e : x = c
          · rw [e]; exact hcc
          · exact SWO.le HO.out hcc (HSO.out c x (by omega) (by omega) (by omega))
        clear hlv
        go_wp2_with fail
        clear hcz
        refine wp_region_quiet_below (by assumption) (by kernel_rfl) ?_
        repeat (first | go_big_quiet_step (exact HCG.out _ _) | quiet_step (exact HCG.out _ _))
        refine wpQuiet_nil ?_
        intro _ hw'
        obtain ⟨⟨dq, osq⟩, hw''⟩ := hw'
        subst hw''
        have HB5 := Lib.hid (HI.out.2.2.below (below_regrown wr dq osq))
        generalize grow (redrawn wr dq) osq = W5 at HB5 ⊢
        go_wp2
        go_roundw
        case rel => exact ⟨i, c, rfl, rfl, hi, by omega, by omega, HI.out.1, HN.out, HB5.out⟩
        case measure => simp [intOf]; omega
    · have hji : j = i := by omega
      subst hji
      have hltz : ¬ (j : Int) < (j : Int) := by omega
      have HM := Lib.hid (fun (d' : Array α) (hr : ∀ x, d'[x]! = rotAt d a (a + 1) j x) => merge_one_left HO.out hb (by omega) hj HSO.out HI.out.1 HI.out.2.1 hr)
      go_wp2_with fail
      go_loopw [13] (fun s wr => ∃ (q : Nat) (dk : Array α), s = .int .i64 q ∧ a ≤ q ∧ q ≤ j - 1 ∧ dk.size = d.size ∧ Hid (PermIn a b d dk ∧ (∀ x, dk[x]! = rotAt d a (a + 1) (q + 1) x) ∧ SB enc k 57 w0 blk off C dk wr)) (fun s _ => j - (intOf s).toNat)
      case atStart => exact ⟨a, d, rfl, Nat.le_refl _, by omega, rfl, permIn_refl _ _ _, rot_up0 d a, HI.out.2.2⟩
      case round =>
        obtain ⟨q, dk, rfl, hq1, hq2, hsk, HQ⟩ := hrel
        by_cases hql : q < j - 1
        · have hqz : (q : Int) < (j : Int) - 1 := by omega
          have zq : (q : Int) < (d.size : Int) := by omega
          have zq1 : (q : Int) + 1 < (d.size : Int) := by omega
          have p0 : (0 : Int) ≤ (q : Int) + 1 := by omega
          have e0 : ((q : Int) + 1).toNat = q + 1 := by omega
          have HR := Lib.hid (rot_up (by omega) hq1 HQ.out.2.1)
          have HP := Lib.hid (permIn_trans _ _ _ _ _ HQ.out.1 (swp_permIn dk a b q (q + 1) (by omega) (by omega) (by omega) (by omega) (by omega)))
          have hB6 := HQ.out.2.2.drew
          have l1 := hB6.load HK.out P (i := q) (by omega)
          have l2 := hB6.load HK.out P (i := q + 1) (by omega)
          have s1 := hB6.st1 HK.out H1.out P (i := q) (by omega) dk[q + 1]!
          have s2 := hB6.st2 HK.out H1.out P (i := q) (j := q + 1) (by omega) (by omega) dk[q + 1]! dk[q]!
          have HN : Hid _ := hB6.swap HK.out (i := q) (j := q + 1) (by omega) (by omega)
          have q1 : (enc dk[q + 1]!).length = k := HK.out _
          have q2 : (enc dk[q]!).length = k := HK.out _
          clear hB6
          generalize enc dk[q + 1]! = cj at l1 l2 s1 s2 HN q1 q2
          generalize enc dk[q]! = cp at l1 l2 s1 s2 HN q1 q2
          go_wp2_with fail
          go_big_region_o
          all_goals go_wp2
          go_roundw
          case rel => exact ⟨q + 1, _, by go_num, by omega, by omega, by rw [size_swp]; exact hsk, HP.out, HR.out, HN.out⟩
          case measure => simp [intOf]; omega
        · have hqj : q + 1 = j := by omega
          have hqz : ¬ (q : Int) < (j : Int) - 1 := by omega
          have HM2 := Lib.hid (HM.out dk (fun x => by rw [HQ.out.2.1 x, hqj]))
          clear hqj
          go_wp2
          refine bodyPost_ret (results_none rfl _ _ _) rfl ?_
          exact ⟨rfl, dk, HQ.out.1, HM2.out, HQ.out.2.2⟩
end Go.Proofs.YtnblfaagchflaaaGreatDoor
/- slices.symMergeCmpFunc at records: a right run of one element. -/
namespace Go.Proofs.YtnblfaagchflaaaGreatDoor
open Go.RowKit Go.Lib
open Go.Sort hiding Below
set_option linter.unusedVariables false
set_option linter.unusedSimpArgs false
variable {P : Program} {α : Type} [Inhabited α]

set_option maxHeartbeats 4000000 in
set_option maxRecDepth 100000 in
theorem symMerge_right_rcd {k : Nat} (L : SFacts P 29 57 87 k) (F : P.funcs[109]? = some Tryz.f109)
    (enc : α → List Value) (hk : ∀ x, (enc x).length = k) (h1 : ∀ x, ∀ v ∈ enc x, v.oneCell' = true) (cf : α → α → Int) (hO : SWO (ltOf cf)) (g : Nat) (hC : CmpB P g enc cf) (w0 W : World) (blk off C cap a m : Nat) (d : Array α) (h : SB enc k 57 w0 blk off C d W)
    (hab : a + 1 < m) (hb : m + 1 ≤ d.size) (hsz : d.size < 1000000000) (hs : SortedIn (ltOf cf) a m d) :
    Calls P 109 #[.slice (some ⟨blk, off, none⟩) d.size cap, .int .i64 a, .int .i64 m, .int .i64 (m + 1 : Nat), .func (.func g) #[] #[]] W fun e w' => e = .returned (.tuple #[]) ∧ ∃ d', PermIn a (m + 1) d d' ∧ SortedIn (ltOf cf) a (m + 1) d' ∧ SB enc k 57 w0 blk off C d' w' := by
  have mixed := L.mixed; have t0 := L.t0; have a0 := L.a0; have z0 := L.z0; have ti := L.ti; have ai := L.ai; have zi := L.zi; have vi := L.vi; have tb := L.tb; have ab := L.ab; have zb := L.zb; have tu := L.tu; have au := L.au; have zu := L.zu; have tS := L.tS; have aS := L.aS; have zS := L.zS; have aE := L.aE; have zE := L.zE; have tF := L.tF; have aF := L.aF; have zF := L.zF
  have HCB := Lib.hid hC
  have eg := hC.1
  have HS := Lib.hid h
  have HK := Lib.hid hk
  have H1 := Lib.hid h1
  have HSO := Lib.hid hs
  have HO := Lib.hid hO
  clear h hk h1 hC hs hO
  have wm : ((m : Int) - (a : Int) == 1) = false := by rw [beq_eq_false_iff_ne]; omega
  go_enter F, Tryz.ntmps109
  go_wp2
  clear wm
  go_loopw [14, 15] (fun s t wr => ∃ (i j : Nat), s = .int .i64 i ∧ t = .int .i64 j ∧ a ≤ i ∧ i ≤ j ∧ j ≤ m ∧ Hid ((∀ x, a ≤ x → x < i → ltOf cf d[m]! d[x]! = false) ∧ (∀ x, j ≤ x → x < m → ltOf cf d[m]! d[x]! = true) ∧ SB enc k 57 w0 blk off C d wr)) (fun s t _ => (intOf t).toNat - (intOf s).toNat)
  case atStart => exact ⟨a, m, rfl, rfl, by omega, by omega, by omega, fun x h1 h2 => by omega, fun x h1 h2 => by omega, HS.out⟩
  case round =>
    obtain ⟨i, j, rfl, rfl, hi, hij, hj, HI⟩ := hrel
    by_cases hlt : i < j
    · have hltz : (i : Int) < (j : Int) := by omega
      obtain ⟨c, hc⟩ : ∃ c : Nat, c = (i + j) / 2 := ⟨_, rfl⟩
      have hc1 : i ≤ c := by omega
      have hc2 : c < j := by omega
      have hcz : ((i : Int) + (j : Int)) / 2 = (c : Int) := by omega
      have zc : (c : Int) < (d.size : Int) := by omega
      have za : (m : Int) < (d.size : Int) := by omega
      have lc := HI.out.2.2.lds HK.out P (i := c) (by omega)
      have la := HI.out.2.2.lds HK.out P (i := m) (by omega)
      obtain ⟨xc, hxc⟩ : ∃ x, d[c]! = x := ⟨_, rfl⟩
      obtain ⟨xa, hxa⟩ : ∃ x, d[m]! = x := ⟨_, rfl⟩
      rw [hxc] at lc
      rw [hxa] at la
      have HCG := Lib.hid (HCB.out.at_ xa xc wr)
      have HXC := Lib.hid hxc
      have HXA := Lib.hid hxa
      clear hxc hxa hc
      by_cases hlv : cf xa xc < 0
      · have dlv : decide (cf xa xc < 0) = true := by simp; omega
        have HN : Hid (∀ x, c ≤ x → x < m → ltOf cf d[m]! d[x]! = true) := Lib.hid fun x hx hx2 => by
          have hcc : ltOf cf d[m]! d[c]! = true := by rw [HXC.out, HXA.out]; exact dlv
          by_cases e : x = c
          · rw [e]; exact hcc
          · cases hh : ltOf cf d[m]! d[x]! with
            | true => rfl
            | false =>
              have := SWO.le HO.out (HSO.out c x (by omega) (by omega) (by omega)) hh
              rw [hcc] at this; cases this
        clear hlv
        go_wp2_with fail
        clear hcz
        refine wp_region_quiet_below (by assumption) (by kernel_rfl) ?_
        repeat (first | go_big_quiet_step (exact HCG.out _ _) | quiet_step (exact HCG.out _ _))
        refine wpQuiet_nil ?_
        intro _ hw'
        obtain ⟨⟨dq, osq⟩, hw''⟩ := hw'
        subst hw''
        have HB5 := Lib.hid (HI.out.2.2.below (below_regrown wr dq osq))
        generalize grow (redrawn wr dq) osq = W5 at HB5 ⊢
        go_wp2
        go_roundw
        case rel => exact ⟨i, c, rfl, rfl, hi, by omega, by omega, HI.out.1, HN.out, HB5.out⟩
        case measure => simp [intOf]; omega
      · have dlv : decide (cf xa xc < 0) = false := by simp; omega
        have HN : Hid (∀ x, a ≤ x → x < c + 1 → ltOf cf d[m]! d[x]! = false) := Lib.hid fun x hx hx2 => by
          have hcc : ltOf cf d[m]! d[c]! = false := by rw [HXC.out, HXA.out]; exact dlv
          by_cases e : x = c
          · rw [e]; exact hcc
          · exact SWO.le HO.out (HSO.out x c (by omega) (by omega) (by omega)) hcc
        clear hlv
        go_wp2_with fail
        clear hcz
        refine wp_region_quiet_below (by assumption) (by kernel_rfl) ?_
        repeat (first | go_big_quiet_step (exact HCG.out _ _) | quiet_step (exact HCG.out _ _))
        refine wpQuiet_nil ?_
        intro _ hw'
        obtain ⟨⟨dq, osq⟩, hw''⟩ := hw'
        subst hw''
        have HB5 := Lib.hid (HI.out.2.2.below (below_regrown wr dq osq))
        generalize grow (redrawn wr dq) osq = W5 at HB5 ⊢
        go_wp2
        go_roundw
        case rel => exact ⟨c + 1, j, by go_num, rfl, by omega, by omega, hj, HN.out, HI.out.2.1, HB5.out⟩
        case measure => simp [intOf]; omega
    · have hji : j = i := by omega
      subst hji
      have hltz : ¬ (j : Int) < (j : Int) := by omega
      have HM := Lib.hid (fun (d' : Array α) (hr : ∀ x, d'[x]! = rotAt d j m (m + 1) x) => merge_one_right HO.out hb hi hj HSO.out HI.out.1 HI.out.2.1 hr)
      go_wp2_with fail
      go_loopw [17] (fun s wr => ∃ (q : Nat) (dk : Array α), s = .int .i64 q ∧ j ≤ q ∧ q ≤ m ∧ dk.size = d.size ∧ Hid (PermIn a (m + 1) d dk ∧ (∀ x, dk[x]! = rotAt d q m (m + 1) x) ∧ SB enc k 57 w0 blk off C dk wr)) (fun s _ => (intOf s).toNat)
      case atStart => exact ⟨m, d, rfl, by omega, by omega, rfl, permIn_refl _ _ _, rot_down0 d m, HI.out.2.2⟩
      case round =>
        obtain ⟨q, dk, rfl, hq1, hq2, hsk, HQ⟩ := hrel
        by_cases hql : j < q
        · obtain ⟨qp, rfl⟩ : ∃ qp, q = qp + 1 := ⟨q - 1, by omega⟩
          have hqz : (j : Int) < (qp : Int) + 1 := by omega
          have hwp : IntKind.i64.wrap (qp : Int) = (qp : Int) := by rw [IntKind.wrap_i64]; omega
          have zq : (qp : Int) < (d.size : Int) := by omega
          have zq1 : (qp : Int) + 1 < (d.size : Int) := by omega
          have p0 : (0 : Int) ≤ (qp : Int) + 1 := by omega
          have e0 : ((qp : Int) + 1).toNat = qp + 1 := by omega
          have HR := Lib.hid (rot_down (by omega) (by omega) HQ.out.2.1)
          have HP := Lib.hid (permIn_trans _ _ _ _ _ HQ.out.1 (swp_permIn dk a (m + 1) (qp + 1) qp (by omega) (by omega) (by omega) (by omega) (by omega)))
          have hB6 := HQ.out.2.2.drew
          have l1 := hB6.load HK.out P (i := qp) (by omega)
          have l2 := hB6.load HK.out P (i := qp + 1) (by omega)
          have s1 := hB6.st1 HK.out H1.out P (i := qp + 1) (by omega) dk[qp]!
          have s2 := hB6.st2 HK.out H1.out P (i := qp + 1) (j := qp) (by omega) (by omega) dk[qp]! dk[qp + 1]!
          have HN : Hid _ := hB6.swap HK.out (i := qp + 1) (j := qp) (by omega) (by omega)
          have q1 : (enc dk[qp + 1]!).length = k := HK.out _
          have q2 : (enc dk[qp]!).length = k := HK.out _
          clear hB6
          generalize enc dk[qp + 1]! = cj at l1 l2 s1 s2 HN q1 q2
          generalize enc dk[qp]! = cp at l1 l2 s1 s2 HN q1 q2
          go_wp2_with fail
          go_big_region_o
          all_goals go_wp2
          go_roundw
          case rel => exact ⟨qp, _, by first | rfl | go_num | (congr 1; omega), by omega, by omega, by rw [size_swp]; exact hsk, HP.out, HR.out, HN.out⟩
          case measure => simp [intOf]
        · have hqj : q = j := by omega
          subst hqj
          have HM2 := Lib.hid (HM.out dk HQ.out.2.1)
          go_wp2
          refine bodyPost_ret (results_none rfl _ _ _) rfl ?_
          exact ⟨rfl, dk, HQ.out.1, HM2.out, HQ.out.2.2⟩
end Go.Proofs.YtnblfaagchflaaaGreatDoor
/- Patterns: the walk of MatchPart. -/
namespace Go.Proofs.YtnblfaagchflaaaGreatDoor
open Go.RowKit
set_option linter.unusedVariables false
set_option linter.unusedSimpArgs false

def sufS (part : ByteArray) : ByteArray := part.extract 1 part.size
/-- What a component captures of a part, and whether it matches. -/
def capV (part comp : ByteArray) : ByteArray := if starS part then ⟨(Lib.trimSuffix comp.data.toList (sufS part).data.toList).toArray⟩ else emptyS
def capB (part comp : ByteArray) : Bool := if starS part then Lib.hasSuffix comp.data.toList (sufS part).data.toList && !decide (capV part comp = emptyS) else decide (part = comp)
theorem star_size {s : ByteArray} (h : starS s = true) : 1 ≤ s.size := by
  rcases Nat.eq_zero_or_pos s.size with h0 | h0
  · have : s.data.toList = [] := List.eq_nil_of_length_eq_zero (by simpa using h0)
    unfold starS at h
    rw [this] at h; cases h
  · exact h0
theorem str_eqP (a b : ByteArray) : (a.toList == b.toList) = decide (a = b) := by
  rw [Bool.eq_iff_iff, beq_iff_eq, decide_eq_true_eq, toList_inj]
theorem ret_sb {x y : ByteArray} {a b : Bool} (h1 : x = y) (h2 : a = b) : Ending.returned (.tuple #[.string x, .bool a]) = .returned (.tuple #[.string y, .bool b]) := by rw [h1, h2]
set_option maxHeartbeats 1000000 in
theorem matchPart_any (part comp : ByteArray) (w : World) (hp : part.size ≤ 9223372036854775807) (hs : comp.size ≤ 9223372036854775807) :
    Calls Tryz.prog 29 #[.string part, .string comp] w fun e w' => e = .returned (.tuple #[.string (capV part comp), .bool (capB part comp)]) ∧ w = w' := by
  have HI := Lib.hid (isStar_any part w)
  have HC := Lib.hid (Tryz.strings_CutSuffix comp (part.extract 1 part.size) w hs)
  cases hst : starS part with
  | false =>
    have HV : Hid (capV part comp = ⟨#[]⟩ ∧ capB part comp = decide (part = comp)) := Lib.hid (by unfold capV capB; rw [hst]; exact ⟨rfl, rfl⟩)
    have HE := Lib.hid (str_eqP part comp)
    rw [hst] at HI
    clear hst
    go_enter Tryz.func29, Tryz.ntmps29
    go_wp2_with (go_at_call 30; refine HI.out.mono ?_; rintro e w' ⟨rfl, rfl⟩)
    go_ret2
    exact ⟨ret_sb HV.out.1.symm (by rw [HV.out.2]; exact HE.out), rfl⟩
  | true =>
    have h1 : 1 ≤ part.size := star_size hst
    have HV : Hid (capV part comp = ⟨(Lib.trimSuffix comp.data.toList (sufS part).data.toList).toArray⟩ ∧ capB part comp = (Lib.hasSuffix comp.data.toList (sufS part).data.toList && !decide (capV part comp = emptyS))) := Lib.hid ⟨by unfold capV; rw [hst]; rfl, by unfold capB; rw [hst]; rfl⟩
    rw [hst] at HI
    clear hst
    change Hid (Calls Tryz.prog 56 #[.string comp, .string (part.extract 1 part.size)] w fun e w' => e = .returned (.tuple #[.string ⟨(Lib.trimSuffix comp.data.toList (sufS part).data.toList).toArray⟩, .bool (Lib.hasSuffix comp.data.toList (sufS part).data.toList)]) ∧ w' = w) at HC
    generalize (⟨(Lib.trimSuffix comp.data.toList (sufS part).data.toList).toArray⟩ : ByteArray) = x at HC HV
    generalize Lib.hasSuffix comp.data.toList (sufS part).data.toList = ok at HC HV
    have HE := Lib.hid (str_eqP x ⟨#[]⟩)
    go_enter Tryz.func29, Tryz.ntmps29
    cases ok with
    | false =>
      go_wp2_with (first
        | (go_at_call 30; refine HI.out.mono ?_; rintro e w' ⟨rfl, rfl⟩)
        | (go_at_call 56; refine HC.out.mono ?_; rintro e w' ⟨rfl, rfl⟩))
      go_ret2
      exact ⟨ret_sb HV.out.1.symm (by rw [HV.out.2]; rfl), rfl⟩
    | true =>
      by_cases hx : x = ⟨#[]⟩
      · have HX := Lib.hid hx
        have q : (x.toList == (⟨#[]⟩ : ByteArray).toList) = true := by rw [HE.out]; simpa using hx
        have q2 : x.toList = [] := by rw [hx, ByteArray.toList_eq]
        clear hx
        go_wp2_with (first
          | (go_at_call 30; refine HI.out.mono ?_; rintro e w' ⟨rfl, rfl⟩)
          | (go_at_call 56; refine HC.out.mono ?_; rintro e w' ⟨rfl, rfl⟩))
        go_ret2
        exact ⟨ret_sb HV.out.1.symm (by rw [HV.out.2, HV.out.1, HX.out]; rfl), rfl⟩
      · have HX := Lib.hid hx
        have q : (x.toList == (⟨#[]⟩ : ByteArray).toList) = false := by rw [HE.out]; simpa using hx
        have q2 : ¬ x.toList = [] := fun h => hx (toList_inj.1 (h.trans (by rw [ByteArray.toList_eq])))
        have q3 : x.toList.isEmpty = false := by cases hh : x.toList; exact absurd hh q2; rfl
        clear hx
        go_wp2_with (first
          | (go_at_call 30; refine HI.out.mono ?_; rintro e w' ⟨rfl, rfl⟩)
          | (go_at_call 56; refine HC.out.mono ?_; rintro e w' ⟨rfl, rfl⟩))
        go_ret2
        exact ⟨ret_sb HV.out.1.symm (by rw [HV.out.2, HV.out.1, decide_eq_false (show ¬ x = emptyS from HX.out)]; rfl), rfl⟩
end Go.Proofs.YtnblfaagchflaaaGreatDoor
/-
  DERIVED: THE SHELF's CONTRACTS AT THIS DUMP, IN PLAIN WORDS (tools/lay-plain.mjs out of 'TryzSort.lean', which tools/lay-shelf.mjs wrote): THE SAME DECLARATIONS UNDER THE SAME NAMES: 'import', 'namespace', 'open', 'def', 'theorem' AND NOTHING ELSE: no command of the shelf's: FOR A HAND-IN. Each laying: the table of numbers ('.._ren') and one theorem, a field a fact of the dump's own or the kernel's comparison; each contract: ONE APPLICATION.
-/
namespace Go.Proofs
open Go.Shelf
def Tryz.sortRevs_ren : Go.Shelf.Ren := ⟨fun | 6 => 20 | 15 => 50 | 14 => 49 | 28 => 87 | 29 => 88 | 20 => 79 | 21 => 80 | 22 => 81 | 23 => 82 | 24 => 83 | 25 => 84 | 26 => 85 | 27 => 86 | 46 => 110 | 47 => 111 | 48 => 112 | 49 => 113 | 50 => 114 | 57 => 132 | n => n, fun | 22 => 28 | 24 => 40 | 25 => 67 | 3 => 3 | 39 => 98 | 0 => 0 | 53 => 136 | 55 => 36 | 4 => 4 | 46 => 130 | 45 => 129 | 50 => 92 | 5 => 5 | 9 => 9 | 66 => 153 | 70 => 157 | 76 => 171 | 77 => 172 | n => n, fun | n => n⟩
theorem Tryz.sortRevs : Go.Proofs.SlLaysF0.n6 Tryz.prog Tryz.sortRevs_ren := {
  mixed := by kernel_rfl
  f6 := ⟨Tryz.f20.name, by decide, Tryz.func20.trans (congrArg some (by kernel_rfl))⟩
  f14 := ⟨Tryz.f49.name, by decide, Tryz.func49.trans (congrArg some (by kernel_rfl))⟩
  f15 := Tryz.func50.trans (congrArg some (by kernel_rfl))
  f20 := ⟨Tryz.f79.name, by decide, Tryz.func79.trans (congrArg some (by kernel_rfl))⟩
  f21 := ⟨Tryz.f80.name, by decide, Tryz.func80.trans (congrArg some (by kernel_rfl))⟩
  f22 := ⟨Tryz.f81.name, by decide, Tryz.func81.trans (congrArg some (by kernel_rfl))⟩
  f23 := ⟨Tryz.f82.name, by decide, Tryz.func82.trans (congrArg some (by kernel_rfl))⟩
  f24 := ⟨Tryz.f83.name, by decide, Tryz.func83.trans (congrArg some (by kernel_rfl))⟩
  f25 := ⟨Tryz.f84.name, by decide, Tryz.func84.trans (congrArg some (by kernel_rfl))⟩
  f26 := ⟨Tryz.f85.name, by decide, Tryz.func85.trans (congrArg some (by kernel_rfl))⟩
  f27 := ⟨Tryz.f86.name, by decide, Tryz.func86.trans (congrArg some (by kernel_rfl))⟩
  f28 := Tryz.func87.trans (congrArg some (by kernel_rfl))
  f29 := Tryz.func88.trans (congrArg some (by kernel_rfl))
  f46 := ⟨Tryz.f110.name, by decide, Tryz.func110.trans (congrArg some (by kernel_rfl))⟩
  f47 := Tryz.func111.trans (congrArg some (by kernel_rfl))
  f48 := Tryz.func112.trans (congrArg some (by kernel_rfl))
  f49 := ⟨Tryz.f113.name, by decide, Tryz.func113.trans (congrArg some (by kernel_rfl))⟩
  f50 := ⟨Tryz.f114.name, by decide, Tryz.func114.trans (congrArg some (by kernel_rfl))⟩
  f57 := ⟨Tryz.f132.name, by decide, Tryz.func132.trans (congrArg some (by kernel_rfl))⟩
  t0 := Tryz.underlying0
  a0 := Tryz.isAgg0
  z0 := Tryz.sizeOf0
  v0 := Tryz.zeroValue0
  t3 := Tryz.underlying3
  a3 := Tryz.isAgg3
  z3 := Tryz.sizeOf3
  v3 := Tryz.zeroValue3
  t4 := Tryz.underlying4
  a4 := Tryz.isAgg4
  z4 := Tryz.sizeOf4
  v4 := Tryz.zeroValue4
  t5 := Tryz.underlying5
  a5 := Tryz.isAgg5
  z5 := Tryz.sizeOf5
  v5 := Tryz.zeroValue5
  t9 := Tryz.underlying9
  a9 := Tryz.isAgg9
  z9 := Tryz.sizeOf9
  v9 := Tryz.zeroValue9
  t22 := Tryz.underlying28
  a22 := Tryz.isAgg28
  z22 := Tryz.sizeOf28
  v22 := Tryz.zeroValue28
  t25 := Tryz.underlying67
  a25 := Tryz.isAgg67
  z25 := Tryz.sizeOf67
  v25 := Tryz.zeroValue67
  t39 := Tryz.underlying98
  a39 := Tryz.isAgg98
  z39 := Tryz.sizeOf98
  v39 := Tryz.zeroValue98
  t45 := Tryz.underlying129
  a45 := Tryz.isAgg129
  z45 := Tryz.sizeOf129
  v45 := Tryz.zeroValue129
  t46 := Tryz.underlying130
  a46 := Tryz.isAgg130
  z46 := Tryz.sizeOf130
  v46 := Tryz.zeroValue130
  t50 := Tryz.underlying92
  a50 := Tryz.isAgg92
  z50 := Tryz.sizeOf92
  v50 := Tryz.zeroValue92
  t53 := Tryz.underlying136
  a53 := Tryz.isAgg136
  z53 := Tryz.sizeOf136
  v53 := Tryz.zeroValue136
  t55 := Tryz.underlying36
  a55 := Tryz.isAgg36
  z55 := Tryz.sizeOf36
  v55 := Tryz.zeroValue36
  t66 := Tryz.underlying153
  a66 := Tryz.isAgg153
  z66 := Tryz.sizeOf153
  v66 := Tryz.zeroValue153
  t70 := Tryz.underlying157
  a70 := Tryz.isAgg157
  z70 := Tryz.sizeOf157
  v70 := Tryz.zeroValue157
  t76 := Tryz.underlying171
  a76 := Tryz.isAgg171
  z76 := Tryz.sizeOf171
  v76 := Tryz.zeroValue171
  t77 := Tryz.underlying172
  a77 := Tryz.isAgg172
  z77 := Tryz.sizeOf172
  v77 := Tryz.zeroValue172 }
end Go.Proofs
