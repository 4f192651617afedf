/- The stable sort at revisions: the walks at records, turned by program. -/
import Derived.Test.YtmhmnchdhacdbaaGreatDoorSrt
import Derived.Test.YtmhmnchdhacdbaaGreatDoorMgv1
import Derived.Deep.DeepCutAuto
namespace Go.Proofs.YtmhmnchdhacdbaaGreatDoor
open Go.RowKit Go.Lib
open Go.Sort hiding Below
set_option linter.unusedVariables false
set_option linter.unusedSimpArgs false
variable {P : Program} {α : Type} [Inhabited α]

set_option maxHeartbeats 4000000 in
set_option maxRecDepth 100000 in
theorem swapRange_rev {k : Nat} (L : SFacts P 25 36 68 k) (F : P.funcs[141]? = some Tryz.f141)
    (enc : α → List Value) (hk : ∀ x, (enc x).length = k) (h1 : ∀ x, ∀ v ∈ enc x, v.oneCell' = true) (w0 W : World) (blk off C cap a b n : Nat) (d : Array α) (cv : Value) (h : SB enc k 36 w0 blk off C d W)
    (hab : a + n ≤ b) (hbn : b + n ≤ d.size) (hsz : d.size < 4611686018427387904) :
    Calls P 141 #[.slice (some ⟨blk, off, none⟩) d.size cap, .int .i64 a, .int .i64 b, .int .i64 n, cv] W fun e w' => e = .returned (.tuple #[]) ∧ SB enc k 36 w0 blk off C (swpR d a b n) w' := by
  have mixed := L.mixed; have t0 := L.t0; have a0 := L.a0; have z0 := L.z0; have ti := L.ti; have ai := L.ai; have zi := L.zi; have vi := L.vi; have tb := L.tb; have ab := L.ab; have zb := L.zb; have tS := L.tS; have aS := L.aS; have zS := L.zS; have aE := L.aE; have zE := L.zE; have tF := L.tF; have aF := L.aF; have zF := L.zF
  have HS := Lib.hid h
  have HK := Lib.hid hk
  have H1 := Lib.hid h1
  clear h hk h1
  go_enter F, Tryz.ntmps141
  go_wp2
  go_loopw [10] (fun s wr => ∃ i : Nat, s = .int .i64 i ∧ i ≤ n ∧ Hid (SB enc k 36 w0 blk off C (swpR d a b i) wr)) (fun s _ => n - (intOf s).toNat)
  case atStart => exact ⟨0, rfl, Nat.zero_le _, HS.out⟩
  case round =>
    obtain ⟨i, rfl, hi, HB⟩ := hrel
    by_cases hlt : i < n
    · have hltz : (i : Int) < (n : Int) := by omega
      have hds : (swpR d a b i).size = d.size := swpR_size d a b i
      have wa : IntKind.i64.wrap ((a : Int) + (i : Int)) = ((a + i : Nat) : Int) := by rw [IntKind.wrap_i64]; omega
      have wb : IntKind.i64.wrap ((b : Int) + (i : Int)) = ((b + i : Nat) : Int) := by rw [IntKind.wrap_i64]; omega
      have za : ((a + i : Nat) : Int) < (d.size : Int) := by omega
      have zb' : ((b + i : Nat) : Int) < (d.size : Int) := by omega
      have hB2 := HB.out.drew
      have la := hB2.load HK.out P (i := a + i) (by omega)
      have lb := hB2.load HK.out P (i := b + i) (by omega)
      have s1 := hB2.st1 HK.out H1.out P (i := a + i) (by omega) ((swpR d a b i)[b + i]!)
      have s2 := hB2.st2 HK.out H1.out P (i := a + i) (j := b + i) (by omega) (by omega) ((swpR d a b i)[b + i]!) ((swpR d a b i)[a + i]!)
      have HN : Hid _ := hB2.swap HK.out (i := a + i) (j := b + i) (by omega) (by omega)
      have q1 : (enc (swpR d a b i)[a + i]!).length = k := HK.out _
      have q2 : (enc (swpR d a b i)[b + i]!).length = k := HK.out _
      clear hB2
      generalize enc (swpR d a b i)[a + i]! = ca at la lb s1 s2 HN q1 q2
      generalize enc (swpR d a b i)[b + i]! = cb at la lb s1 s2 HN q1 q2
      go_wp2_with fail
      go_big_region_o
      all_goals go_wp2
      go_roundw
      case rel => exact ⟨i + 1, by go_num, by omega, HN.out⟩
      case measure => simp [intOf]; omega
    · have hin : i = n := by omega
      subst hin
      go_wp2
      go_end0
      exact ⟨rfl, HB.out⟩

set_option maxHeartbeats 4000000 in
set_option maxRecDepth 100000 in
theorem rotate_rev {k : Nat} (L : SFacts P 25 36 68 k) (F : P.funcs[141]? = some Tryz.f141)
    (F2 : P.funcs[124]? = some Tryz.f124)
    (enc : α → List Value) (hk : ∀ x, (enc x).length = k) (h1 : ∀ x, ∀ v ∈ enc x, v.oneCell' = true) (w0 W : World) (blk off C cap a m b : Nat) (d : Array α) (cv : Value) (h : SB enc k 36 w0 blk off C d W)
    (ham : a < m) (hmb : m < b) (hb : b ≤ d.size) (hsz : d.size < 4611686018427387904) :
    Calls P 124 #[.slice (some ⟨blk, off, none⟩) d.size cap, .int .i64 a, .int .i64 m, .int .i64 b, cv] W fun e w' => e = .returned (.tuple #[]) ∧ ∃ d', PermIn a b d d' ∧ (∀ x, d'[x]! = rotAt d a m b x) ∧ SB enc k 36 w0 blk off C d' w' := by
  have mixed := L.mixed; have t0 := L.t0; have a0 := L.a0; have z0 := L.z0; have ti := L.ti; have ai := L.ai; have zi := L.zi; have vi := L.vi; have tb := L.tb; have ab := L.ab; have zb := L.zb; have tu := L.tu; have au := L.au; have zu := L.zu; have tS := L.tS; have aS := L.aS; have zS := L.zS; have aE := L.aE; have zE := L.zE; have tF := L.tF; have aF := L.aF; have zF := L.zF
  have HSW := Lib.hid (fun (d' : Array α) (W' : World) (a b n : Nat) (h : SB enc k 36 w0 blk off C d' W') (hd : d'.size = d.size) (h2 : a + n ≤ b) (h3 : b + n ≤ d'.size) => swapRange_rev L F enc hk h1 w0 W' blk off C cap a b n d' cv h h2 h3 (by omega))
  have HS := Lib.hid h
  have e65 : ∀ args w, (callFunc 141 args).run P w = .ok (.enter 141 args) w := enters_of F (by kernel_rfl) rfl
  have w1 : IntKind.i64.wrap ((m : Int) - (a : Int)) = ((m - a : Nat) : Int) := by rw [IntKind.wrap_i64]; omega
  have w2 : IntKind.i64.wrap ((b : Int) - (m : Int)) = ((b - m : Nat) : Int) := by rw [IntKind.wrap_i64]; omega
  clear h hk h1
  go_enter F2, Tryz.ntmps124
  go_wp2
  clear w1 w2
  go_loopw [10, 11] (fun s t wr => ∃ (i j : Nat) (d' : Array α), s = .int .i64 i ∧ t = .int .i64 j ∧ Hid (RotI d a m b d' i j ∧ SB enc k 36 w0 blk off C d' wr)) (fun s t _ => (intOf s).toNat + (intOf t).toNat)
  case atStart => exact ⟨_, _, d, rfl, rfl, RotI.start ham hmb, HS.out⟩
  case round =>
    obtain ⟨i, j, d', rfl, rfl, HI⟩ := hrel
    have hi0 := HI.out.1.1
    have hj0 := HI.out.1.2.1
    have hi1 := HI.out.1.2.2.1
    have hj1 := HI.out.1.2.2.2.1
    have hds : d'.size = d.size := HI.out.1.2.2.2.2.1.1
    have w1 : IntKind.i64.wrap ((m : Int) - (i : Int)) = ((m - i : Nat) : Int) := by rw [IntKind.wrap_i64]; omega
    by_cases hne : i = j
    · subst hne
      have HF := Lib.hid (HI.out.1.fin ham hmb hb)
      have HW := Lib.hid (HSW.out d' wr (m - i) m i HI.out.2 hds (by omega) (by omega))
      rw [hds] at HW
      go_wp2_with fail
      refine HW.out.mono ?_
      rintro e w' ⟨rfl, hB⟩
      have HB := Lib.hid hB
      clear hB
      go_wp2_with fail
      go_end0
      exact ⟨rfl, _, HF.out.1, HF.out.2, HB.out⟩
    · have q1 : ((i : Int) != (j : Int)) = true := by rw [bne_iff_ne]; omega
      by_cases hij : j < i
      · have q2 : decide ((j : Int) < (i : Int)) = true := by simp; omega
        have HN := Lib.hid (HI.out.1.left ham hmb hb hij)
        have HW := Lib.hid (HSW.out d' wr (m - i) m j HI.out.2 hds (by omega) (by omega))
        rw [hds] at HW
        have w2 : IntKind.i64.wrap ((i : Int) - (j : Int)) = ((i - j : Nat) : Int) := by rw [IntKind.wrap_i64]; omega
        go_wp2_with fail
        refine HW.out.mono ?_
        rintro e w' ⟨rfl, hB⟩
        have HB := Lib.hid hB
        clear hB
        go_wp2_with fail
        go_roundw
        case rel => exact ⟨i - j, j, _, rfl, rfl, HN.out, HB.out⟩
        case measure => simp [intOf]; omega
      · have q2 : decide ((j : Int) < (i : Int)) = false := by simp; omega
        have HN := Lib.hid (HI.out.1.right ham hmb hb (by omega))
        have HW := Lib.hid (HSW.out d' wr (m - i) (m + j - i) i HI.out.2 hds (by omega) (by omega))
        rw [hds] at HW
        have w2 : IntKind.i64.wrap ((j : Int) - (i : Int)) = ((j - i : Nat) : Int) := by rw [IntKind.wrap_i64]; omega
        have c1 : ((m + j - i : Nat) : Int) = (m : Int) + (j : Int) - (i : Int) := by omega
        rw [c1] at HW
        clear c1
        go_wp2_with fail
        refine HW.out.mono ?_
        rintro e w' ⟨rfl, hB⟩
        have HB := Lib.hid hB
        clear hB
        go_wp2_with fail
        go_roundw
        case rel => exact ⟨i, j - i, _, rfl, rfl, HN.out, HB.out⟩
        case measure => simp [intOf]; omega

set_option maxHeartbeats 4000000 in
set_option maxRecDepth 100000 in
theorem insertion_rev {k : Nat} (L : SFacts P 25 36 68 k) (F : P.funcs[91]? = some Tryz.f91)
    (enc : α → List Value) (hk : ∀ x, (enc x).length = k) (h1 : ∀ x, ∀ v ∈ enc x, v.oneCell' = true) (cf : α → α → Int) (g : Nat) (hC : CmpB P g enc cf) (w0 W : World) (blk off C cap a b : Nat) (d : Array α) (h : SB enc k 36 w0 blk off C d W)
    (hab : a ≤ b) (hb : b ≤ d.size) (hsz : d.size < 4611686018427387904) :
    Calls P 91 #[.slice (some ⟨blk, off, none⟩) d.size cap, .int .i64 a, .int .i64 b, .func (.func g) #[] #[]] W fun e w' => e = .returned (.tuple #[]) ∧ SB enc k 36 w0 blk off C (Sort.insertionSort (ltOf cf) d a b) w' := by
  have mixed := L.mixed; have t0 := L.t0; have a0 := L.a0; have z0 := L.z0; have ti := L.ti; have ai := L.ai; have zi := L.zi; have vi := L.vi; have tb := L.tb; have ab := L.ab; have zb := L.zb; have tu := L.tu; have au := L.au; have zu := L.zu; have tS := L.tS; have aS := L.aS; have zS := L.zS; have aE := L.aE; have zE := L.zE; have tF := L.tF; have aF := L.aF; have zF := L.zF
  have HC := Lib.hid hC.2
  have HCB := Lib.hid hC
  have eg := hC.1
  have HS := Lib.hid h
  have HK := Lib.hid hk
  have H1 := Lib.hid h1
  clear h hk h1 hC
  go_enter F, Tryz.ntmps91
  go_wp2
  go_loopw [8] (fun s wr => ∃ (i : Nat) (dk : Array α), s = .int .i64 i ∧ a < i ∧ i ≤ b + 1 ∧ dk.size = d.size ∧ Hid (insOuter (ltOf cf) a b i dk = insOuter (ltOf cf) a b (a + 1) d ∧ SB enc k 36 w0 blk off C dk wr)) (fun s _ => b + 1 - (intOf s).toNat)
  case atStart => exact ⟨a + 1, d, by go_num, by omega, by omega, rfl, rfl, HS.out⟩
  case round =>
    obtain ⟨i, dk, rfl, hai, hib, hsk, HO⟩ := hrel
    by_cases hlt : i < b
    · have hltz : (i : Int) < (b : Int) := by omega
      go_wp2
      go_loopw [9] (fun s wr => ∃ (j : Nat) (dj : Array α), s = .int .i64 j ∧ a ≤ j ∧ j ≤ i ∧ dj.size = d.size ∧ Hid (insInner (ltOf cf) a j dj = insInner (ltOf cf) a i dk ∧ SB enc k 36 w0 blk off C dj wr)) (fun s _ => (intOf s).toNat)
      case atStart => exact ⟨i, dk, rfl, by omega, Nat.le_refl _, hsk, rfl, HO.out.2⟩
      case round =>
        obtain ⟨j, dj, rfl, haj, hji, hsj, HI⟩ := hrel
        have OUT : Hid ((j ≤ a ∨ ltOf cf dj[j]! dj[j - 1]! = false) → insOuter (ltOf cf) a b (i + 1) dj = insOuter (ltOf cf) a b (a + 1) d) := fun hs => by
          rw [← HO.out.1, insOuter_go _ _ _ _ _ hlt, ← HI.out.1, insInner_stop _ _ _ _ hs]
        by_cases hja : a < j
        · obtain ⟨jp, rfl⟩ : ∃ jp, j = jp + 1 := ⟨j - 1, by omega⟩
          have hjaz' : (a : Int) < (jp : Int) + 1 := by omega
          have hwp : IntKind.i64.wrap (jp : Int) = (jp : Int) := by rw [IntKind.wrap_i64]; omega
          have jz : (jp : Int) + 1 < (d.size : Int) := by omega
          have jz1 : (jp : Int) < (d.size : Int) := by omega
          have p0 : (0 : Int) ≤ (jp : Int) + 1 := by omega
          have e0 : ((jp : Int) + 1).toNat = jp + 1 := by omega
          have lj := HI.out.2.lds HK.out P (i := jp + 1) (by omega)
          have lp := HI.out.2.lds HK.out P (i := jp) (by omega)
          obtain ⟨xj, hxj⟩ : ∃ x, dj[jp + 1]! = x := ⟨_, rfl⟩
          obtain ⟨xp, hxp⟩ : ∃ x, dj[jp]! = x := ⟨_, rfl⟩
          rw [hxj] at lj
          rw [hxp] at lp
          have HCG := Lib.hid (HCB.out.at_ xj xp wr)
          have HXJ := Lib.hid hxj
          have HXP := Lib.hid hxp
          clear hxj hxp
          by_cases hlv : cf xj xp < 0
          · have dlv : decide (cf xj xp < 0) = true := by simp; omega
            go_wp2_with fail
            refine wp_region_quiet_below (by assumption) (by kernel_rfl) ?_
            repeat (first | go_big_quiet_step (exact HCG.out _ _) | quiet_step (exact HCG.out _ _))
            refine wpQuiet_nil ?_
            intro _ hw'
            obtain ⟨⟨dq, osq⟩, hw''⟩ := hw'
            subst hw''
            have hB5 := HI.out.2.below (below_regrown wr dq osq)
            clear lj lp
            generalize grow (redrawn wr dq) osq = W5 at hB5 ⊢
            have hB6 := hB5.drew
            have lj := hB6.load HK.out P (i := jp + 1) (by omega)
            have lp := hB6.load HK.out P (i := jp) (by omega)
            have s1 := hB6.st1 HK.out H1.out P (i := jp + 1) (by omega) dj[jp]!
            have s2 := hB6.st2 HK.out H1.out P (i := jp + 1) (j := jp) (by omega) (by omega) dj[jp]! dj[jp + 1]!
            have HN : Hid _ := hB6.swap HK.out (i := jp + 1) (j := jp) (by omega) (by omega)
            have q1 : (enc dj[jp + 1]!).length = k := HK.out _
            have q2 : (enc dj[jp]!).length = k := HK.out _
            clear hB6 hB5
            generalize enc dj[jp + 1]! = cj at lj lp s1 s2 HN q1 q2
            generalize enc dj[jp]! = cp at lj lp s1 s2 HN q1 q2
            go_wp2_with fail
            go_big_region_o
            all_goals go_wp2
            go_roundw
            case rel =>
              refine ⟨jp, swp dj (jp + 1) jp, by first | rfl | go_num | (congr 1; omega), by omega, by omega, by rw [size_swp]; exact hsj, ?_, HN.out⟩
              have := insInner_go (ltOf cf) a (jp + 1) dj hja (by simp only [Nat.add_sub_cancel]; rw [HXJ.out, HXP.out]; exact dlv)
              simp only [Nat.add_sub_cancel] at this
              rw [← HI.out.1, this]
            case measure => simp [intOf]
          · have dlv : decide (cf xj xp < 0) = false := by simp; omega
            go_wp2_with fail
            refine wp_region_quiet_below (by assumption) (by kernel_rfl) ?_
            repeat (first | go_big_quiet_step (exact HCG.out _ _) | quiet_step (exact HCG.out _ _))
            refine wpQuiet_nil ?_
            intro _ hw'
            obtain ⟨⟨dq, osq⟩, hw''⟩ := hw'
            subst hw''
            have HB5 := Lib.hid (HI.out.2.below (below_regrown wr dq osq))
            generalize grow (redrawn wr dq) osq = W5 at HB5 ⊢
            go_wp2
            go_roundw
            case rel => exact ⟨i + 1, dj, by go_num, by omega, by omega, hsj, OUT.out (Or.inr (by simp only [Nat.add_sub_cancel]; rw [HXJ.out, HXP.out]; exact dlv)), HB5.out⟩
            case measure => simp [intOf]; omega
        · have hjaz : decide ((a : Int) < (j : Int)) = false := decide_eq_false (by omega)
          have hjaz' : ¬ (a : Int) < (j : Int) := by omega
          have HB5 := Lib.hid HI.out.2.drew
          go_wp2_with fail
          go_big_region_o
          all_goals go_wp2
          go_roundw
          case rel => exact ⟨i + 1, dj, by go_num, by omega, by omega, hsj, OUT.out (Or.inl (by omega)), HB5.out⟩
          case measure => simp [intOf]; omega
    · have hltz : ¬ (i : Int) < (b : Int) := by omega
      go_wp2
      go_end0
      exact ⟨rfl, by unfold Sort.insertionSort; rw [← HO.out.1, insOuter_stop _ _ _ _ _ hlt]; exact HO.out.2⟩
end Go.Proofs.YtmhmnchdhacdbaaGreatDoor
/- The stable sort at revisions: the walks at records, turned by program. -/
namespace Go.Proofs.YtmhmnchdhacdbaaGreatDoor
open Go.RowKit Go.Lib
open Go.Sort hiding Below
set_option linter.unusedVariables false
set_option linter.unusedSimpArgs false
variable {P : Program} {α : Type} [Inhabited α]

set_option maxHeartbeats 4000000 in
set_option maxRecDepth 100000 in
theorem symMerge_left_rev {k : Nat} (L : SFacts P 25 36 68 k) (F : P.funcs[92]? = some Tryz.f92)
    (enc : α → List Value) (hk : ∀ x, (enc x).length = k) (h1 : ∀ x, ∀ v ∈ enc x, v.oneCell' = true) (cf : α → α → Int) (hO : SWO (ltOf cf)) (g : Nat) (hC : CmpB P g enc cf) (w0 W : World) (blk off C cap a b : Nat) (d : Array α) (h : SB enc k 36 w0 blk off C d W)
    (hab : a + 1 < b) (hb : b ≤ d.size) (hsz : d.size < 1000000000) (hs : SortedIn (ltOf cf) (a + 1) b d) :
    Calls P 92 #[.slice (some ⟨blk, off, none⟩) d.size cap, .int .i64 a, .int .i64 (a + 1 : Nat), .int .i64 b, .func (.func g) #[] #[]] W fun e w' => e = .returned (.tuple #[]) ∧ ∃ d', PermIn a b d d' ∧ SortedIn (ltOf cf) a b d' ∧ SB enc k 36 w0 blk off C d' w' := by
  have mixed := L.mixed; have t0 := L.t0; have a0 := L.a0; have z0 := L.z0; have ti := L.ti; have ai := L.ai; have zi := L.zi; have vi := L.vi; have tb := L.tb; have ab := L.ab; have zb := L.zb; have tu := L.tu; have au := L.au; have zu := L.zu; have tS := L.tS; have aS := L.aS; have zS := L.zS; have aE := L.aE; have zE := L.zE; have tF := L.tF; have aF := L.aF; have zF := L.zF
  have HCB := Lib.hid hC
  have eg := hC.1
  have HS := Lib.hid h
  have HK := Lib.hid hk
  have H1 := Lib.hid h1
  have HSO := Lib.hid hs
  have HO := Lib.hid hO
  clear h hk h1 hC hs hO
  have wm : IntKind.i64.wrap (((a + 1 : Nat) : Int) - (a : Int)) = 1 := by rw [IntKind.wrap_i64]; omega
  go_enter F, Tryz.ntmps92
  go_wp2
  clear wm
  go_loopw [10, 11] (fun s t wr => ∃ (i j : Nat), s = .int .i64 i ∧ t = .int .i64 j ∧ a + 1 ≤ i ∧ i ≤ j ∧ j ≤ b ∧ Hid ((∀ x, a + 1 ≤ x → x < i → ltOf cf d[x]! d[a]! = true) ∧ (∀ x, j ≤ x → x < b → ltOf cf d[x]! d[a]! = false) ∧ SB enc k 36 w0 blk off C d wr)) (fun s t _ => (intOf t).toNat - (intOf s).toNat)
  case atStart => exact ⟨a + 1, b, by go_num, rfl, by omega, by omega, by omega, fun x h1 h2 => by omega, fun x h1 h2 => by omega, HS.out⟩
  case round =>
    obtain ⟨i, j, rfl, rfl, hi, hij, hj, HI⟩ := hrel
    by_cases hlt : i < j
    · have hltz : (i : Int) < (j : Int) := by omega
      obtain ⟨c, hc⟩ : ∃ c : Nat, c = (i + j) / 2 := ⟨_, rfl⟩
      have hc1 : i ≤ c := by omega
      have hc2 : c < j := by omega
      have hcz : ((i : Int) + (j : Int)) / 2 = (c : Int) := by omega
      have zc : (c : Int) < (d.size : Int) := by omega
      have za : (a : Int) < (d.size : Int) := by omega
      have lc := HI.out.2.2.lds HK.out P (i := c) (by omega)
      have la := HI.out.2.2.lds HK.out P (i := a) (by omega)
      obtain ⟨xc, hxc⟩ : ∃ x, d[c]! = x := ⟨_, rfl⟩
      obtain ⟨xa, hxa⟩ : ∃ x, d[a]! = x := ⟨_, rfl⟩
      rw [hxc] at lc
      rw [hxa] at la
      have HCG := Lib.hid (HCB.out.at_ xc xa wr)
      have HXC := Lib.hid hxc
      have HXA := Lib.hid hxa
      clear hxc hxa hc
      by_cases hlv : cf xc xa < 0
      · have dlv : decide (cf xc xa < 0) = true := by simp; omega
        have HN : Hid (∀ x, a + 1 ≤ x → x < c + 1 → ltOf cf d[x]! d[a]! = true) := Lib.hid fun x hx hx2 => by
          have hcc : ltOf cf d[c]! d[a]! = true := by rw [HXC.out, HXA.out]; exact dlv
          by_cases e : x = c
          · rw [e]; exact hcc
          · cases hh : ltOf cf d[x]! d[a]! with
            | true => rfl
            | false =>
              have := SWO.le HO.out hh (HSO.out x c hx (by omega) (by omega))
              rw [hcc] at this; cases this
        clear hlv
        go_wp2_with fail
        clear hcz
        refine wp_region_quiet_below (by assumption) (by kernel_rfl) ?_
        repeat (first | go_big_quiet_step (exact HCG.out _ _) | quiet_step (exact HCG.out _ _))
        refine wpQuiet_nil ?_
        intro _ hw'
        obtain ⟨⟨dq, osq⟩, hw''⟩ := hw'
        subst hw''
        have HB5 := Lib.hid (HI.out.2.2.below (below_regrown wr dq osq))
        generalize grow (redrawn wr dq) osq = W5 at HB5 ⊢
        go_wp2
        go_roundw
        case rel => exact ⟨c + 1, j, by go_num, rfl, by omega, by omega, hj, HN.out, HI.out.2.1, HB5.out⟩
        case measure => simp [intOf]; omega
      · have dlv : decide (cf xc xa < 0) = false := by simp; omega
        have HN : Hid (∀ x, c ≤ x → x < b → ltOf cf d[x]! d[a]! = false) := Lib.hid fun x hx hx2 => by
          have hcc : ltOf cf d[c]! d[a]! = false := by rw [HXC.out, HXA.out]; exact dlv
          by_cases e : x = c
          · rw [e]; exact hcc
          · exact SWO.le HO.out hcc (HSO.out c x (by omega) (by omega) (by omega))
        clear hlv
        go_wp2_with fail
        clear hcz
        refine wp_region_quiet_below (by assumption) (by kernel_rfl) ?_
        repeat (first | go_big_quiet_step (exact HCG.out _ _) | quiet_step (exact HCG.out _ _))
        refine wpQuiet_nil ?_
        intro _ hw'
        obtain ⟨⟨dq, osq⟩, hw''⟩ := hw'
        subst hw''
        have HB5 := Lib.hid (HI.out.2.2.below (below_regrown wr dq osq))
        generalize grow (redrawn wr dq) osq = W5 at HB5 ⊢
        go_wp2
        go_roundw
        case rel => exact ⟨i, c, rfl, rfl, hi, by omega, by omega, HI.out.1, HN.out, HB5.out⟩
        case measure => simp [intOf]; omega
    · have hji : j = i := by omega
      subst hji
      have hltz : ¬ (j : Int) < (j : Int) := by omega
      have HM := Lib.hid (fun (d' : Array α) (hr : ∀ x, d'[x]! = rotAt d a (a + 1) j x) => merge_one_left HO.out hb (by omega) hj HSO.out HI.out.1 HI.out.2.1 hr)
      go_wp2_with fail
      go_loopw [13] (fun s wr => ∃ (q : Nat) (dk : Array α), s = .int .i64 q ∧ a ≤ q ∧ q ≤ j - 1 ∧ dk.size = d.size ∧ Hid (PermIn a b d dk ∧ (∀ x, dk[x]! = rotAt d a (a + 1) (q + 1) x) ∧ SB enc k 36 w0 blk off C dk wr)) (fun s _ => j - (intOf s).toNat)
      case atStart => exact ⟨a, d, rfl, Nat.le_refl _, by omega, rfl, permIn_refl _ _ _, rot_up0 d a, HI.out.2.2⟩
      case round =>
        obtain ⟨q, dk, rfl, hq1, hq2, hsk, HQ⟩ := hrel
        by_cases hql : q < j - 1
        · have hqz : (q : Int) < (j : Int) - 1 := by omega
          have zq : (q : Int) < (d.size : Int) := by omega
          have zq1 : (q : Int) + 1 < (d.size : Int) := by omega
          have p0 : (0 : Int) ≤ (q : Int) + 1 := by omega
          have e0 : ((q : Int) + 1).toNat = q + 1 := by omega
          have HR := Lib.hid (rot_up (by omega) hq1 HQ.out.2.1)
          have HP := Lib.hid (permIn_trans _ _ _ _ _ HQ.out.1 (swp_permIn dk a b q (q + 1) (by omega) (by omega) (by omega) (by omega) (by omega)))
          have hB6 := HQ.out.2.2.drew
          have l1 := hB6.load HK.out P (i := q) (by omega)
          have l2 := hB6.load HK.out P (i := q + 1) (by omega)
          have s1 := hB6.st1 HK.out H1.out P (i := q) (by omega) dk[q + 1]!
          have s2 := hB6.st2 HK.out H1.out P (i := q) (j := q + 1) (by omega) (by omega) dk[q + 1]! dk[q]!
          have HN : Hid _ := hB6.swap HK.out (i := q) (j := q + 1) (by omega) (by omega)
          have q1 : (enc dk[q + 1]!).length = k := HK.out _
          have q2 : (enc dk[q]!).length = k := HK.out _
          clear hB6
          generalize enc dk[q + 1]! = cj at l1 l2 s1 s2 HN q1 q2
          generalize enc dk[q]! = cp at l1 l2 s1 s2 HN q1 q2
          go_wp2_with fail
          go_big_region_o
          all_goals go_wp2
          go_roundw
          case rel => exact ⟨q + 1, _, by go_num, by omega, by omega, by rw [size_swp]; exact hsk, HP.out, HR.out, HN.out⟩
          case measure => simp [intOf]; omega
        · have hqj : q + 1 = j := by omega
          have hqz : ¬ (q : Int) < (j : Int) - 1 := by omega
          have HM2 := Lib.hid (HM.out dk (fun x => by rw [HQ.out.2.1 x, hqj]))
          clear hqj
          go_wp2
          refine bodyPost_ret (results_none rfl _ _ _) rfl ?_
          exact ⟨rfl, dk, HQ.out.1, HM2.out, HQ.out.2.2⟩

set_option maxHeartbeats 4000000 in
set_option maxRecDepth 100000 in
theorem symMerge_right_rev {k : Nat} (L : SFacts P 25 36 68 k) (F : P.funcs[92]? = some Tryz.f92)
    (enc : α → List Value) (hk : ∀ x, (enc x).length = k) (h1 : ∀ x, ∀ v ∈ enc x, v.oneCell' = true) (cf : α → α → Int) (hO : SWO (ltOf cf)) (g : Nat) (hC : CmpB P g enc cf) (w0 W : World) (blk off C cap a m : Nat) (d : Array α) (h : SB enc k 36 w0 blk off C d W)
    (hab : a + 1 < m) (hb : m + 1 ≤ d.size) (hsz : d.size < 1000000000) (hs : SortedIn (ltOf cf) a m d) :
    Calls P 92 #[.slice (some ⟨blk, off, none⟩) d.size cap, .int .i64 a, .int .i64 m, .int .i64 (m + 1 : Nat), .func (.func g) #[] #[]] W fun e w' => e = .returned (.tuple #[]) ∧ ∃ d', PermIn a (m + 1) d d' ∧ SortedIn (ltOf cf) a (m + 1) d' ∧ SB enc k 36 w0 blk off C d' w' := by
  have mixed := L.mixed; have t0 := L.t0; have a0 := L.a0; have z0 := L.z0; have ti := L.ti; have ai := L.ai; have zi := L.zi; have vi := L.vi; have tb := L.tb; have ab := L.ab; have zb := L.zb; have tu := L.tu; have au := L.au; have zu := L.zu; have tS := L.tS; have aS := L.aS; have zS := L.zS; have aE := L.aE; have zE := L.zE; have tF := L.tF; have aF := L.aF; have zF := L.zF
  have HCB := Lib.hid hC
  have eg := hC.1
  have HS := Lib.hid h
  have HK := Lib.hid hk
  have H1 := Lib.hid h1
  have HSO := Lib.hid hs
  have HO := Lib.hid hO
  clear h hk h1 hC hs hO
  have wm : ((m : Int) - (a : Int) == 1) = false := by rw [beq_eq_false_iff_ne]; omega
  go_enter F, Tryz.ntmps92
  go_wp2
  clear wm
  go_loopw [14, 15] (fun s t wr => ∃ (i j : Nat), s = .int .i64 i ∧ t = .int .i64 j ∧ a ≤ i ∧ i ≤ j ∧ j ≤ m ∧ Hid ((∀ x, a ≤ x → x < i → ltOf cf d[m]! d[x]! = false) ∧ (∀ x, j ≤ x → x < m → ltOf cf d[m]! d[x]! = true) ∧ SB enc k 36 w0 blk off C d wr)) (fun s t _ => (intOf t).toNat - (intOf s).toNat)
  case atStart => exact ⟨a, m, rfl, rfl, by omega, by omega, by omega, fun x h1 h2 => by omega, fun x h1 h2 => by omega, HS.out⟩
  case round =>
    obtain ⟨i, j, rfl, rfl, hi, hij, hj, HI⟩ := hrel
    by_cases hlt : i < j
    · have hltz : (i : Int) < (j : Int) := by omega
      obtain ⟨c, hc⟩ : ∃ c : Nat, c = (i + j) / 2 := ⟨_, rfl⟩
      have hc1 : i ≤ c := by omega
      have hc2 : c < j := by omega
      have hcz : ((i : Int) + (j : Int)) / 2 = (c : Int) := by omega
      have zc : (c : Int) < (d.size : Int) := by omega
      have za : (m : Int) < (d.size : Int) := by omega
      have lc := HI.out.2.2.lds HK.out P (i := c) (by omega)
      have la := HI.out.2.2.lds HK.out P (i := m) (by omega)
      obtain ⟨xc, hxc⟩ : ∃ x, d[c]! = x := ⟨_, rfl⟩
      obtain ⟨xa, hxa⟩ : ∃ x, d[m]! = x := ⟨_, rfl⟩
      rw [hxc] at lc
      rw [hxa] at la
      have HCG := Lib.hid (HCB.out.at_ xa xc wr)
      have HXC := Lib.hid hxc
      have HXA := Lib.hid hxa
      clear hxc hxa hc
      by_cases hlv : cf xa xc < 0
      · have dlv : decide (cf xa xc < 0) = true := by simp; omega
        have HN : Hid (∀ x, c ≤ x → x < m → ltOf cf d[m]! d[x]! = true) := Lib.hid fun x hx hx2 => by
          have hcc : ltOf cf d[m]! d[c]! = true := by rw [HXC.out, HXA.out]; exact dlv
          by_cases e : x = c
          · rw [e]; exact hcc
          · cases hh : ltOf cf d[m]! d[x]! with
            | true => rfl
            | false =>
              have := SWO.le HO.out (HSO.out c x (by omega) (by omega) (by omega)) hh
              rw [hcc] at this; cases this
        clear hlv
        go_wp2_with fail
        clear hcz
        refine wp_region_quiet_below (by assumption) (by kernel_rfl) ?_
        repeat (first | go_big_quiet_step (exact HCG.out _ _) | quiet_step (exact HCG.out _ _))
        refine wpQuiet_nil ?_
        intro _ hw'
        obtain ⟨⟨dq, osq⟩, hw''⟩ := hw'
        subst hw''
        have HB5 := Lib.hid (HI.out.2.2.below (below_regrown wr dq osq))
        generalize grow (redrawn wr dq) osq = W5 at HB5 ⊢
        go_wp2
        go_roundw
        case rel => exact ⟨i, c, rfl, rfl, hi, by omega, by omega, HI.out.1, HN.out, HB5.out⟩
        case measure => simp [intOf]; omega
      · have dlv : decide (cf xa xc < 0) = false := by simp; omega
        have HN : Hid (∀ x, a ≤ x → x < c + 1 → ltOf cf d[m]! d[x]! = false) := Lib.hid fun x hx hx2 => by
          have hcc : ltOf cf d[m]! d[c]! = false := by rw [HXC.out, HXA.out]; exact dlv
          by_cases e : x = c
          · rw [e]; exact hcc
          · exact SWO.le HO.out (HSO.out x c (by omega) (by omega) (by omega)) hcc
        clear hlv
        go_wp2_with fail
        clear hcz
        refine wp_region_quiet_below (by assumption) (by kernel_rfl) ?_
        repeat (first | go_big_quiet_step (exact HCG.out _ _) | quiet_step (exact HCG.out _ _))
        refine wpQuiet_nil ?_
        intro _ hw'
        obtain ⟨⟨dq, osq⟩, hw''⟩ := hw'
        subst hw''
        have HB5 := Lib.hid (HI.out.2.2.below (below_regrown wr dq osq))
        generalize grow (redrawn wr dq) osq = W5 at HB5 ⊢
        go_wp2
        go_roundw
        case rel => exact ⟨c + 1, j, by go_num, rfl, by omega, by omega, hj, HN.out, HI.out.2.1, HB5.out⟩
        case measure => simp [intOf]; omega
    · have hji : j = i := by omega
      subst hji
      have hltz : ¬ (j : Int) < (j : Int) := by omega
      have HM := Lib.hid (fun (d' : Array α) (hr : ∀ x, d'[x]! = rotAt d j m (m + 1) x) => merge_one_right HO.out hb hi hj HSO.out HI.out.1 HI.out.2.1 hr)
      go_wp2_with fail
      go_loopw [17] (fun s wr => ∃ (q : Nat) (dk : Array α), s = .int .i64 q ∧ j ≤ q ∧ q ≤ m ∧ dk.size = d.size ∧ Hid (PermIn a (m + 1) d dk ∧ (∀ x, dk[x]! = rotAt d q m (m + 1) x) ∧ SB enc k 36 w0 blk off C dk wr)) (fun s _ => (intOf s).toNat)
      case atStart => exact ⟨m, d, rfl, by omega, by omega, rfl, permIn_refl _ _ _, rot_down0 d m, HI.out.2.2⟩
      case round =>
        obtain ⟨q, dk, rfl, hq1, hq2, hsk, HQ⟩ := hrel
        by_cases hql : j < q
        · obtain ⟨qp, rfl⟩ : ∃ qp, q = qp + 1 := ⟨q - 1, by omega⟩
          have hqz : (j : Int) < (qp : Int) + 1 := by omega
          have hwp : IntKind.i64.wrap (qp : Int) = (qp : Int) := by rw [IntKind.wrap_i64]; omega
          have zq : (qp : Int) < (d.size : Int) := by omega
          have zq1 : (qp : Int) + 1 < (d.size : Int) := by omega
          have p0 : (0 : Int) ≤ (qp : Int) + 1 := by omega
          have e0 : ((qp : Int) + 1).toNat = qp + 1 := by omega
          have HR := Lib.hid (rot_down (by omega) (by omega) HQ.out.2.1)
          have HP := Lib.hid (permIn_trans _ _ _ _ _ HQ.out.1 (swp_permIn dk a (m + 1) (qp + 1) qp (by omega) (by omega) (by omega) (by omega) (by omega)))
          have hB6 := HQ.out.2.2.drew
          have l1 := hB6.load HK.out P (i := qp) (by omega)
          have l2 := hB6.load HK.out P (i := qp + 1) (by omega)
          have s1 := hB6.st1 HK.out H1.out P (i := qp + 1) (by omega) dk[qp]!
          have s2 := hB6.st2 HK.out H1.out P (i := qp + 1) (j := qp) (by omega) (by omega) dk[qp]! dk[qp + 1]!
          have HN : Hid _ := hB6.swap HK.out (i := qp + 1) (j := qp) (by omega) (by omega)
          have q1 : (enc dk[qp + 1]!).length = k := HK.out _
          have q2 : (enc dk[qp]!).length = k := HK.out _
          clear hB6
          generalize enc dk[qp + 1]! = cj at l1 l2 s1 s2 HN q1 q2
          generalize enc dk[qp]! = cp at l1 l2 s1 s2 HN q1 q2
          go_wp2_with fail
          go_big_region_o
          all_goals go_wp2
          go_roundw
          case rel => exact ⟨qp, _, by first | rfl | go_num | (congr 1; omega), by omega, by omega, by rw [size_swp]; exact hsk, HP.out, HR.out, HN.out⟩
          case measure => simp [intOf]
        · have hqj : q = j := by omega
          subst hqj
          have HM2 := Lib.hid (HM.out dk HQ.out.2.1)
          go_wp2
          refine bodyPost_ret (results_none rfl _ _ _) rfl ?_
          exact ⟨rfl, dk, HQ.out.1, HM2.out, HQ.out.2.2⟩
end Go.Proofs.YtmhmnchdhacdbaaGreatDoor
/- The stable sort at revisions: the walks at records, turned by program. -/
namespace Go.Proofs.YtmhmnchdhacdbaaGreatDoor
open Go.RowKit Go.Lib
open Go.Sort hiding Below
set_option linter.unusedVariables false
set_option linter.unusedSimpArgs false
variable {P : Program} {α : Type} [Inhabited α]

set_option maxHeartbeats 8000000 in
set_option maxRecDepth 100000 in
theorem symMerge_rev {k : Nat} (L : SFacts P 25 36 68 k) (F0 : P.funcs[141]? = some Tryz.f141)
    (F2 : P.funcs[124]? = some Tryz.f124) (F : P.funcs[92]? = some Tryz.f92)
    (enc : α → List Value) (hk : ∀ x, (enc x).length = k) (h1 : ∀ x, ∀ v ∈ enc x, v.oneCell' = true) (cf : α → α → Int) (hO : SWO (ltOf cf)) (g : Nat) (hC : CmpB P g enc cf) (w0 : World) (blk off C cap sz : Nat) (hsz : sz < 1000000000) :
    ∀ (N a m b : Nat) (d : Array α) (W : World), b - a ≤ N → SB enc k 36 w0 blk off C d W → a < m → m < b → d.size = sz → b ≤ sz → SortedIn (ltOf cf) a m d → SortedIn (ltOf cf) m b d →
    Calls P 92 #[.slice (some ⟨blk, off, none⟩) sz cap, .int .i64 a, .int .i64 m, .int .i64 b, .func (.func g) #[] #[]] W fun e w' => e = .returned (.tuple #[]) ∧ ∃ d', PermIn a b d d' ∧ SortedIn (ltOf cf) a b d' ∧ SB enc k 36 w0 blk off C d' w' := by
  intro N
  induction N with
  | zero => intro a m b d W h; omega
  | succ N ih =>
  intro a m b d W hN h ham hmb hds hb hsL hsR
  by_cases hm1 : m = a + 1
  · subst hm1
    have := symMerge_left_rev L F enc hk h1 cf hO g hC w0 W blk off C cap a b d h hmb (by omega) (by omega) hsR
    rw [hds] at this
    exact this
  by_cases hb1 : b = m + 1
  · subst hb1
    have := symMerge_right_rev L F enc hk h1 cf hO g hC w0 W blk off C cap a m d h (by omega) (by omega) (by omega) hsL
    rw [hds] at this
    exact this
  have mixed := L.mixed; have t0 := L.t0; have a0 := L.a0; have z0 := L.z0; have ti := L.ti; have ai := L.ai; have zi := L.zi; have vi := L.vi; have tb := L.tb; have ab := L.ab; have zb := L.zb; have tu := L.tu; have au := L.au; have zu := L.zu; have tS := L.tS; have aS := L.aS; have zS := L.zS; have aE := L.aE; have zE := L.zE; have tF := L.tF; have aF := L.aF; have zF := L.zF
  have HIH := Lib.hid ih
  have HCB := Lib.hid hC
  have HRT := Lib.hid (fun (d' : Array α) (W' : World) (a m b : Nat) (h : SB enc k 36 w0 blk off C d' W') (hd : d'.size = sz) (h2 : a < m) (h3 : m < b) (h4 : b ≤ d'.size) => rotate_rev L F0 F2 enc hk h1 w0 W' blk off C cap a m b d' (.func (.func g) #[] #[]) h h2 h3 h4 (by omega))
  have eg := hC.1
  have e60 : ∀ args w, (callFunc 124 args).run P w = .ok (.enter 124 args) w := enters_of F2 (by kernel_rfl) rfl
  have e50 : ∀ args w, (callFunc 92 args).run P w = .ok (.enter 92 args) w := enters_of F (by kernel_rfl) rfl
  have HS := Lib.hid h
  have HK := Lib.hid hk
  have HL := Lib.hid hsL
  have HR := Lib.hid hsR
  have HO := Lib.hid hO
  have HDS := Lib.hid hds
  clear h hk h1 hC hsL hsR hO ih hds
  have wm : ((m : Int) - (a : Int) == 1) = false := by rw [beq_eq_false_iff_ne]; omega
  have wb : ((b : Int) - (m : Int) == 1) = false := by rw [beq_eq_false_iff_ne]; omega
  obtain ⟨mid, hmid⟩ : ∃ c : Nat, c = (a + b) / 2 := ⟨_, rfl⟩
  have hmz : ((a : Int) + (b : Int)) / 2 = (mid : Int) := by omega
  have hmid1 : a < mid := by omega
  have hmid2 : mid < b := by omega
  -- where the search begins
  obtain ⟨s0, r0, h0, hgt⟩ : ∃ s0 r0 : Nat, ((mid < m ∧ s0 = mid + m - b ∧ r0 = mid) ∨ (m ≤ mid ∧ s0 = a ∧ r0 = m)) ∧ s0 ≤ r0 := by
    by_cases c : mid < m
    · exact ⟨_, _, .inl ⟨c, rfl, rfl⟩, by omega⟩
    · exact ⟨_, _, .inr ⟨by omega, rfl, rfl⟩, by omega⟩
  have hb2 : b ≤ a + b := by omega
  have hlo : a ≤ s0 := by omega
  have hr0 : r0 ≤ m := by omega
  have hn1 : m + r0 ≤ mid + m := by omega
  have hn2 : mid + m ≤ b + s0 := by omega
  have H0 := Lib.hid h0
  have HMID := Lib.hid hmid
  have HBN : Hid (mid < m → b ≤ mid + m) := Lib.hid (by omega)
  clear hmid h0
  go_enter F, Tryz.ntmps92
  go_upto_if 140 with fail
  clear wm wb hmz
  go_cut [20, 21] (fun s t wx => s = .int .i64 s0 ∧ t = .int .i64 r0 ∧ Hid (SB enc k 36 w0 blk off C d wx))
  case first => as_aux_lemma =>
    rcases H0.out with ⟨c1, c2, c3⟩ | ⟨c1, c2, c3⟩
    · have q1 : decide ((mid : Int) < (m : Int)) = true := by simp; omega
      have HC2 := Lib.hid c2
      clear c2
      subst c3
      go_wp2_with fail
      go_meet
      exact ⟨by have := HC2.out; have := HBN.out c1; congr 1; omega, rfl, HS.out⟩
    · have q1 : decide ((mid : Int) < (m : Int)) = false := by simp; omega
      subst c2 c3
      go_wp2_with fail
      go_meet
      exact ⟨rfl, rfl, HS.out⟩
  case rest => as_aux_lemma =>
    obtain ⟨rfl, rfl, HSc⟩ := hcut
    go_wp2_with fail
    go_loopw [20, 21] (fun s t wr => ∃ (i j : Nat), s = .int .i64 i ∧ t = .int .i64 j ∧ s0 ≤ i ∧ i ≤ j ∧ j ≤ r0 ∧ Hid (Search (ltOf cf) d (mid + m) s0 r0 i j ∧ SB enc k 36 w0 blk off C d wr)) (fun s t _ => (intOf t).toNat - (intOf s).toNat)
    case atStart => exact ⟨s0, r0, rfl, rfl, by omega, by omega, by omega, ⟨by omega, by omega, by omega, fun x h1 h2 => by omega, fun x h1 h2 => by omega⟩, HSc.out⟩
    case round =>
      obtain ⟨i, j, rfl, rfl, hi, hij, hj, HI⟩ := hrel
      by_cases hlt : i < j
      · have hltz : (i : Int) < (j : Int) := by omega
        obtain ⟨c, hc⟩ : ∃ c : Nat, c = (i + j) / 2 := ⟨_, rfl⟩
        have hc1 : i ≤ c := by omega
        have hc2 : c < j := by omega
        have hcz : ((i : Int) + (j : Int)) / 2 = (c : Int) := by omega
        obtain ⟨p, hp⟩ : ∃ p : Nat, p = mid + m - 1 - c := ⟨_, rfl⟩
        have hpz : (mid : Int) + (m : Int) - 1 - (c : Int) = (p : Int) := by omega
        have zc : (c : Int) < (sz : Int) := by omega
        have zp : (p : Int) < (sz : Int) := by omega
        have lc := HI.out.2.lds HK.out P (i := c) (by rw [HDS.out]; omega)
        have la := HI.out.2.lds HK.out P (i := p) (by rw [HDS.out]; omega)
        obtain ⟨xc, hxc⟩ : ∃ x, d[c]! = x := ⟨_, rfl⟩
        obtain ⟨xp, hxp⟩ : ∃ x, d[p]! = x := ⟨_, rfl⟩
        rw [hxc] at lc
        rw [hxp] at la
        have HCG := Lib.hid (HCB.out.at_ xp xc wr)
        have HXC := Lib.hid hxc
        have HXP := Lib.hid (show d[mid + m - 1 - c]! = xp by rw [← hp]; exact hxp)
        clear hxc hxp hc hp
        by_cases hlv : cf xp xc < 0
        · have dlv : decide (cf xp xc < 0) = true := by simp; omega
          have HN := Lib.hid (Search.back HO.out HI.out.1 hc1 hc2 hlo hr0 hn1 hn2 HL.out HR.out (by rw [HXC.out, HXP.out]; exact dlv))
          clear hlv
          go_wp2_with fail
          clear hcz
          refine wp_region_quiet_below (by assumption) (by kernel_rfl) ?_
          repeat (first | go_big_quiet_step (exact HCG.out _ _) | quiet_step (exact HCG.out _ _))
          refine wpQuiet_nil ?_
          intro _ hw'
          obtain ⟨⟨dq, osq⟩, hw''⟩ := hw'
          subst hw''
          have HB5 := Lib.hid (HI.out.2.below (below_regrown wr dq osq))
          generalize grow (redrawn wr dq) osq = W5 at HB5 ⊢
          go_wp2
          go_roundw
          case rel => exact ⟨i, c, rfl, rfl, hi, by omega, by omega, HN.out, HB5.out⟩
          case measure => simp [intOf]; omega
        · have dlv : decide (cf xp xc < 0) = false := by simp; omega
          have HN := Lib.hid (Search.go HO.out HI.out.1 hc1 hc2 hlo hr0 hn1 hn2 HL.out HR.out (by rw [HXC.out, HXP.out]; exact dlv))
          clear hlv
          go_wp2_with fail
          clear hcz
          refine wp_region_quiet_below (by assumption) (by kernel_rfl) ?_
          repeat (first | go_big_quiet_step (exact HCG.out _ _) | quiet_step (exact HCG.out _ _))
          refine wpQuiet_nil ?_
          intro _ hw'
          obtain ⟨⟨dq, osq⟩, hw''⟩ := hw'
          subst hw''
          have HB5 := Lib.hid (HI.out.2.below (below_regrown wr dq osq))
          generalize grow (redrawn wr dq) osq = W5 at HB5 ⊢
          go_wp2
          go_roundw
          case rel => exact ⟨c + 1, j, by go_num, rfl, by omega, by omega, hj, HN.out, HB5.out⟩
          case measure => simp [intOf]; omega
      · have hji : j = i := by omega
        subst hji
        have HCUT := Lib.hid (Search.cut (a := a) (m := m) (b := b) HO.out ham hmb (by rw [← HMID.out]; exact H0.out) (by rw [← HMID.out]; exact HI.out.1))
        rw [← HMID.out] at HCUT
        obtain ⟨en, hen⟩ : ∃ p : Nat, p = mid + m - j := ⟨_, rfl⟩
        have hez : (mid : Int) + (m : Int) - (j : Int) = (en : Int) := by omega
        have hjm : j ≤ m := by omega
        have hme : m ≤ en := by omega
        have hjd : j ≤ mid := by omega
        have hde : mid ≤ en := by omega
        have hen2 : en ≤ b := by omega
        have HHV := Lib.hid (fun (d' : Array α) (hr : ∀ x, d'[x]! = rotAt d j m en x) => HCUT.out.halves HO.out ham hmb (by omega) (by omega) HL.out HR.out (by rw [← hen]; exact hr))
        rw [← hen] at HHV
        clear hen
        obtain ⟨b1, hb1⟩ : ∃ b : Bool, b = decide (j < m ∧ m < en) := ⟨_, rfl⟩
        have HHb1 := Lib.hid hb1
        clear hb1
        go_upto_region 39 with fail
        clear hez
        go_cut [185] (fun s wx => s = .bool b1 ∧ Hid (SB enc k 36 w0 blk off C d wx))
        case first => as_aux_lemma =>
          by_cases c2 : j < m
          · by_cases c3 : m < en
            · have q1 : decide (j < m) = true := by simp; omega
              have q2 : decide (m < en) = true := by simp; omega
              have HQ : Hid (true = b1) := Lib.hid (by rw [HHb1.out]; simp [c2, c3])
              clear c2 c3
              go_wp2_with fail
              go_meet
              exact ⟨by rw [← HQ.out], HI.out.2⟩
            · have q1 : decide (j < m) = true := by simp; omega
              have q2 : decide (m < en) = false := by simp; omega
              have HQ : Hid (false = b1) := Lib.hid (by rw [HHb1.out]; simp [c2, c3])
              clear c2 c3
              go_wp2_with fail
              go_meet
              exact ⟨by rw [← HQ.out], HI.out.2⟩
          · have q1 : decide (j < m) = false := by simp; omega
            have HQ : Hid (false = b1) := Lib.hid (by rw [HHb1.out]; simp [c2])
            clear c2
            go_wp2_with fail
            go_meet
            exact ⟨by rw [← HQ.out], HI.out.2⟩
        case rest => as_aux_lemma =>
          obtain ⟨rfl, HB0⟩ := hcut
          clear HI
          go_upto_if 185 with fail
          go_cut [] (fun wx => Hid (∃ d', PermIn a b d d' ∧ (∀ x, d'[x]! = rotAt d j m en x) ∧ SB enc k 36 w0 blk off C d' wx))
          case first => as_aux_lemma =>
            cases b1 with
            | true =>
              have c1 : j < m ∧ m < en := of_decide_eq_true HHb1.out.symm
              have HW := Lib.hid (HRT.out d wc j m en HB0.out HDS.out c1.1 c1.2 (by rw [HDS.out]; omega))
              rw [HDS.out] at HW
              clear c1
              go_wp2_with fail
              refine HW.out.mono ?_
              rintro e w' ⟨rfl, d', k1, k2, k3⟩
              have HB : Hid (PermIn j en d d' ∧ (∀ x, d'[x]! = rotAt d j m en x) ∧ SB enc k 36 w0 blk off C d' w') := Lib.hid ⟨k1, k2, k3⟩
              clear k1 k2 k3
              go_wp2_with fail
              go_meet
              exact ⟨d', permIn_mono _ _ _ _ _ _ (by omega) (by omega) (by rw [HDS.out]; omega) HB.out.1, HB.out.2.1, HB.out.2.2⟩
            | false =>
              have c1 : ¬ (j < m ∧ m < en) := of_decide_eq_false HHb1.out.symm
              have HB : Hid (∀ x, d[x]! = rotAt d j m en x) := Lib.hid (rot_none (by omega))
              clear c1
              go_wp2_with fail
              go_meet
              exact ⟨d, permIn_refl _ _ _, HB.out, HB0.out⟩
          case rest => as_aux_lemma =>
            obtain ⟨d1, hp1, hr1, hs1⟩ := Hid.out hcut
            have HP1 := Lib.hid hp1
            have HS1 := Lib.hid hs1
            have hds1 : d1.size = sz := hp1.1.trans HDS.out
            have HD1 := Lib.hid hds1
            have HV := Lib.hid (HHV.out d1 hr1)
            clear hcut hp1 hr1 hs1 hds1
            obtain ⟨b2, hb2⟩ : ∃ b : Bool, b = decide (a < j ∧ j < mid) := ⟨_, rfl⟩
            have HHb2 := Lib.hid hb2
            clear hb2
            go_upto_region 41 with fail
            go_cut [199] (fun s wx => s = .bool b2 ∧ Hid (SB enc k 36 w0 blk off C d1 wx))
            case first => as_aux_lemma =>
              by_cases c2 : a < j
              · by_cases c3 : j < mid
                · have q1 : decide (a < j) = true := by simp; omega
                  have q2 : decide (j < mid) = true := by simp; omega
                  have HQ : Hid (true = b2) := Lib.hid (by rw [HHb2.out]; simp [c2, c3])
                  clear c2 c3
                  go_wp2_with fail
                  go_meet
                  exact ⟨by rw [← HQ.out], HS1.out⟩
                · have q1 : decide (a < j) = true := by simp; omega
                  have q2 : decide (j < mid) = false := by simp; omega
                  have HQ : Hid (false = b2) := Lib.hid (by rw [HHb2.out]; simp [c2, c3])
                  clear c2 c3
                  go_wp2_with fail
                  go_meet
                  exact ⟨by rw [← HQ.out], HS1.out⟩
              · have q1 : decide (a < j) = false := by simp; omega
                have HQ : Hid (false = b2) := Lib.hid (by rw [HHb2.out]; simp [c2])
                clear c2
                go_wp2_with fail
                go_meet
                exact ⟨by rw [← HQ.out], HS1.out⟩
            case rest => as_aux_lemma =>
              obtain ⟨rfl, HB1⟩ := hcut
              clear HS1
              go_upto_if 199 with fail
              go_cut [] (fun wx => Hid (∃ d', PermIn a mid d1 d' ∧ SortedIn (ltOf cf) a mid d' ∧ SB enc k 36 w0 blk off C d' wx))
              case first => as_aux_lemma =>
                cases b2 with
                | true =>
                  have c1 : a < j ∧ j < mid := of_decide_eq_true HHb2.out.symm
                  have HW := Lib.hid (HIH.out a j mid d1 wc (by omega) HB1.out c1.1 c1.2 HD1.out (by omega) HV.out.1 HV.out.2.1)
                  clear c1
                  go_wp2_with fail
                  refine HW.out.mono ?_
                  rintro e w' ⟨rfl, hk2⟩
                  have HB := Lib.hid hk2
                  clear hk2
                  go_wp2_with fail
                  go_meet
                  exact HB.out
                | false =>
                  have c1 : ¬ (a < j ∧ j < mid) := of_decide_eq_false HHb2.out.symm
                  have HB : Hid (SortedIn (ltOf cf) a mid d1) := Lib.hid (by
                    by_cases e : a < j
                    · have : j = mid := by omega
                      rw [← this]; exact HV.out.1
                    · have : j = a := by omega
                      rw [← this]; exact HV.out.2.1)
                  clear c1
                  go_wp2_with fail
                  go_meet
                  exact ⟨d1, permIn_refl _ _ _, HB.out, HB1.out⟩
              case rest => as_aux_lemma =>
                obtain ⟨d2, hp2, hso2, hs2⟩ := Hid.out hcut
                have HP2 := Lib.hid hp2
                have HSO2 := Lib.hid hso2
                have HS2 := Lib.hid hs2
                have hds2 : d2.size = sz := hp2.1.trans HD1.out
                have HD2 := Lib.hid hds2
                have HJ := Lib.hid (fun (d' : Array α) (h1 : PermIn mid b d2 d') (h2 : SortedIn (ltOf cf) mid b d') => halves_join HO.out (by omega) (by omega) (by rw [HD1.out]; omega) HV.out.2.2.2.2 HP2.out HSO2.out h1 h2)
                have HVa : Hid (SortedIn (ltOf cf) mid en d2) := Lib.hid (SortedIn.same HV.out.2.2.1 fun x h1 h2 => HP2.out.2.1 x (.inr h1))
                have HVb : Hid (SortedIn (ltOf cf) en b d2) := Lib.hid (SortedIn.same HV.out.2.2.2.1 fun x h1 h2 => HP2.out.2.1 x (.inr (by omega)))
                clear hcut hp2 hso2 hs2 hds2
                by_cases c1 : mid < en ∧ en < b
                · have q1 : decide (mid < en) = true := by simp; omega
                  have q2 : decide (en < b) = true := by simp; omega
                  have HW := Lib.hid (HIH.out mid en b d2 wc (by omega) HS2.out c1.1 c1.2 HD2.out (by omega) HVa.out HVb.out)
                  go_wp2_with fail
                  refine HW.out.mono ?_
                  rintro e w' ⟨rfl, d3, k1, k2, k3⟩
                  have HB := Lib.hid (HJ.out d3 k1 k2)
                  have HB3 := Lib.hid k3
                  clear k1 k2 k3
                  go_wp2_with fail
                  go_end0
                  exact ⟨rfl, d3, permIn_trans _ _ _ _ _ HP1.out HB.out.1, HB.out.2, HB3.out⟩
                · have HB := Lib.hid (HJ.out d2 (permIn_refl _ _ _) (by
                    by_cases e : mid < en
                    · have : en = b := by omega
                      rw [← this]; exact HVa.out
                    · have : en = mid := by omega
                      rw [← this]; exact HVb.out))
                  by_cases c2 : mid < en
                  · have q1 : decide (mid < en) = true := by simp; omega
                    have q2 : decide (en < b) = false := by simp; omega
                    go_wp2_with fail
                    go_end0
                    exact ⟨rfl, d2, permIn_trans _ _ _ _ _ HP1.out HB.out.1, HB.out.2, HS2.out⟩
                  · have q1 : decide (mid < en) = false := by simp; omega
                    go_wp2_with fail
                    go_end0
                    exact ⟨rfl, d2, permIn_trans _ _ _ _ _ HP1.out HB.out.1, HB.out.2, HS2.out⟩
end Go.Proofs.YtmhmnchdhacdbaaGreatDoor
/- The stable sort at revisions: the walks at records, turned by program. -/
namespace Go.Proofs.YtmhmnchdhacdbaaGreatDoor
open Go.RowKit Go.Lib
open Go.Sort hiding Below
set_option linter.unusedVariables false
set_option linter.unusedSimpArgs false
variable {P : Program} {α : Type} [Inhabited α]

set_option maxHeartbeats 4000000 in
set_option maxRecDepth 100000 in
theorem stable_rev {k : Nat} (L : SFacts P 25 36 68 k) (F0 : P.funcs[141]? = some Tryz.f141)
    (F2 : P.funcs[124]? = some Tryz.f124) (F3 : P.funcs[92]? = some Tryz.f92)
    (F4 : P.funcs[91]? = some Tryz.f91) (F : P.funcs[60]? = some Tryz.f60)
    (enc : α → List Value) (hk : ∀ x, (enc x).length = k) (h1 : ∀ x, ∀ v ∈ enc x, v.oneCell' = true) (cf : α → α → Int) (hO : SWO (ltOf cf)) (g : Nat) (hC : CmpB P g enc cf) (w0 W : World) (blk off C cap : Nat) (d : Array α) (h : SB enc k 36 w0 blk off C d W) (n : Nat) (hn : d.size = n) (hsz : n < 100000000) :
    Calls P 60 #[.slice (some ⟨blk, off, none⟩) n cap, .int .i64 n, .func (.func g) #[] #[]] W fun e w' => e = .returned (.tuple #[]) ∧ ∃ d', PermIn 0 n d d' ∧ SortedIn (ltOf cf) 0 n d' ∧ SB enc k 36 w0 blk off C d' w' := by
  have mixed := L.mixed; have t0 := L.t0; have a0 := L.a0; have z0 := L.z0; have ti := L.ti; have ai := L.ai; have zi := L.zi; have vi := L.vi; have tb := L.tb; have ab := L.ab; have zb := L.zb; have tu := L.tu; have au := L.au; have zu := L.zu; have tS := L.tS; have aS := L.aS; have zS := L.zS; have aE := L.aE; have zE := L.zE; have tF := L.tF; have aF := L.aF; have zF := L.zF
  have HIN := Lib.hid (fun (d' : Array α) (W' : World) (a b : Nat) (h : SB enc k 36 w0 blk off C d' W') (hd : d'.size = n) (h2 : a ≤ b) (h3 : b ≤ n) => insertion_rev L F4 enc hk h1 cf g hC w0 W' blk off C cap a b d' h h2 (by omega) (by omega))
  have HSM := Lib.hid (fun (d' : Array α) (W' : World) (a m b : Nat) => symMerge_rev L F0 F2 F3 enc hk h1 cf hO g hC w0 blk off C cap n (by omega) (b - a) a m b d' W' (Nat.le_refl _))
  have e49 : ∀ args w, (callFunc 91 args).run P w = .ok (.enter 91 args) w := enters_of F4 (by kernel_rfl) rfl
  have e50 : ∀ args w, (callFunc 92 args).run P w = .ok (.enter 92 args) w := enters_of F3 (by kernel_rfl) rfl
  have HS := Lib.hid h
  have HO := Lib.hid hO
  have HDS := Lib.hid hn
  have HIS := Lib.hid (fun (d' : Array α) (a b : Nat) (hd : d'.size = n) (h1 : a ≤ b) (h2 : b ≤ n) => insertionSort_holds (lt := ltOf cf) hO d' a b h1 (by omega))
  clear h hk h1 hC hO hn
  go_enter F, Tryz.ntmps60
  go_wp2_with fail
  go_loopw [7, 8] (fun s t wr => ∃ (q a : Nat) (dk : Array α), s = .int .i64 a ∧ t = .int .i64 (a + 20 : Nat) ∧ a ≤ n ∧ Hid (a = q * 20 ∧ PermIn 0 n d dk ∧ BlocksTo (ltOf cf) dk n 20 q ∧ SB enc k 36 w0 blk off C dk wr)) (fun s _ _ => n - (intOf s).toNat)
  case atStart => exact ⟨0, 0, d, rfl, by go_num, Nat.zero_le _, rfl, permIn_refl _ _ _, BlocksTo.zero _ _ _, HS.out⟩
  case round =>
    obtain ⟨q, a, dk, rfl, rfl, han, HI⟩ := hrel
    have hdk : dk.size = n := HI.out.2.1.1.trans HDS.out
    have HDK := Lib.hid hdk
    clear hdk
    by_cases hle : a + 20 ≤ n
    · have hlez : ((a : Int) + 20) ≤ (n : Int) := by omega
      have HW := Lib.hid (HIN.out dk wr a (a + 20) HI.out.2.2.2 HDK.out (by omega) hle)
      rw [HDK.out] at HW
      have HN := Lib.hid (HIS.out dk a (a + 20) HDK.out (by omega) hle)
      go_wp2_with fail
      refine HW.out.mono ?_
      rintro e w' ⟨rfl, hB⟩
      have HB := Lib.hid hB
      clear hB
      go_wp2_with fail
      go_roundw
      case rel =>
        have e1 : (q + 1) * 20 = a + 20 := by have := HI.out.1; omega
        refine ⟨q + 1, a + 20, _, by go_num, by go_num, hle, e1.symm, permIn_trans _ _ _ _ _ HI.out.2.1 (permIn_mono _ _ _ _ _ _ (Nat.zero_le _) hle (by rw [HDK.out]; exact Nat.le_refl _) HN.out.1), HI.out.2.2.1.step HI.out.1 HN.out.1 ?_, HB.out⟩
        rw [← HI.out.1, e1, Nat.min_eq_left hle]; exact HN.out.2
      case measure => simp [intOf]; omega
    · have hlez : ¬ ((a : Int) + 20) ≤ (n : Int) := by omega
      have HW := Lib.hid (HIN.out dk wr a n HI.out.2.2.2 HDK.out (by omega) (Nat.le_refl _))
      rw [HDK.out] at HW
      have HN := Lib.hid (HIS.out dk a n HDK.out (by omega) (Nat.le_refl _))
      go_wp2_with fail
      refine HW.out.mono ?_
      rintro e w' ⟨rfl, hB⟩
      have hF : PermIn 0 n d (insertionSort (ltOf cf) dk a n) ∧ BlocksFrom (ltOf cf) (insertionSort (ltOf cf) dk a n) n 20 0 := by
        have e1 : (q + 1) * 20 = a + 20 := by have := HI.out.1; omega
        refine ⟨permIn_trans _ _ _ _ _ HI.out.2.1 (permIn_mono _ _ _ _ _ _ (Nat.zero_le _) (Nat.le_refl _) (by rw [HDK.out]; exact Nat.le_refl _) HN.out.1), BlocksTo.all (q := q + 1) (HI.out.2.2.1.step HI.out.1 HN.out.1 ?_) (by omega)⟩
        rw [← HI.out.1, e1, Nat.min_eq_right (by omega)]; exact HN.out.2
      have HB := Lib.hid hB
      have HF := Lib.hid hF
      clear hB hF
      generalize insertionSort (ltOf cf) dk a n = d1 at HB HF
      go_wp2_with fail
      go_loopw [6, 7, 8, 9] (fun s t u v wr => ∃ (bs : Nat) (dk : Array α), s = .int .i64 bs ∧ 20 ≤ bs ∧ bs < 200000000 ∧ Hid (PermIn 0 n d dk ∧ BlocksFrom (ltOf cf) dk n bs 0 ∧ SB enc k 36 w0 blk off C dk wr)) (fun s _ _ _ _ => n - (intOf s).toNat)
      case atStart => exact ⟨20, d1, rfl, Nat.le_refl _, by omega, HF.out.1, HF.out.2, HB.out⟩
      case round =>
        obtain ⟨bs, d2, rfl, hbs, hbm, HJ⟩ := hrel
        by_cases hlt : bs < n
        · have hltz : (bs : Int) < (n : Int) := by omega
          go_wp2_with fail
          go_loopw [7, 8] (fun s t wr => ∃ (q a : Nat) (dk : Array α), s = .int .i64 a ∧ t = .int .i64 (a + 2 * bs : Nat) ∧ a ≤ n ∧ Hid (a = q * (2 * bs) ∧ Stb (ltOf cf) d dk n bs q ∧ SB enc k 36 w0 blk off C dk wr)) (fun s _ _ => n - (intOf s).toNat)
          case atStart => exact ⟨0, 0, d2, rfl, by go_num, Nat.zero_le _, by omega, ⟨HJ.out.1, BlocksTo.zero _ _ _, HJ.out.2.1⟩, HJ.out.2.2⟩
          case round =>
            obtain ⟨q, a, dj, rfl, rfl, han, HQ⟩ := hrel
            have HDJ := Lib.hid (HQ.out.2.1.perm.1.trans HDS.out)
            have HT := Lib.hid (HQ.out.2.1.two HQ.out.1)
            by_cases hle : a + 2 * bs ≤ n
            · have hlez : ((a : Int) + 2 * (bs : Int)) ≤ (n : Int) := by omega
              have HW := Lib.hid (HSM.out dj wr a (a + bs) (a + 2 * bs) HQ.out.2.2 (by omega) (by omega) HDJ.out hle (by have := HT.out.1; rwa [Nat.min_eq_left (by omega)] at this) (by have := HT.out.2; rwa [Nat.min_eq_left (by omega)] at this))
              go_wp2_with fail
              refine HW.out.mono ?_
              rintro e w' ⟨rfl, d3, k1, k2, k3⟩
              have HN := Lib.hid (HQ.out.2.1.step (by rw [HDS.out]; exact Nat.le_refl _) HQ.out.1 rfl hle k1 k2)
              have HB3 := Lib.hid k3
              clear k1 k2 k3
              go_wp2_with fail
              go_roundw
              case rel =>
                refine ⟨q + 1, a + 2 * bs, d3, rfl, by go_num, hle, ?_, HN.out, HB3.out⟩
                rw [Nat.add_mul, Nat.one_mul, ← HQ.out.1]
              case measure => simp [intOf]; omega
            · have hlez : ¬ ((a : Int) + 2 * (bs : Int)) ≤ (n : Int) := by omega
              by_cases hm : a + bs < n
              · have hmz : (a : Int) + (bs : Int) < (n : Int) := by omega
                have HW := Lib.hid (HSM.out dj wr a (a + bs) n HQ.out.2.2 (by omega) hm HDJ.out (Nat.le_refl _) (by have := HT.out.1; rwa [Nat.min_eq_left (by omega)] at this) (by have := HT.out.2; rwa [Nat.min_eq_right (by omega)] at this))
                go_wp2_with fail
                refine HW.out.mono ?_
                rintro e w' ⟨rfl, d3, k1, k2, k3⟩
                have HN := Lib.hid (HQ.out.2.1.last (by rw [HDS.out]; exact Nat.le_refl _) HQ.out.1 (by omega) han k1 k2)
                have HB3 := Lib.hid k3
                clear k1 k2 k3
                go_wp2_with fail
                go_roundw
                case rel => exact ⟨2 * bs, d3, by go_num, by omega, by omega, HN.out.1, HN.out.2, HB3.out⟩
                case measure => simp [intOf]; omega
              · have hmz : ¬ (a : Int) + (bs : Int) < (n : Int) := by omega
                have HN := Lib.hid (HQ.out.2.1.last (d' := dj) (by rw [HDS.out]; exact Nat.le_refl _) HQ.out.1 (by omega) han (permIn_refl _ _ _) (by have := HT.out.1; rwa [Nat.min_eq_right (by omega)] at this))
                go_wp2_with fail
                go_roundw
                case rel => exact ⟨2 * bs, dj, by go_num, by omega, by omega, HN.out.1, HN.out.2, HQ.out.2.2⟩
                case measure => simp [intOf]; omega
        · have hltz : ¬ (bs : Int) < (n : Int) := by omega
          have HZ := Lib.hid (HJ.out.2.1.whole (by omega))
          go_wp2_with fail
          go_end0
          exact ⟨rfl, d2, HJ.out.1, HZ.out, HJ.out.2.2⟩
end Go.Proofs.YtmhmnchdhacdbaaGreatDoor
/- slices.SortStableFunc at revisions; history.Log. -/
namespace Go.Proofs.YtmhmnchdhacdbaaGreatDoor
open Go.RowKit Go.Lib
open Go.Sort hiding Below
set_option linter.unusedVariables false
set_option linter.unusedSimpArgs false

theorem revFacts : SFacts Tryz.prog 25 36 68 12 where
  mixed := by kernel_rfl
  t0 := Tryz.underlying0
  a0 := Tryz.isAgg0
  z0 := Tryz.sizeOf0
  ti := Tryz.underlying3
  ai := Tryz.isAgg3
  zi := Tryz.sizeOf3
  vi := Tryz.zeroValue3
  tb := Tryz.underlying4
  ab := Tryz.isAgg4
  zb := Tryz.sizeOf4
  tu := Tryz.underlying104
  au := Tryz.isAgg104
  zu := Tryz.sizeOf104
  tS := Tryz.underlying25
  aS := Tryz.isAgg25
  zS := Tryz.sizeOf25
  aE := Tryz.isAgg36
  zE := Tryz.sizeOf36
  tF := Tryz.underlying68
  aF := Tryz.isAgg68
  zF := Tryz.sizeOf68
instance : Inhabited Rev := ⟨zeroRev⟩
def revCmp (a b : Rev) : Int := cmpI a.num b.num
theorem revCmp_tot : TotC revCmp := totI (f := fun r : Rev => r.num)
set_option maxRecDepth 100000 in
set_option maxHeartbeats 1000000 in
theorem log1_any (x y : Rev) (w : World) : Calls Tryz.prog 31 #[.agg #[.string x.path, .int .i64 x.num, .int .i64 x.chg, .int .i64 x.act, .int .i64 x.ty.base, .bool x.ty.k, .bool x.ty.l, .bool x.ty.x, .int .u64 x.sum, .int .i64 x.size, .string x.frm, .int .i64 x.fnum], .agg #[.string y.path, .int .i64 y.num, .int .i64 y.chg, .int .i64 y.act, .int .i64 y.ty.base, .bool y.ty.k, .bool y.ty.l, .bool y.ty.x, .int .u64 y.sum, .int .i64 y.size, .string y.frm, .int .i64 y.fnum]] w fun e w' => e = .returned (.int .i64 (revCmp x y)) ∧ Below w.heap.size w w' := by
  have H := Lib.hid (fun X => cmpInt_any x.num y.num X)
  have hA : Below w.heap.size w ((w.alloc (.cells #[.string x.path, .int .i64 x.num, .int .i64 x.chg, .int .i64 x.act, .int .i64 x.ty.base, .bool x.ty.k, .bool x.ty.l, .bool x.ty.x, .int .u64 x.sum, .int .i64 x.size, .string x.frm, .int .i64 x.fnum] 36)).alloc (.cells #[.string y.path, .int .i64 y.num, .int .i64 y.chg, .int .i64 y.act, .int .i64 y.ty.base, .bool y.ty.k, .bool y.ty.l, .bool y.ty.x, .int .u64 y.sum, .int .i64 y.size, .string y.frm, .int .i64 y.fnum] 36)) := ((Below.refl _ _).alloc (Nat.le_refl _) _).alloc (by simp) _
  go_enter Tryz.func31, Tryz.ntmps31
  go_wp2_with fail
  refine (H.out _).mono ?_
  rintro e w' ⟨rfl, rfl⟩
  go_wp2_with fail
  go_ret
  exact ⟨rfl, hA⟩
theorem rev_cmpB : CmpB Tryz.prog 31 Rev.cells revCmp :=
  ⟨enters_of Tryz.func31 (by kernel_rfl) rfl, fun x y W => log1_any x y W⟩
theorem rev_len (x : Rev) : x.cells.length = 12 := rfl
theorem rev_oneP (x : Rev) : ∀ v ∈ x.cells, v.oneCell' = true := by
  intro v hv
  simp only [Rev.cells, List.mem_cons, List.not_mem_nil, or_false] at hv
  rcases hv with rfl | rfl | rfl | rfl | rfl | rfl | rfl | rfl | rfl | rfl | rfl | rfl <;> rfl

set_option maxHeartbeats 1000000 in
theorem insertion_none_rev (v cv : Value) (w : World) : Calls Tryz.prog 91 #[v, .int .i64 0, .int .i64 0, cv] w fun e w' => e = .returned (.tuple #[]) ∧ w = w' := by
  go_enter Tryz.func91, Tryz.ntmps91
  go_wp2
  refine wp_loop_rounds 1 ?_
  rw [rounds_succ]
  go_wp2
  go_end0
  exact ⟨rfl, rfl⟩
set_option maxHeartbeats 1000000 in
theorem stable_none_rev (v cv : Value) (w : World) : Calls Tryz.prog 60 #[v, .int .i64 0, cv] w fun e w' => e = .returned (.tuple #[]) ∧ w = w' := by
  have H := Lib.hid (insertion_none_rev v cv w)
  go_enter Tryz.func60, Tryz.ntmps60
  go_wp2
  refine wp_loop_rounds 1 ?_
  rw [rounds_succ]
  go_wp2_with fail
  refine H.out.mono ?_
  rintro e w' ⟨rfl, rfl⟩
  go_wp2
  refine wp_loop_rounds 1 ?_
  rw [rounds_succ]
  go_wp2
  go_end0
  exact ⟨rfl, rfl⟩

def SortPost (w : World) (base : Nat) (v : Value) (l : List Rev) (e : Ending) (w' : World) : Prop :=
  e = .returned (.tuple #[]) ∧ ∃ l' : List Rev, l'.Perm l ∧ l'.Pairwise (fun a b => a.num ≤ b.num) ∧ w'.ownsRow base 36 12 v l.length (l'.flatMap Rev.cells) ∧ w.grownBy w' v.ownBlock
theorem sorted_num {a b : Rev} (h : ¬ revCmp b a < 0) : a.num ≤ b.num := by
  unfold revCmp cmpI at h
  split at h
  · omega
  · omega
set_option maxHeartbeats 1000000 in
theorem sortStable_rev (l : List Rev) (v : Value) (base : Nat) (w : World) (hown : w.ownsRow base 36 12 v l.length (l.flatMap Rev.cells)) (hl : l.length ≤ 10000000) :
    Calls Tryz.prog 30 #[v, .func (.func 31) #[] #[]] w (SortPost w base v l) := by
  by_cases h0 : l.length = 0
  · have hl0 : l = [] := List.eq_nil_of_length_eq_zero h0
    subst hl0
    have hv : ∃ A c, v = .slice A 0 c := by
      rcases hown.2 with ⟨rfl, -⟩ | ⟨g, cap, cur, rfl, -⟩
      · exact ⟨_, _, rfl⟩
      · exact ⟨_, _, rfl⟩
    obtain ⟨A, c, rfl⟩ := hv
    have HO := Lib.hid hown
    have H := Lib.hid (stable_none_rev (.slice A 0 c) (.func (.func 31) #[] #[]) w)
    clear hown
    go_enter Tryz.func30, Tryz.ntmps30
    go_wp2_with fail
    refine H.out.mono ?_
    rintro e w' ⟨rfl, rfl⟩
    go_wp2
    go_end0
    exact ⟨rfl, [], List.Perm.refl _, List.Pairwise.nil, HO.out, ⟨rfl, rfl, rfl, Nat.le_refl _, fun _ _ _ => rfl⟩⟩
  · have hd : l.toArray.size = l.length := by simp
    obtain ⟨g, cap, rfl, hb, h3, h4, hSB⟩ := own_sb (d := l.toArray) rev_len (by rw [hd]; omega) (by rw [hd]; exact hown)
    rw [hd] at h3 ⊢
    have H := Lib.hid (stable_rev revFacts Tryz.func141 Tryz.func124 Tryz.func92 Tryz.func91 Tryz.func60
      Rev.cells rev_len rev_oneP revCmp revCmp_tot.swo _ rev_cmpB w w g 0 (cap * 12) cap l.toArray hSB l.length hd (by omega))
    clear hown hSB
    go_enter Tryz.func30, Tryz.ntmps30
    go_wp2_with fail
    refine H.out.mono ?_
    rintro e w' ⟨rfl, d', k1, k2, k3⟩
    have HB : Hid (PermIn 0 l.length l.toArray d' ∧ SortedIn (ltOf revCmp) 0 l.length d' ∧ SB Rev.cells 12 36 w g 0 (cap * 12) d' w') := Lib.hid ⟨k1, k2, k3⟩
    clear k1 k2 k3
    go_wp2
    go_end0
    obtain ⟨k1, k2, k3⟩ := HB.out
    have hs : d'.size = l.length := by rw [k1.1, hd]
    refine ⟨rfl, d'.toList, ?_, ?_, ?_, ?_⟩
    · have := k1.2.2
      rw [← hs, Array.extract_size, hs] at this
      rw [← hd, Array.extract_size] at this
      simpa using this
    · rw [List.pairwise_iff_getElem]
      intro i j hi hj hij
      have hi' : i < d'.size := by simpa using hi
      have hj' : j < d'.size := by simpa using hj
      have := k2 i j (Nat.zero_le _) hij (by omega)
      rw [getElem!_pos d' j hj', getElem!_pos d' i hi'] at this
      refine sorted_num ?_
      simpa [ltOf] using this
    · have := sb_own rev_len hb (by rw [hs]; exact h3) h4 k3
      rw [hs] at this
      exact this
    · exact k3.gr
end Go.Proofs.YtmhmnchdhacdbaaGreatDoor
namespace Go.Proofs.YtmhmnchdhacdbaaGreatDoor
open Go.RowKit
set_option linter.unusedVariables false
set_option linter.unusedSimpArgs false
/-- What Log leaves: the revisions of the path, sorted by their numbers. -/
def LogPost (w : World) (revs : List Rev) (p : ByteArray) (e : Ending) (w' : World) : Prop := ∃ v l, e = .returned v ∧ Below w.heap.size w w' ∧ Revs w' v l ∧ l.Perm (logOf revs p) ∧ l.Pairwise (fun a b => a.num ≤ b.num)
theorem log_takeP (revs : List Rev) (p : ByteArray) (k : Nat) (h : k < revs.length) : logOf (revs.take (k + 1)) p = logOf (revs.take k) p ++ (if revs[k].path = p then [revs[k]] else []) := by
  rw [List.take_succ_eq_append_getElem h, log_app]
  congr 1
  unfold logOf
  rw [List.filter_cons]
  by_cases e : revs[k].path = p
  · simp [e]
  · simp [e]
theorem log_lenP (revs : List Rev) (p : ByteArray) : (logOf revs p).length ≤ revs.length := List.length_filter_le ..
set_option maxRecDepth 100000 in
set_option maxHeartbeats 4000000 in
theorem log_any (revs : List Rev) (p : ByteArray) (dv dr : Value) (w : World) (hR : Revs w dv revs) (hl : revs.length ≤ 1000000) :
    Calls Tryz.prog 16 #[.agg #[dv, dr], .string p] w (LogPost w revs p) := by
  obtain ⟨Ar, cr, rfl, hcr, hmr, -⟩ := id hR
  have HR := Lib.hid hR
  clear hR
  unfold maxLen at hmr
  go_enter Tryz.func16, Tryz.ntmps16
  have hB := blk_new w [.slice Ar revs.length cr, dr] 28
  have hA : Below w.heap.size w (w.alloc (.cells #[.slice Ar revs.length cr, dr] 28)) := (Below.refl _ _).alloc (Nat.le_refl _) _
  go_upto_region 2 with fail
  generalize w.alloc (.cells #[.slice Ar revs.length cr, dr] 28) = W1 at hB hA ⊢
  obtain ⟨d0, -, -, -⟩ := box2 hB
  have HA := Lib.hid hA
  clear hA hB
  go_wp2_with fail
  clear d0
  go_loopw [5, 11] (fun u s wr => ∃ (k n : Nat) (A : Option Addr) (c : Nat), s = .int .i64 k ∧ u = .slice A n c ∧ k ≤ revs.length ∧ n ≤ k ∧ Hid (n = (logOf (revs.take k) p).length ∧ Below W1.heap.size W1 wr ∧ wr.ownsRow W1.heap.size 36 12 (.slice A n c) n ((logOf (revs.take k) p).flatMap Rev.cells))) (fun _ s _ => revs.length - (intOf s).toNat)
  case atStart => exact ⟨0, 0, none, 0, rfl, rfl, Nat.zero_le _, Nat.le_refl _, rfl, Below.refl _ _, World.ownsRow_nil _ _ _ _⟩
  case round =>
    obtain ⟨k, n, A, c, rfl, rfl, hk, hnk, HI⟩ := hrel
    by_cases hlt : k < revs.length
    · obtain ⟨ad, rfl, hab, hld⟩ := Revs.at_ (HR.out.below (below_next HA.out HI.out.2.1)) hlt
      have HT := Lib.hid (log_takeP revs p k hlt)
      generalize revs[k] = r at hld HT
      obtain ⟨x0, x1, x2, x3, x4, x5, x6, x7, x8, x9, x10, x11⟩ := hld
      have hX := blk_new wr [.string r.path, .int .i64 r.num, .int .i64 r.chg, .int .i64 r.act, .int .i64 r.ty.base, .bool r.ty.k, .bool r.ty.l, .bool r.ty.x, .int .u64 r.sum, .int .i64 r.size, .string r.frm, .int .i64 r.fnum] 36
      have hA1 : Below wr.heap.size wr (wr.alloc (.cells #[.string r.path, .int .i64 r.num, .int .i64 r.chg, .int .i64 r.act, .int .i64 r.ty.base, .bool r.ty.k, .bool r.ty.l, .bool r.ty.x, .int .u64 r.sum, .int .i64 r.size, .string r.frm, .int .i64 r.fnum] 36)) := (Below.refl _ _).alloc (Nat.le_refl _) _
      go_upto_region 5 with fail
      clear x0 x1 x2 x3 x4 x5 x6 x7 x8 x9 x10 x11
      generalize wr.alloc (.cells #[.string r.path, .int .i64 r.num, .int .i64 r.chg, .int .i64 r.act, .int .i64 r.ty.base, .bool r.ty.k, .bool r.ty.l, .bool r.ty.x, .int .u64 r.sum, .int .i64 r.size, .string r.frm, .int .i64 r.fnum] 36) = V1 at hX hA1 ⊢
      obtain ⟨y0, y1, y2, y3, y4, y5, y6, y7, y8, y9, y10, y11⟩ := box12 hX
      by_cases hp : r.path = p
      · have q := str_eqB r.path p
        rw [decide_eq_true hp] at q
        rw [if_pos hp] at HT
        have HN : Hid (n = (logOf (revs.take k) p).length ∧ Below W1.heap.size W1 V1 ∧ V1.ownsRow W1.heap.size 36 12 (.slice A n c) n ((logOf (revs.take k) p).flatMap Rev.cells)) := Lib.hid ⟨HI.out.1, below_next HI.out.2.1 hA1, own_below HI.out.2.2 hA1⟩
        clear hX hA1 hp
        go_wp2_with (at_builtin; refine wpList_push rfl rfl revElem ((own_below HN.out.2.2 ((Below.refl _ _).alloc (Nat.le_refl _) _))) rfl (row_new V1 [.string r.path, .int .i64 r.num, .int .i64 r.chg, .int .i64 r.act, .int .i64 r.ty.base, .bool r.ty.k, .bool r.ty.l, .bool r.ty.x, .int .u64 r.sum, .int .i64 r.size, .string r.frm, .int .i64 r.fnum] _ 12 1 rfl (by decide) _ rfl) rfl (HN.out.2.1.alloc HN.out.2.1.size _) (HN.out.2.1.alloc HN.out.2.1.size _).size (rev_oneP r) (by omega) (by unfold maxLen; omega) ?_; intro A' c' w2 hown2 hbl2)
        have HO2 := Lib.hid hown2
        have HB2 := Lib.hid hbl2
        clear y0 y1 y2 y3 y4 y5 y6 y7 y8 y9 y10 y11 hown2 hbl2
        go_wp2_with fail
        go_roundw
        case rel =>
          refine ⟨k + 1, n + 1, A', c', by go_num, rfl, by omega, by omega, ?_, HB2.out, ?_⟩
          · rw [HT.out, List.length_append, List.length_singleton, ← HN.out.1]
          · rw [HT.out, List.flatMap_append, List.flatMap_cons, List.flatMap_nil, List.append_nil]
            exact HO2.out
        case measure => simp [intOf]; omega
      · have q := str_eqB r.path p
        rw [decide_eq_false hp] at q
        rw [if_neg hp, List.append_nil] at HT
        have HN : Hid (n = (logOf (revs.take (k + 1)) p).length ∧ Below W1.heap.size W1 V1 ∧ V1.ownsRow W1.heap.size 36 12 (.slice A n c) n ((logOf (revs.take (k + 1)) p).flatMap Rev.cells)) := Lib.hid (by rw [HT.out]; exact ⟨HI.out.1, below_next HI.out.2.1 hA1, own_below HI.out.2.2 hA1⟩)
        clear hX hA1 hp HT
        go_wp2_with fail
        go_roundw
        case rel => exact ⟨k + 1, n, A, c, by go_num, rfl, by omega, by omega, HN.out⟩
        case measure => simp [intOf]; omega
    · have hke : k = revs.length := by omega
      have HF : Hid (n = (logOf revs p).length ∧ Below W1.heap.size W1 wr ∧ wr.ownsRow W1.heap.size 36 12 (.slice A n c) n ((logOf revs p).flatMap Rev.cells)) := Lib.hid (by
        have := HI.out
        rwa [hke, List.take_length] at this)
      have HSO := Lib.hid (sortStable_rev (logOf revs p) (.slice A n c) W1.heap.size wr (by rw [← HF.out.1]; exact HF.out.2.2) (by have := log_lenP revs p; omega))
      clear HI hke
      go_wp2_with fail
      refine HSO.out.mono ?_
      rintro e w' ⟨rfl, l', h1, h2, h3, h4⟩
      have HX : Hid (l'.Perm (logOf revs p) ∧ l'.Pairwise (fun a b => a.num ≤ b.num) ∧ Below W1.heap.size W1 w' ∧ Revs w' (.slice A n c) l') := Lib.hid ⟨h1, h2, HF.out.2.1.grown h4 HF.out.2.1.size (fun k e => (HF.out.2.2.lt k e).1), by
        have := Row.of_own h3
        unfold Revs
        rw [h1.length_eq]
        exact this⟩
      clear h1 h2 h3 h4
      go_wp2_with fail
      go_ret
      exact ⟨_, l', rfl, below_next HA.out HX.out.2.2.1, HX.out.2.2.2, HX.out.1, HX.out.2.1⟩
end Go.Proofs.YtmhmnchdhacdbaaGreatDoor
