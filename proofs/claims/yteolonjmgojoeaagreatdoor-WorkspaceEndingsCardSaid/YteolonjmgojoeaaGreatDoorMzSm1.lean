/- slices.symMergeCmpFunc at records: a left run of one element, a right run of one element. -/
import Derived.Test.YteolonjmgojoeaaGreatDoorMzIns
namespace Go.Proofs.YteolonjmgojoeaaGreatDoor
open Go.RowKit Go.Lib
open Go.Sort hiding Below
set_option linter.unusedVariables false
set_option linter.unusedSimpArgs false
variable {P : Program} {α : Type} [Inhabited α]

set_option maxHeartbeats 4000000 in
set_option maxRecDepth 100000 in
theorem symMerge_left_rcd {k : Nat} (L : SFacts P 46 77 80 k) (F : P.funcs[61]? = some Tryz.f61)
    (enc : α → List Value) (hk : ∀ x, (enc x).length = k) (h1 : ∀ x, ∀ v ∈ enc x, v.oneCell' = true) (cf : α → α → Int) (hO : SWO (ltOf cf)) (g : Nat) (hC : CmpB P g enc cf) (w0 W : World) (blk off C cap a b : Nat) (d : Array α) (h : SB enc k 77 w0 blk off C d W)
    (hab : a + 1 < b) (hb : b ≤ d.size) (hsz : d.size < 1000000000) (hs : SortedIn (ltOf cf) (a + 1) b d) :
    Calls P 61 #[.slice (some ⟨blk, off, none⟩) d.size cap, .int .i64 a, .int .i64 (a + 1 : Nat), .int .i64 b, .func (.func g) #[] #[]] W fun e w' => e = .returned (.tuple #[]) ∧ ∃ d', PermIn a b d d' ∧ SortedIn (ltOf cf) a b d' ∧ SB enc k 77 w0 blk off C d' w' := by
  have mixed := L.mixed; have t0 := L.t0; have a0 := L.a0; have z0 := L.z0; have ti := L.ti; have ai := L.ai; have zi := L.zi; have vi := L.vi; have tb := L.tb; have ab := L.ab; have zb := L.zb; have tu := L.tu; have au := L.au; have zu := L.zu; have tS := L.tS; have aS := L.aS; have zS := L.zS; have aE := L.aE; have zE := L.zE; have tF := L.tF; have aF := L.aF; have zF := L.zF
  have HCB := Lib.hid hC
  have eg := hC.1
  have HS := Lib.hid h
  have HK := Lib.hid hk
  have H1 := Lib.hid h1
  have HSO := Lib.hid hs
  have HO := Lib.hid hO
  clear h hk h1 hC hs hO
  have wm : IntKind.i64.wrap (((a + 1 : Nat) : Int) - (a : Int)) = 1 := by rw [IntKind.wrap_i64]; omega
  go_enter F, Tryz.ntmps61
  go_wp2
  clear wm
  go_loopw [10, 11] (fun s t wr => ∃ (i j : Nat), s = .int .i64 i ∧ t = .int .i64 j ∧ a + 1 ≤ i ∧ i ≤ j ∧ j ≤ b ∧ Hid ((∀ x, a + 1 ≤ x → x < i → ltOf cf d[x]! d[a]! = true) ∧ (∀ x, j ≤ x → x < b → ltOf cf d[x]! d[a]! = false) ∧ SB enc k 77 w0 blk off C d wr)) (fun s t _ => (intOf t).toNat - (intOf s).toNat)
  case atStart => exact ⟨a + 1, b, by go_num, rfl, by omega, by omega, by omega, fun x h1 h2 => by omega, fun x h1 h2 => by omega, HS.out⟩
  case round =>
    obtain ⟨i, j, rfl, rfl, hi, hij, hj, HI⟩ := hrel
    by_cases hlt : i < j
    · have hltz : (i : Int) < (j : Int) := by omega
      obtain ⟨c, hc⟩ : ∃ c : Nat, c = (i + j) / 2 := ⟨_, rfl⟩
      have hc1 : i ≤ c := by omega
      have hc2 : c < j := by omega
      have hcz : ((i : Int) + (j : Int)) / 2 = (c : Int) := by omega
      have zc : (c : Int) < (d.size : Int) := by omega
      have za : (a : Int) < (d.size : Int) := by omega
      have lc := HI.out.2.2.lds HK.out P (i := c) (by omega)
      have la := HI.out.2.2.lds HK.out P (i := a) (by omega)
      obtain ⟨xc, hxc⟩ : ∃ x, d[c]! = x := ⟨_, rfl⟩
      obtain ⟨xa, hxa⟩ : ∃ x, d[a]! = x := ⟨_, rfl⟩
      rw [hxc] at lc
      rw [hxa] at la
      have HCG := Lib.hid (HCB.out.at_ xc xa wr)
      have HXC := Lib.hid hxc
      have HXA := Lib.hid hxa
      clear hxc hxa hc
      by_cases hlv : cf xc xa < 0
      · have dlv : decide (cf xc xa < 0) = true := by simp; omega
        have HN : Hid (∀ x, a + 1 ≤ x → x < c + 1 → ltOf cf d[x]! d[a]! = true) := Lib.hid fun x hx hx2 => by
          have hcc : ltOf cf d[c]! d[a]! = true := by rw [HXC.out, HXA.out]; exact dlv
          by_cases e : x = c
          · rw [e]; exact hcc
          · cases hh : ltOf cf d[x]! d[a]! with
            | true => rfl
            | false =>
              have := SWO.le HO.out hh (HSO.out x c hx (by omega) (by omega))
              rw [hcc] at this; cases this
        clear hlv
        go_wp2_with fail
        clear hcz
        refine wp_region_quiet_below (by assumption) (by kernel_rfl) ?_
        repeat (first | go_big_quiet_step (exact HCG.out _ _) | quiet_step (exact HCG.out _ _))
        refine wpQuiet_nil ?_
        intro _ hw'
        obtain ⟨⟨dq, osq⟩, hw''⟩ := hw'
        subst hw''
        have HB5 := Lib.hid (HI.out.2.2.below (below_regrown wr dq osq))
        generalize grow (redrawn wr dq) osq = W5 at HB5 ⊢
        go_wp2
        go_roundw
        case rel => exact ⟨c + 1, j, by go_num, rfl, by omega, by omega, hj, HN.out, HI.out.2.1, HB5.out⟩
        case measure => simp [intOf]; omega
      · have dlv : decide (cf xc xa < 0) = false := by simp; omega
        have HN : Hid (∀ x, c ≤ x → x < b → ltOf cf d[x]! d[a]! = false) := Lib.hid fun x hx hx2 => by
          have hcc : ltOf cf d[c]! d[a]! = false := by rw [HXC.out, HXA.out]; exact dlv
          by_cases e : x = c
          · rw [e]; exact hcc
          · exact SWO.le HO.out hcc (HSO.out c x (by omega) (by omega) (by omega))
        clear hlv
        go_wp2_with fail
        clear hcz
        refine wp_region_quiet_below (by assumption) (by kernel_rfl) ?_
        repeat (first | go_big_quiet_step (exact HCG.out _ _) | quiet_step (exact HCG.out _ _))
        refine wpQuiet_nil ?_
        intro _ hw'
        obtain ⟨⟨dq, osq⟩, hw''⟩ := hw'
        subst hw''
        have HB5 := Lib.hid (HI.out.2.2.below (below_regrown wr dq osq))
        generalize grow (redrawn wr dq) osq = W5 at HB5 ⊢
        go_wp2
        go_roundw
        case rel => exact ⟨i, c, rfl, rfl, hi, by omega, by omega, HI.out.1, HN.out, HB5.out⟩
        case measure => simp [intOf]; omega
    · have hji : j = i := by omega
      subst hji
      have hltz : ¬ (j : Int) < (j : Int) := by omega
      have HM := Lib.hid (fun (d' : Array α) (hr : ∀ x, d'[x]! = rotAt d a (a + 1) j x) => merge_one_left HO.out hb (by omega) hj HSO.out HI.out.1 HI.out.2.1 hr)
      go_wp2_with fail
      go_loopw [13] (fun s wr => ∃ (q : Nat) (dk : Array α), s = .int .i64 q ∧ a ≤ q ∧ q ≤ j - 1 ∧ dk.size = d.size ∧ Hid (PermIn a b d dk ∧ (∀ x, dk[x]! = rotAt d a (a + 1) (q + 1) x) ∧ SB enc k 77 w0 blk off C dk wr)) (fun s _ => j - (intOf s).toNat)
      case atStart => exact ⟨a, d, rfl, Nat.le_refl _, by omega, rfl, permIn_refl _ _ _, rot_up0 d a, HI.out.2.2⟩
      case round =>
        obtain ⟨q, dk, rfl, hq1, hq2, hsk, HQ⟩ := hrel
        by_cases hql : q < j - 1
        · have hqz : (q : Int) < (j : Int) - 1 := by omega
          have zq : (q : Int) < (d.size : Int) := by omega
          have zq1 : (q : Int) + 1 < (d.size : Int) := by omega
          have p0 : (0 : Int) ≤ (q : Int) + 1 := by omega
          have e0 : ((q : Int) + 1).toNat = q + 1 := by omega
          have HR := Lib.hid (rot_up (by omega) hq1 HQ.out.2.1)
          have HP := Lib.hid (permIn_trans _ _ _ _ _ HQ.out.1 (swp_permIn dk a b q (q + 1) (by omega) (by omega) (by omega) (by omega) (by omega)))
          have hB6 := HQ.out.2.2.drew
          have l1 := hB6.load HK.out P (i := q) (by omega)
          have l2 := hB6.load HK.out P (i := q + 1) (by omega)
          have s1 := hB6.st1 HK.out H1.out P (i := q) (by omega) dk[q + 1]!
          have s2 := hB6.st2 HK.out H1.out P (i := q) (j := q + 1) (by omega) (by omega) dk[q + 1]! dk[q]!
          have HN : Hid _ := hB6.swap HK.out (i := q) (j := q + 1) (by omega) (by omega)
          have q1 : (enc dk[q + 1]!).length = k := HK.out _
          have q2 : (enc dk[q]!).length = k := HK.out _
          clear hB6
          generalize enc dk[q + 1]! = cj at l1 l2 s1 s2 HN q1 q2
          generalize enc dk[q]! = cp at l1 l2 s1 s2 HN q1 q2
          go_wp2_with fail
          go_big_region_o
          all_goals go_wp2
          go_roundw
          case rel => exact ⟨q + 1, _, by go_num, by omega, by omega, by rw [size_swp]; exact hsk, HP.out, HR.out, HN.out⟩
          case measure => simp [intOf]; omega
        · have hqj : q + 1 = j := by omega
          have hqz : ¬ (q : Int) < (j : Int) - 1 := by omega
          have HM2 := Lib.hid (HM.out dk (fun x => by rw [HQ.out.2.1 x, hqj]))
          clear hqj
          go_wp2
          refine bodyPost_ret (results_none rfl _ _ _) rfl ?_
          exact ⟨rfl, dk, HQ.out.1, HM2.out, HQ.out.2.2⟩
end Go.Proofs.YteolonjmgojoeaaGreatDoor
