/- slices.symMergeCmpFunc at records: a right run of one element. -/
import Derived.Test.YteolonjmgojoeaaGreatDoorMzIns
namespace Go.Proofs.YteolonjmgojoeaaGreatDoor
open Go.RowKit Go.Lib
open Go.Sort hiding Below
set_option linter.unusedVariables false
set_option linter.unusedSimpArgs false
variable {P : Program} {α : Type} [Inhabited α]

set_option maxHeartbeats 4000000 in
set_option maxRecDepth 100000 in
theorem symMerge_right_rcd {k : Nat} (L : SFacts P 46 77 80 k) (F : P.funcs[61]? = some Tryz.f61)
    (enc : α → List Value) (hk : ∀ x, (enc x).length = k) (h1 : ∀ x, ∀ v ∈ enc x, v.oneCell' = true) (cf : α → α → Int) (hO : SWO (ltOf cf)) (g : Nat) (hC : CmpB P g enc cf) (w0 W : World) (blk off C cap a m : Nat) (d : Array α) (h : SB enc k 77 w0 blk off C d W)
    (hab : a + 1 < m) (hb : m + 1 ≤ d.size) (hsz : d.size < 1000000000) (hs : SortedIn (ltOf cf) a m d) :
    Calls P 61 #[.slice (some ⟨blk, off, none⟩) d.size cap, .int .i64 a, .int .i64 m, .int .i64 (m + 1 : Nat), .func (.func g) #[] #[]] W fun e w' => e = .returned (.tuple #[]) ∧ ∃ d', PermIn a (m + 1) d d' ∧ SortedIn (ltOf cf) a (m + 1) d' ∧ SB enc k 77 w0 blk off C d' w' := by
  have mixed := L.mixed; have t0 := L.t0; have a0 := L.a0; have z0 := L.z0; have ti := L.ti; have ai := L.ai; have zi := L.zi; have vi := L.vi; have tb := L.tb; have ab := L.ab; have zb := L.zb; have tu := L.tu; have au := L.au; have zu := L.zu; have tS := L.tS; have aS := L.aS; have zS := L.zS; have aE := L.aE; have zE := L.zE; have tF := L.tF; have aF := L.aF; have zF := L.zF
  have HCB := Lib.hid hC
  have eg := hC.1
  have HS := Lib.hid h
  have HK := Lib.hid hk
  have H1 := Lib.hid h1
  have HSO := Lib.hid hs
  have HO := Lib.hid hO
  clear h hk h1 hC hs hO
  have wm : ((m : Int) - (a : Int) == 1) = false := by rw [beq_eq_false_iff_ne]; omega
  go_enter F, Tryz.ntmps61
  go_wp2
  clear wm
  go_loopw [14, 15] (fun s t wr => ∃ (i j : Nat), s = .int .i64 i ∧ t = .int .i64 j ∧ a ≤ i ∧ i ≤ j ∧ j ≤ m ∧ Hid ((∀ x, a ≤ x → x < i → ltOf cf d[m]! d[x]! = false) ∧ (∀ x, j ≤ x → x < m → ltOf cf d[m]! d[x]! = true) ∧ SB enc k 77 w0 blk off C d wr)) (fun s t _ => (intOf t).toNat - (intOf s).toNat)
  case atStart => exact ⟨a, m, rfl, rfl, by omega, by omega, by omega, fun x h1 h2 => by omega, fun x h1 h2 => by omega, HS.out⟩
  case round =>
    obtain ⟨i, j, rfl, rfl, hi, hij, hj, HI⟩ := hrel
    by_cases hlt : i < j
    · have hltz : (i : Int) < (j : Int) := by omega
      obtain ⟨c, hc⟩ : ∃ c : Nat, c = (i + j) / 2 := ⟨_, rfl⟩
      have hc1 : i ≤ c := by omega
      have hc2 : c < j := by omega
      have hcz : ((i : Int) + (j : Int)) / 2 = (c : Int) := by omega
      have zc : (c : Int) < (d.size : Int) := by omega
      have za : (m : Int) < (d.size : Int) := by omega
      have lc := HI.out.2.2.lds HK.out P (i := c) (by omega)
      have la := HI.out.2.2.lds HK.out P (i := m) (by omega)
      obtain ⟨xc, hxc⟩ : ∃ x, d[c]! = x := ⟨_, rfl⟩
      obtain ⟨xa, hxa⟩ : ∃ x, d[m]! = x := ⟨_, rfl⟩
      rw [hxc] at lc
      rw [hxa] at la
      have HCG := Lib.hid (HCB.out.at_ xa xc wr)
      have HXC := Lib.hid hxc
      have HXA := Lib.hid hxa
      clear hxc hxa hc
      by_cases hlv : cf xa xc < 0
      · have dlv : decide (cf xa xc < 0) = true := by simp; omega
        have HN : Hid (∀ x, c ≤ x → x < m → ltOf cf d[m]! d[x]! = true) := Lib.hid fun x hx hx2 => by
          have hcc : ltOf cf d[m]! d[c]! = true := by rw [HXC.out, HXA.out]; exact dlv
          by_cases e : x = c
          · rw [e]; exact hcc
          · cases hh : ltOf cf d[m]! d[x]! with
            | true => rfl
            | false =>
              have := SWO.le HO.out (HSO.out c x (by omega) (by omega) (by omega)) hh
              rw [hcc] at this; cases this
        clear hlv
        go_wp2_with fail
        clear hcz
        refine wp_region_quiet_below (by assumption) (by kernel_rfl) ?_
        repeat (first | go_big_quiet_step (exact HCG.out _ _) | quiet_step (exact HCG.out _ _))
        refine wpQuiet_nil ?_
        intro _ hw'
        obtain ⟨⟨dq, osq⟩, hw''⟩ := hw'
        subst hw''
        have HB5 := Lib.hid (HI.out.2.2.below (below_regrown wr dq osq))
        generalize grow (redrawn wr dq) osq = W5 at HB5 ⊢
        go_wp2
        go_roundw
        case rel => exact ⟨i, c, rfl, rfl, hi, by omega, by omega, HI.out.1, HN.out, HB5.out⟩
        case measure => simp [intOf]; omega
      · have dlv : decide (cf xa xc < 0) = false := by simp; omega
        have HN : Hid (∀ x, a ≤ x → x < c + 1 → ltOf cf d[m]! d[x]! = false) := Lib.hid fun x hx hx2 => by
          have hcc : ltOf cf d[m]! d[c]! = false := by rw [HXC.out, HXA.out]; exact dlv
          by_cases e : x = c
          · rw [e]; exact hcc
          · exact SWO.le HO.out (HSO.out x c (by omega) (by omega) (by omega)) hcc
        clear hlv
        go_wp2_with fail
        clear hcz
        refine wp_region_quiet_below (by assumption) (by kernel_rfl) ?_
        repeat (first | go_big_quiet_step (exact HCG.out _ _) | quiet_step (exact HCG.out _ _))
        refine wpQuiet_nil ?_
        intro _ hw'
        obtain ⟨⟨dq, osq⟩, hw''⟩ := hw'
        subst hw''
        have HB5 := Lib.hid (HI.out.2.2.below (below_regrown wr dq osq))
        generalize grow (redrawn wr dq) osq = W5 at HB5 ⊢
        go_wp2
        go_roundw
        case rel => exact ⟨c + 1, j, by go_num, rfl, by omega, by omega, hj, HN.out, HI.out.2.1, HB5.out⟩
        case measure => simp [intOf]; omega
    · have hji : j = i := by omega
      subst hji
      have hltz : ¬ (j : Int) < (j : Int) := by omega
      have HM := Lib.hid (fun (d' : Array α) (hr : ∀ x, d'[x]! = rotAt d j m (m + 1) x) => merge_one_right HO.out hb hi hj HSO.out HI.out.1 HI.out.2.1 hr)
      go_wp2_with fail
      go_loopw [17] (fun s wr => ∃ (q : Nat) (dk : Array α), s = .int .i64 q ∧ j ≤ q ∧ q ≤ m ∧ dk.size = d.size ∧ Hid (PermIn a (m + 1) d dk ∧ (∀ x, dk[x]! = rotAt d q m (m + 1) x) ∧ SB enc k 77 w0 blk off C dk wr)) (fun s _ => (intOf s).toNat)
      case atStart => exact ⟨m, d, rfl, by omega, by omega, rfl, permIn_refl _ _ _, rot_down0 d m, HI.out.2.2⟩
      case round =>
        obtain ⟨q, dk, rfl, hq1, hq2, hsk, HQ⟩ := hrel
        by_cases hql : j < q
        · obtain ⟨qp, rfl⟩ : ∃ qp, q = qp + 1 := ⟨q - 1, by omega⟩
          have hqz : (j : Int) < (qp : Int) + 1 := by omega
          have hwp : IntKind.i64.wrap (qp : Int) = (qp : Int) := by rw [IntKind.wrap_i64]; omega
          have zq : (qp : Int) < (d.size : Int) := by omega
          have zq1 : (qp : Int) + 1 < (d.size : Int) := by omega
          have p0 : (0 : Int) ≤ (qp : Int) + 1 := by omega
          have e0 : ((qp : Int) + 1).toNat = qp + 1 := by omega
          have HR := Lib.hid (rot_down (by omega) (by omega) HQ.out.2.1)
          have HP := Lib.hid (permIn_trans _ _ _ _ _ HQ.out.1 (swp_permIn dk a (m + 1) (qp + 1) qp (by omega) (by omega) (by omega) (by omega) (by omega)))
          have hB6 := HQ.out.2.2.drew
          have l1 := hB6.load HK.out P (i := qp) (by omega)
          have l2 := hB6.load HK.out P (i := qp + 1) (by omega)
          have s1 := hB6.st1 HK.out H1.out P (i := qp + 1) (by omega) dk[qp]!
          have s2 := hB6.st2 HK.out H1.out P (i := qp + 1) (j := qp) (by omega) (by omega) dk[qp]! dk[qp + 1]!
          have HN : Hid _ := hB6.swap HK.out (i := qp + 1) (j := qp) (by omega) (by omega)
          have q1 : (enc dk[qp + 1]!).length = k := HK.out _
          have q2 : (enc dk[qp]!).length = k := HK.out _
          clear hB6
          generalize enc dk[qp + 1]! = cj at l1 l2 s1 s2 HN q1 q2
          generalize enc dk[qp]! = cp at l1 l2 s1 s2 HN q1 q2
          go_wp2_with fail
          go_big_region_o
          all_goals go_wp2
          go_roundw
          case rel => exact ⟨qp, _, by first | rfl | go_num | (congr 1; omega), by omega, by omega, by rw [size_swp]; exact hsk, HP.out, HR.out, HN.out⟩
          case measure => simp [intOf]
        · have hqj : q = j := by omega
          subst hqj
          have HM2 := Lib.hid (HM.out dk HQ.out.2.1)
          go_wp2
          refine bodyPost_ret (results_none rfl _ _ _) rfl ?_
          exact ⟨rfl, dk, HQ.out.1, HM2.out, HQ.out.2.2⟩
end Go.Proofs.YteolonjmgojoeaaGreatDoor
