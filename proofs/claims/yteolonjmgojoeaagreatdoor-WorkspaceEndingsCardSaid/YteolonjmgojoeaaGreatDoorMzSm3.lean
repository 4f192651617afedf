/- slices.symMergeCmpFunc at records: two sorted runs merged in place. -/
import Derived.Test.YteolonjmgojoeaaGreatDoorMgw2
import Derived.Test.YteolonjmgojoeaaGreatDoorMzSm1
import Derived.Test.YteolonjmgojoeaaGreatDoorMzSm2
import Derived.Deep.DeepCutAuto
namespace Go.Proofs.YteolonjmgojoeaaGreatDoor
open Go.RowKit Go.Lib
open Go.Sort hiding Below
set_option linter.unusedVariables false
set_option linter.unusedSimpArgs false
variable {P : Program} {α : Type} [Inhabited α]

set_option maxHeartbeats 8000000 in
set_option maxRecDepth 100000 in
theorem symMerge_rcd {k : Nat} (L : SFacts P 46 77 80 k) (F0 : P.funcs[98]? = some Tryz.f98)
    (F2 : P.funcs[85]? = some Tryz.f85) (F : P.funcs[61]? = some Tryz.f61)
    (enc : α → List Value) (hk : ∀ x, (enc x).length = k) (h1 : ∀ x, ∀ v ∈ enc x, v.oneCell' = true) (cf : α → α → Int) (hO : SWO (ltOf cf)) (g : Nat) (hC : CmpB P g enc cf) (w0 : World) (blk off C cap sz : Nat) (hsz : sz < 1000000000) :
    ∀ (N a m b : Nat) (d : Array α) (W : World), b - a ≤ N → SB enc k 77 w0 blk off C d W → a < m → m < b → d.size = sz → b ≤ sz → SortedIn (ltOf cf) a m d → SortedIn (ltOf cf) m b d →
    Calls P 61 #[.slice (some ⟨blk, off, none⟩) sz cap, .int .i64 a, .int .i64 m, .int .i64 b, .func (.func g) #[] #[]] W fun e w' => e = .returned (.tuple #[]) ∧ ∃ d', PermIn a b d d' ∧ SortedIn (ltOf cf) a b d' ∧ SB enc k 77 w0 blk off C d' w' := by
  intro N
  induction N with
  | zero => intro a m b d W h; omega
  | succ N ih =>
  intro a m b d W hN h ham hmb hds hb hsL hsR
  by_cases hm1 : m = a + 1
  · subst hm1
    have := symMerge_left_rcd L F enc hk h1 cf hO g hC w0 W blk off C cap a b d h hmb (by omega) (by omega) hsR
    rw [hds] at this
    exact this
  by_cases hb1 : b = m + 1
  · subst hb1
    have := symMerge_right_rcd L F enc hk h1 cf hO g hC w0 W blk off C cap a m d h (by omega) (by omega) (by omega) hsL
    rw [hds] at this
    exact this
  have mixed := L.mixed; have t0 := L.t0; have a0 := L.a0; have z0 := L.z0; have ti := L.ti; have ai := L.ai; have zi := L.zi; have vi := L.vi; have tb := L.tb; have ab := L.ab; have zb := L.zb; have tu := L.tu; have au := L.au; have zu := L.zu; have tS := L.tS; have aS := L.aS; have zS := L.zS; have aE := L.aE; have zE := L.zE; have tF := L.tF; have aF := L.aF; have zF := L.zF
  have HIH := Lib.hid ih
  have HCB := Lib.hid hC
  have HRT := Lib.hid (fun (d' : Array α) (W' : World) (a m b : Nat) (h : SB enc k 77 w0 blk off C d' W') (hd : d'.size = sz) (h2 : a < m) (h3 : m < b) (h4 : b ≤ d'.size) => rotate_rcd L F0 F2 enc hk h1 w0 W' blk off C cap a m b d' (.func (.func g) #[] #[]) h h2 h3 h4 (by omega))
  have eg := hC.1
  have e60 : ∀ args w, (callFunc 85 args).run P w = .ok (.enter 85 args) w := enters_of F2 (by kernel_rfl) rfl
  have e50 : ∀ args w, (callFunc 61 args).run P w = .ok (.enter 61 args) w := enters_of F (by kernel_rfl) rfl
  have HS := Lib.hid h
  have HK := Lib.hid hk
  have HL := Lib.hid hsL
  have HR := Lib.hid hsR
  have HO := Lib.hid hO
  have HDS := Lib.hid hds
  clear h hk h1 hC hsL hsR hO ih hds
  have wm : ((m : Int) - (a : Int) == 1) = false := by rw [beq_eq_false_iff_ne]; omega
  have wb : ((b : Int) - (m : Int) == 1) = false := by rw [beq_eq_false_iff_ne]; omega
  obtain ⟨mid, hmid⟩ : ∃ c : Nat, c = (a + b) / 2 := ⟨_, rfl⟩
  have hmz : ((a : Int) + (b : Int)) / 2 = (mid : Int) := by omega
  have hmid1 : a < mid := by omega
  have hmid2 : mid < b := by omega
  -- where the search begins
  obtain ⟨s0, r0, h0, hgt⟩ : ∃ s0 r0 : Nat, ((mid < m ∧ s0 = mid + m - b ∧ r0 = mid) ∨ (m ≤ mid ∧ s0 = a ∧ r0 = m)) ∧ s0 ≤ r0 := by
    by_cases c : mid < m
    · exact ⟨_, _, .inl ⟨c, rfl, rfl⟩, by omega⟩
    · exact ⟨_, _, .inr ⟨by omega, rfl, rfl⟩, by omega⟩
  have hb2 : b ≤ a + b := by omega
  have hlo : a ≤ s0 := by omega
  have hr0 : r0 ≤ m := by omega
  have hn1 : m + r0 ≤ mid + m := by omega
  have hn2 : mid + m ≤ b + s0 := by omega
  have H0 := Lib.hid h0
  have HMID := Lib.hid hmid
  have HBN : Hid (mid < m → b ≤ mid + m) := Lib.hid (by omega)
  clear hmid h0
  go_enter F, Tryz.ntmps61
  go_upto_if 140 with fail
  clear wm wb hmz
  go_cut [20, 21] (fun s t wx => s = .int .i64 s0 ∧ t = .int .i64 r0 ∧ Hid (SB enc k 77 w0 blk off C d wx))
  case first => as_aux_lemma =>
    rcases H0.out with ⟨c1, c2, c3⟩ | ⟨c1, c2, c3⟩
    · have q1 : decide ((mid : Int) < (m : Int)) = true := by simp; omega
      have HC2 := Lib.hid c2
      clear c2
      subst c3
      go_wp2_with fail
      go_meet
      exact ⟨by have := HC2.out; have := HBN.out c1; congr 1; omega, rfl, HS.out⟩
    · have q1 : decide ((mid : Int) < (m : Int)) = false := by simp; omega
      subst c2 c3
      go_wp2_with fail
      go_meet
      exact ⟨rfl, rfl, HS.out⟩
  case rest => as_aux_lemma =>
    obtain ⟨rfl, rfl, HSc⟩ := hcut
    go_wp2_with fail
    go_loopw [20, 21] (fun s t wr => ∃ (i j : Nat), s = .int .i64 i ∧ t = .int .i64 j ∧ s0 ≤ i ∧ i ≤ j ∧ j ≤ r0 ∧ Hid (Search (ltOf cf) d (mid + m) s0 r0 i j ∧ SB enc k 77 w0 blk off C d wr)) (fun s t _ => (intOf t).toNat - (intOf s).toNat)
    case atStart => exact ⟨s0, r0, rfl, rfl, by omega, by omega, by omega, ⟨by omega, by omega, by omega, fun x h1 h2 => by omega, fun x h1 h2 => by omega⟩, HSc.out⟩
    case round =>
      obtain ⟨i, j, rfl, rfl, hi, hij, hj, HI⟩ := hrel
      by_cases hlt : i < j
      · have hltz : (i : Int) < (j : Int) := by omega
        obtain ⟨c, hc⟩ : ∃ c : Nat, c = (i + j) / 2 := ⟨_, rfl⟩
        have hc1 : i ≤ c := by omega
        have hc2 : c < j := by omega
        have hcz : ((i : Int) + (j : Int)) / 2 = (c : Int) := by omega
        obtain ⟨p, hp⟩ : ∃ p : Nat, p = mid + m - 1 - c := ⟨_, rfl⟩
        have hpz : (mid : Int) + (m : Int) - 1 - (c : Int) = (p : Int) := by omega
        have zc : (c : Int) < (sz : Int) := by omega
        have zp : (p : Int) < (sz : Int) := by omega
        have lc := HI.out.2.lds HK.out P (i := c) (by rw [HDS.out]; omega)
        have la := HI.out.2.lds HK.out P (i := p) (by rw [HDS.out]; omega)
        obtain ⟨xc, hxc⟩ : ∃ x, d[c]! = x := ⟨_, rfl⟩
        obtain ⟨xp, hxp⟩ : ∃ x, d[p]! = x := ⟨_, rfl⟩
        rw [hxc] at lc
        rw [hxp] at la
        have HCG := Lib.hid (HCB.out.at_ xp xc wr)
        have HXC := Lib.hid hxc
        have HXP := Lib.hid (show d[mid + m - 1 - c]! = xp by rw [← hp]; exact hxp)
        clear hxc hxp hc hp
        by_cases hlv : cf xp xc < 0
        · have dlv : decide (cf xp xc < 0) = true := by simp; omega
          have HN := Lib.hid (Search.back HO.out HI.out.1 hc1 hc2 hlo hr0 hn1 hn2 HL.out HR.out (by rw [HXC.out, HXP.out]; exact dlv))
          clear hlv
          go_wp2_with fail
          clear hcz
          refine wp_region_quiet_below (by assumption) (by kernel_rfl) ?_
          repeat (first | go_big_quiet_step (exact HCG.out _ _) | quiet_step (exact HCG.out _ _))
          refine wpQuiet_nil ?_
          intro _ hw'
          obtain ⟨⟨dq, osq⟩, hw''⟩ := hw'
          subst hw''
          have HB5 := Lib.hid (HI.out.2.below (below_regrown wr dq osq))
          generalize grow (redrawn wr dq) osq = W5 at HB5 ⊢
          go_wp2
          go_roundw
          case rel => exact ⟨i, c, rfl, rfl, hi, by omega, by omega, HN.out, HB5.out⟩
          case measure => simp [intOf]; omega
        · have dlv : decide (cf xp xc < 0) = false := by simp; omega
          have HN := Lib.hid (Search.go HO.out HI.out.1 hc1 hc2 hlo hr0 hn1 hn2 HL.out HR.out (by rw [HXC.out, HXP.out]; exact dlv))
          clear hlv
          go_wp2_with fail
          clear hcz
          refine wp_region_quiet_below (by assumption) (by kernel_rfl) ?_
          repeat (first | go_big_quiet_step (exact HCG.out _ _) | quiet_step (exact HCG.out _ _))
          refine wpQuiet_nil ?_
          intro _ hw'
          obtain ⟨⟨dq, osq⟩, hw''⟩ := hw'
          subst hw''
          have HB5 := Lib.hid (HI.out.2.below (below_regrown wr dq osq))
          generalize grow (redrawn wr dq) osq = W5 at HB5 ⊢
          go_wp2
          go_roundw
          case rel => exact ⟨c + 1, j, by go_num, rfl, by omega, by omega, hj, HN.out, HB5.out⟩
          case measure => simp [intOf]; omega
      · have hji : j = i := by omega
        subst hji
        have HCUT := Lib.hid (Search.cut (a := a) (m := m) (b := b) HO.out ham hmb (by rw [← HMID.out]; exact H0.out) (by rw [← HMID.out]; exact HI.out.1))
        rw [← HMID.out] at HCUT
        obtain ⟨en, hen⟩ : ∃ p : Nat, p = mid + m - j := ⟨_, rfl⟩
        have hez : (mid : Int) + (m : Int) - (j : Int) = (en : Int) := by omega
        have hjm : j ≤ m := by omega
        have hme : m ≤ en := by omega
        have hjd : j ≤ mid := by omega
        have hde : mid ≤ en := by omega
        have hen2 : en ≤ b := by omega
        have HHV := Lib.hid (fun (d' : Array α) (hr : ∀ x, d'[x]! = rotAt d j m en x) => HCUT.out.halves HO.out ham hmb (by omega) (by omega) HL.out HR.out (by rw [← hen]; exact hr))
        rw [← hen] at HHV
        clear hen
        obtain ⟨b1, hb1⟩ : ∃ b : Bool, b = decide (j < m ∧ m < en) := ⟨_, rfl⟩
        have HHb1 := Lib.hid hb1
        clear hb1
        go_upto_region 39 with fail
        clear hez
        go_cut [185] (fun s wx => s = .bool b1 ∧ Hid (SB enc k 77 w0 blk off C d wx))
        case first => as_aux_lemma =>
          by_cases c2 : j < m
          · by_cases c3 : m < en
            · have q1 : decide (j < m) = true := by simp; omega
              have q2 : decide (m < en) = true := by simp; omega
              have HQ : Hid (true = b1) := Lib.hid (by rw [HHb1.out]; simp [c2, c3])
              clear c2 c3
              go_wp2_with fail
              go_meet
              exact ⟨by rw [← HQ.out], HI.out.2⟩
            · have q1 : decide (j < m) = true := by simp; omega
              have q2 : decide (m < en) = false := by simp; omega
              have HQ : Hid (false = b1) := Lib.hid (by rw [HHb1.out]; simp [c2, c3])
              clear c2 c3
              go_wp2_with fail
              go_meet
              exact ⟨by rw [← HQ.out], HI.out.2⟩
          · have q1 : decide (j < m) = false := by simp; omega
            have HQ : Hid (false = b1) := Lib.hid (by rw [HHb1.out]; simp [c2])
            clear c2
            go_wp2_with fail
            go_meet
            exact ⟨by rw [← HQ.out], HI.out.2⟩
        case rest => as_aux_lemma =>
          obtain ⟨rfl, HB0⟩ := hcut
          clear HI
          go_upto_if 185 with fail
          go_cut [] (fun wx => Hid (∃ d', PermIn a b d d' ∧ (∀ x, d'[x]! = rotAt d j m en x) ∧ SB enc k 77 w0 blk off C d' wx))
          case first => as_aux_lemma =>
            cases b1 with
            | true =>
              have c1 : j < m ∧ m < en := of_decide_eq_true HHb1.out.symm
              have HW := Lib.hid (HRT.out d wc j m en HB0.out HDS.out c1.1 c1.2 (by rw [HDS.out]; omega))
              rw [HDS.out] at HW
              clear c1
              go_wp2_with fail
              refine HW.out.mono ?_
              rintro e w' ⟨rfl, d', k1, k2, k3⟩
              have HB : Hid (PermIn j en d d' ∧ (∀ x, d'[x]! = rotAt d j m en x) ∧ SB enc k 77 w0 blk off C d' w') := Lib.hid ⟨k1, k2, k3⟩
              clear k1 k2 k3
              go_wp2_with fail
              go_meet
              exact ⟨d', permIn_mono _ _ _ _ _ _ (by omega) (by omega) (by rw [HDS.out]; omega) HB.out.1, HB.out.2.1, HB.out.2.2⟩
            | false =>
              have c1 : ¬ (j < m ∧ m < en) := of_decide_eq_false HHb1.out.symm
              have HB : Hid (∀ x, d[x]! = rotAt d j m en x) := Lib.hid (rot_none (by omega))
              clear c1
              go_wp2_with fail
              go_meet
              exact ⟨d, permIn_refl _ _ _, HB.out, HB0.out⟩
          case rest => as_aux_lemma =>
            obtain ⟨d1, hp1, hr1, hs1⟩ := Hid.out hcut
            have HP1 := Lib.hid hp1
            have HS1 := Lib.hid hs1
            have hds1 : d1.size = sz := hp1.1.trans HDS.out
            have HD1 := Lib.hid hds1
            have HV := Lib.hid (HHV.out d1 hr1)
            clear hcut hp1 hr1 hs1 hds1
            obtain ⟨b2, hb2⟩ : ∃ b : Bool, b = decide (a < j ∧ j < mid) := ⟨_, rfl⟩
            have HHb2 := Lib.hid hb2
            clear hb2
            go_upto_region 41 with fail
            go_cut [199] (fun s wx => s = .bool b2 ∧ Hid (SB enc k 77 w0 blk off C d1 wx))
            case first => as_aux_lemma =>
              by_cases c2 : a < j
              · by_cases c3 : j < mid
                · have q1 : decide (a < j) = true := by simp; omega
                  have q2 : decide (j < mid) = true := by simp; omega
                  have HQ : Hid (true = b2) := Lib.hid (by rw [HHb2.out]; simp [c2, c3])
                  clear c2 c3
                  go_wp2_with fail
                  go_meet
                  exact ⟨by rw [← HQ.out], HS1.out⟩
                · have q1 : decide (a < j) = true := by simp; omega
                  have q2 : decide (j < mid) = false := by simp; omega
                  have HQ : Hid (false = b2) := Lib.hid (by rw [HHb2.out]; simp [c2, c3])
                  clear c2 c3
                  go_wp2_with fail
                  go_meet
                  exact ⟨by rw [← HQ.out], HS1.out⟩
              · have q1 : decide (a < j) = false := by simp; omega
                have HQ : Hid (false = b2) := Lib.hid (by rw [HHb2.out]; simp [c2])
                clear c2
                go_wp2_with fail
                go_meet
                exact ⟨by rw [← HQ.out], HS1.out⟩
            case rest => as_aux_lemma =>
              obtain ⟨rfl, HB1⟩ := hcut
              clear HS1
              go_upto_if 199 with fail
              go_cut [] (fun wx => Hid (∃ d', PermIn a mid d1 d' ∧ SortedIn (ltOf cf) a mid d' ∧ SB enc k 77 w0 blk off C d' wx))
              case first => as_aux_lemma =>
                cases b2 with
                | true =>
                  have c1 : a < j ∧ j < mid := of_decide_eq_true HHb2.out.symm
                  have HW := Lib.hid (HIH.out a j mid d1 wc (by omega) HB1.out c1.1 c1.2 HD1.out (by omega) HV.out.1 HV.out.2.1)
                  clear c1
                  go_wp2_with fail
                  refine HW.out.mono ?_
                  rintro e w' ⟨rfl, hk2⟩
                  have HB := Lib.hid hk2
                  clear hk2
                  go_wp2_with fail
                  go_meet
                  exact HB.out
                | false =>
                  have c1 : ¬ (a < j ∧ j < mid) := of_decide_eq_false HHb2.out.symm
                  have HB : Hid (SortedIn (ltOf cf) a mid d1) := Lib.hid (by
                    by_cases e : a < j
                    · have : j = mid := by omega
                      rw [← this]; exact HV.out.1
                    · have : j = a := by omega
                      rw [← this]; exact HV.out.2.1)
                  clear c1
                  go_wp2_with fail
                  go_meet
                  exact ⟨d1, permIn_refl _ _ _, HB.out, HB1.out⟩
              case rest => as_aux_lemma =>
                obtain ⟨d2, hp2, hso2, hs2⟩ := Hid.out hcut
                have HP2 := Lib.hid hp2
                have HSO2 := Lib.hid hso2
                have HS2 := Lib.hid hs2
                have hds2 : d2.size = sz := hp2.1.trans HD1.out
                have HD2 := Lib.hid hds2
                have HJ := Lib.hid (fun (d' : Array α) (h1 : PermIn mid b d2 d') (h2 : SortedIn (ltOf cf) mid b d') => halves_join HO.out (by omega) (by omega) (by rw [HD1.out]; omega) HV.out.2.2.2.2 HP2.out HSO2.out h1 h2)
                have HVa : Hid (SortedIn (ltOf cf) mid en d2) := Lib.hid (SortedIn.same HV.out.2.2.1 fun x h1 h2 => HP2.out.2.1 x (.inr h1))
                have HVb : Hid (SortedIn (ltOf cf) en b d2) := Lib.hid (SortedIn.same HV.out.2.2.2.1 fun x h1 h2 => HP2.out.2.1 x (.inr (by omega)))
                clear hcut hp2 hso2 hs2 hds2
                by_cases c1 : mid < en ∧ en < b
                · have q1 : decide (mid < en) = true := by simp; omega
                  have q2 : decide (en < b) = true := by simp; omega
                  have HW := Lib.hid (HIH.out mid en b d2 wc (by omega) HS2.out c1.1 c1.2 HD2.out (by omega) HVa.out HVb.out)
                  go_wp2_with fail
                  refine HW.out.mono ?_
                  rintro e w' ⟨rfl, d3, k1, k2, k3⟩
                  have HB := Lib.hid (HJ.out d3 k1 k2)
                  have HB3 := Lib.hid k3
                  clear k1 k2 k3
                  go_wp2_with fail
                  go_end0
                  exact ⟨rfl, d3, permIn_trans _ _ _ _ _ HP1.out HB.out.1, HB.out.2, HB3.out⟩
                · have HB := Lib.hid (HJ.out d2 (permIn_refl _ _ _) (by
                    by_cases e : mid < en
                    · have : en = b := by omega
                      rw [← this]; exact HVa.out
                    · have : en = mid := by omega
                      rw [← this]; exact HVb.out))
                  by_cases c2 : mid < en
                  · have q1 : decide (mid < en) = true := by simp; omega
                    have q2 : decide (en < b) = false := by simp; omega
                    go_wp2_with fail
                    go_end0
                    exact ⟨rfl, d2, permIn_trans _ _ _ _ _ HP1.out HB.out.1, HB.out.2, HS2.out⟩
                  · have q1 : decide (mid < en) = false := by simp; omega
                    go_wp2_with fail
                    go_end0
                    exact ⟨rfl, d2, permIn_trans _ _ _ _ _ HP1.out HB.out.1, HB.out.2, HS2.out⟩
end Go.Proofs.YteolonjmgojoeaaGreatDoor
