/- Two neighbouring ranges of structs exchanged: slices.rotateCmpFunc at records. -/
import Derived.Test.YtnblfaagchflaaaGreatDoorMgw8
import Derived.Test.YtnblfaagchflaaaGreatDoorMgw6
import Derived.Test.YtnblfaagchflaaaGreatDoorMgw7
import Derived.Deep.DeepCutAuto
namespace Go.Proofs.YtnblfaagchflaaaGreatDoor
open Go.RowKit Go.Lib
open Go.Sort hiding Below
set_option linter.unusedVariables false
set_option linter.unusedSimpArgs false
variable {P : Program} {α : Type} [Inhabited α]

set_option maxHeartbeats 4000000 in
set_option maxRecDepth 100000 in
theorem rotate_rcd {k : Nat} (L : SFacts P 29 57 87 k) (F : P.funcs[138]? = some Tryz.f138)
    (F2 : P.funcs[131]? = some Tryz.f131)
    (enc : α → List Value) (hk : ∀ x, (enc x).length = k) (h1 : ∀ x, ∀ v ∈ enc x, v.oneCell' = true) (w0 W : World) (blk off C cap a m b : Nat) (d : Array α) (cv : Value) (h : SB enc k 57 w0 blk off C d W)
    (ham : a < m) (hmb : m < b) (hb : b ≤ d.size) (hsz : d.size < 4611686018427387904) :
    Calls P 131 #[.slice (some ⟨blk, off, none⟩) d.size cap, .int .i64 a, .int .i64 m, .int .i64 b, cv] W fun e w' => e = .returned (.tuple #[]) ∧ ∃ d', PermIn a b d d' ∧ (∀ x, d'[x]! = rotAt d a m b x) ∧ SB enc k 57 w0 blk off C d' w' := by
  have mixed := L.mixed; have t0 := L.t0; have a0 := L.a0; have z0 := L.z0; have ti := L.ti; have ai := L.ai; have zi := L.zi; have vi := L.vi; have tb := L.tb; have ab := L.ab; have zb := L.zb; have tu := L.tu; have au := L.au; have zu := L.zu; have tS := L.tS; have aS := L.aS; have zS := L.zS; have aE := L.aE; have zE := L.zE; have tF := L.tF; have aF := L.aF; have zF := L.zF
  have HSW := Lib.hid (fun (d' : Array α) (W' : World) (a b n : Nat) (h : SB enc k 57 w0 blk off C d' W') (hd : d'.size = d.size) (h2 : a + n ≤ b) (h3 : b + n ≤ d'.size) => swapRange_rcd L F enc hk h1 w0 W' blk off C cap a b n d' cv h h2 h3 (by omega))
  have HS := Lib.hid h
  have e65 : ∀ args w, (callFunc 138 args).run P w = .ok (.enter 138 args) w := enters_of F (by kernel_rfl) rfl
  have w1 : IntKind.i64.wrap ((m : Int) - (a : Int)) = ((m - a : Nat) : Int) := by rw [IntKind.wrap_i64]; omega
  have w2 : IntKind.i64.wrap ((b : Int) - (m : Int)) = ((b - m : Nat) : Int) := by rw [IntKind.wrap_i64]; omega
  clear h hk h1
  go_enter F2, Tryz.ntmps131
  go_wp2
  clear w1 w2
  go_loopw [10, 11] (fun s t wr => ∃ (i j : Nat) (d' : Array α), s = .int .i64 i ∧ t = .int .i64 j ∧ Hid (RotI d a m b d' i j ∧ SB enc k 57 w0 blk off C d' wr)) (fun s t _ => (intOf s).toNat + (intOf t).toNat)
  case atStart => exact ⟨_, _, d, rfl, rfl, RotI.start ham hmb, HS.out⟩
  case round =>
    obtain ⟨i, j, d', rfl, rfl, HI⟩ := hrel
    have hi0 := HI.out.1.1
    have hj0 := HI.out.1.2.1
    have hi1 := HI.out.1.2.2.1
    have hj1 := HI.out.1.2.2.2.1
    have hds : d'.size = d.size := HI.out.1.2.2.2.2.1.1
    have w1 : IntKind.i64.wrap ((m : Int) - (i : Int)) = ((m - i : Nat) : Int) := by rw [IntKind.wrap_i64]; omega
    by_cases hne : i = j
    · subst hne
      have HF := Lib.hid (HI.out.1.fin ham hmb hb)
      have HW := Lib.hid (HSW.out d' wr (m - i) m i HI.out.2 hds (by omega) (by omega))
      rw [hds] at HW
      go_wp2_with fail
      refine HW.out.mono ?_
      rintro e w' ⟨rfl, hB⟩
      have HB := Lib.hid hB
      clear hB
      go_wp2_with fail
      go_end0
      exact ⟨rfl, _, HF.out.1, HF.out.2, HB.out⟩
    · have q1 : ((i : Int) != (j : Int)) = true := by rw [bne_iff_ne]; omega
      by_cases hij : j < i
      · have q2 : decide ((j : Int) < (i : Int)) = true := by simp; omega
        have HN := Lib.hid (HI.out.1.left ham hmb hb hij)
        have HW := Lib.hid (HSW.out d' wr (m - i) m j HI.out.2 hds (by omega) (by omega))
        rw [hds] at HW
        have w2 : IntKind.i64.wrap ((i : Int) - (j : Int)) = ((i - j : Nat) : Int) := by rw [IntKind.wrap_i64]; omega
        go_wp2_with fail
        refine HW.out.mono ?_
        rintro e w' ⟨rfl, hB⟩
        have HB := Lib.hid hB
        clear hB
        go_wp2_with fail
        go_roundw
        case rel => exact ⟨i - j, j, _, rfl, rfl, HN.out, HB.out⟩
        case measure => simp [intOf]; omega
      · have q2 : decide ((j : Int) < (i : Int)) = false := by simp; omega
        have HN := Lib.hid (HI.out.1.right ham hmb hb (by omega))
        have HW := Lib.hid (HSW.out d' wr (m - i) (m + j - i) i HI.out.2 hds (by omega) (by omega))
        rw [hds] at HW
        have w2 : IntKind.i64.wrap ((j : Int) - (i : Int)) = ((j - i : Nat) : Int) := by rw [IntKind.wrap_i64]; omega
        have c1 : ((m + j - i : Nat) : Int) = (m : Int) + (j : Int) - (i : Int) := by omega
        rw [c1] at HW
        clear c1
        go_wp2_with fail
        refine HW.out.mono ?_
        rintro e w' ⟨rfl, hB⟩
        have HB := Lib.hid hB
        clear hB
        go_wp2_with fail
        go_roundw
        case rel => exact ⟨i, j - i, _, rfl, rfl, HN.out, HB.out⟩
        case measure => simp [intOf]; omega
end Go.Proofs.YtnblfaagchflaaaGreatDoor
/- slices.symMergeCmpFunc at records: two sorted runs merged in place. -/
namespace Go.Proofs.YtnblfaagchflaaaGreatDoor
open Go.RowKit Go.Lib
open Go.Sort hiding Below
set_option linter.unusedVariables false
set_option linter.unusedSimpArgs false
variable {P : Program} {α : Type} [Inhabited α]

set_option maxHeartbeats 8000000 in
set_option maxRecDepth 100000 in
theorem symMerge_rcd {k : Nat} (L : SFacts P 29 57 87 k) (F0 : P.funcs[138]? = some Tryz.f138)
    (F2 : P.funcs[131]? = some Tryz.f131) (F : P.funcs[109]? = some Tryz.f109)
    (enc : α → List Value) (hk : ∀ x, (enc x).length = k) (h1 : ∀ x, ∀ v ∈ enc x, v.oneCell' = true) (cf : α → α → Int) (hO : SWO (ltOf cf)) (g : Nat) (hC : CmpB P g enc cf) (w0 : World) (blk off C cap sz : Nat) (hsz : sz < 1000000000) :
    ∀ (N a m b : Nat) (d : Array α) (W : World), b - a ≤ N → SB enc k 57 w0 blk off C d W → a < m → m < b → d.size = sz → b ≤ sz → SortedIn (ltOf cf) a m d → SortedIn (ltOf cf) m b d →
    Calls P 109 #[.slice (some ⟨blk, off, none⟩) sz cap, .int .i64 a, .int .i64 m, .int .i64 b, .func (.func g) #[] #[]] W fun e w' => e = .returned (.tuple #[]) ∧ ∃ d', PermIn a b d d' ∧ SortedIn (ltOf cf) a b d' ∧ SB enc k 57 w0 blk off C d' w' := by
  intro N
  induction N with
  | zero => intro a m b d W h; omega
  | succ N ih =>
  intro a m b d W hN h ham hmb hds hb hsL hsR
  by_cases hm1 : m = a + 1
  · subst hm1
    have := symMerge_left_rcd L F enc hk h1 cf hO g hC w0 W blk off C cap a b d h hmb (by omega) (by omega) hsR
    rw [hds] at this
    exact this
  by_cases hb1 : b = m + 1
  · subst hb1
    have := symMerge_right_rcd L F enc hk h1 cf hO g hC w0 W blk off C cap a m d h (by omega) (by omega) (by omega) hsL
    rw [hds] at this
    exact this
  have mixed := L.mixed; have t0 := L.t0; have a0 := L.a0; have z0 := L.z0; have ti := L.ti; have ai := L.ai; have zi := L.zi; have vi := L.vi; have tb := L.tb; have ab := L.ab; have zb := L.zb; have tu := L.tu; have au := L.au; have zu := L.zu; have tS := L.tS; have aS := L.aS; have zS := L.zS; have aE := L.aE; have zE := L.zE; have tF := L.tF; have aF := L.aF; have zF := L.zF
  have HIH := Lib.hid ih
  have HCB := Lib.hid hC
  have HRT := Lib.hid (fun (d' : Array α) (W' : World) (a m b : Nat) (h : SB enc k 57 w0 blk off C d' W') (hd : d'.size = sz) (h2 : a < m) (h3 : m < b) (h4 : b ≤ d'.size) => rotate_rcd L F0 F2 enc hk h1 w0 W' blk off C cap a m b d' (.func (.func g) #[] #[]) h h2 h3 h4 (by omega))
  have eg := hC.1
  have e60 : ∀ args w, (callFunc 131 args).run P w = .ok (.enter 131 args) w := enters_of F2 (by kernel_rfl) rfl
  have e50 : ∀ args w, (callFunc 109 args).run P w = .ok (.enter 109 args) w := enters_of F (by kernel_rfl) rfl
  have HS := Lib.hid h
  have HK := Lib.hid hk
  have HL := Lib.hid hsL
  have HR := Lib.hid hsR
  have HO := Lib.hid hO
  have HDS := Lib.hid hds
  clear h hk h1 hC hsL hsR hO ih hds
  have wm : ((m : Int) - (a : Int) == 1) = false := by rw [beq_eq_false_iff_ne]; omega
  have wb : ((b : Int) - (m : Int) == 1) = false := by rw [beq_eq_false_iff_ne]; omega
  obtain ⟨mid, hmid⟩ : ∃ c : Nat, c = (a + b) / 2 := ⟨_, rfl⟩
  have hmz : ((a : Int) + (b : Int)) / 2 = (mid : Int) := by omega
  have hmid1 : a < mid := by omega
  have hmid2 : mid < b := by omega
  -- where the search begins
  obtain ⟨s0, r0, h0, hgt⟩ : ∃ s0 r0 : Nat, ((mid < m ∧ s0 = mid + m - b ∧ r0 = mid) ∨ (m ≤ mid ∧ s0 = a ∧ r0 = m)) ∧ s0 ≤ r0 := by
    by_cases c : mid < m
    · exact ⟨_, _, .inl ⟨c, rfl, rfl⟩, by omega⟩
    · exact ⟨_, _, .inr ⟨by omega, rfl, rfl⟩, by omega⟩
  have hb2 : b ≤ a + b := by omega
  have hlo : a ≤ s0 := by omega
  have hr0 : r0 ≤ m := by omega
  have hn1 : m + r0 ≤ mid + m := by omega
  have hn2 : mid + m ≤ b + s0 := by omega
  have H0 := Lib.hid h0
  have HMID := Lib.hid hmid
  have HBN : Hid (mid < m → b ≤ mid + m) := Lib.hid (by omega)
  clear hmid h0
  go_enter F, Tryz.ntmps109
  go_upto_if 140 with fail
  clear wm wb hmz
  go_cut [20, 21] (fun s t wx => s = .int .i64 s0 ∧ t = .int .i64 r0 ∧ Hid (SB enc k 57 w0 blk off C d wx))
  case first => as_aux_lemma =>
    rcases H0.out with ⟨c1, c2, c3⟩ | ⟨c1, c2, c3⟩
    · have q1 : decide ((mid : Int) < (m : Int)) = true := by simp; omega
      have HC2 := Lib.hid c2
      clear c2
      subst c3
      go_wp2_with fail
      go_meet
      exact ⟨by have := HC2.out; have := HBN.out c1; congr 1; omega, rfl, HS.out⟩
    · have q1 : decide ((mid : Int) < (m : Int)) = false := by simp; omega
      subst c2 c3
      go_wp2_with fail
      go_meet
      exact ⟨rfl, rfl, HS.out⟩
  case rest => as_aux_lemma =>
    obtain ⟨rfl, rfl, HSc⟩ := hcut
    go_wp2_with fail
    go_loopw [20, 21] (fun s t wr => ∃ (i j : Nat), s = .int .i64 i ∧ t = .int .i64 j ∧ s0 ≤ i ∧ i ≤ j ∧ j ≤ r0 ∧ Hid (Search (ltOf cf) d (mid + m) s0 r0 i j ∧ SB enc k 57 w0 blk off C d wr)) (fun s t _ => (intOf t).toNat - (intOf s).toNat)
    case atStart => exact ⟨s0, r0, rfl, rfl, by omega, by omega, by omega, ⟨by omega, by omega, by omega, fun x h1 h2 => by omega, fun x h1 h2 => by omega⟩, HSc.out⟩
    case round =>
      obtain ⟨i, j, rfl, rfl, hi, hij, hj, HI⟩ := hrel
      by_cases hlt : i < j
      · have hltz : (i : Int) < (j : Int) := by omega
        obtain ⟨c, hc⟩ : ∃ c : Nat, c = (i + j) / 2 := ⟨_, rfl⟩
        have hc1 : i ≤ c := by omega
        have hc2 : c < j := by omega
        have hcz : ((i : Int) + (j : Int)) / 2 = (c : Int) := by omega
        obtain ⟨p, hp⟩ : ∃ p : Nat, p = mid + m - 1 - c := ⟨_, rfl⟩
        have hpz : (mid : Int) + (m : Int) - 1 - (c : Int) = (p : Int) := by omega
        have zc : (c : Int) < (sz : Int) := by omega
        have zp : (p : Int) < (sz : Int) := by omega
        have lc := HI.out.2.lds HK.out P (i := c) (by rw [HDS.out]; omega)
        have la := HI.out.2.lds HK.out P (i := p) (by rw [HDS.out]; omega)
        obtain ⟨xc, hxc⟩ : ∃ x, d[c]! = x := ⟨_, rfl⟩
        obtain ⟨xp, hxp⟩ : ∃ x, d[p]! = x := ⟨_, rfl⟩
        rw [hxc] at lc
        rw [hxp] at la
        have HCG := Lib.hid (HCB.out.at_ xp xc wr)
        have HXC := Lib.hid hxc
        have HXP := Lib.hid (show d[mid + m - 1 - c]! = xp by rw [← hp]; exact hxp)
        clear hxc hxp hc hp
        by_cases hlv : cf xp xc < 0
        · have dlv : decide (cf xp xc < 0) = true := by simp; omega
          have HN := Lib.hid (Search.back HO.out HI.out.1 hc1 hc2 hlo hr0 hn1 hn2 HL.out HR.out (by rw [HXC.out, HXP.out]; exact dlv))
          clear hlv
          go_wp2_with fail
          clear hcz
          refine wp_region_quiet_below (by assumption) (by kernel_rfl) ?_
          repeat (first | go_big_quiet_step (exact HCG.out _ _) | quiet_step (exact HCG.out _ _))
          refine wpQuiet_nil ?_
          intro _ hw'
          obtain ⟨⟨dq, osq⟩, hw''⟩ := hw'
          subst hw''
          have HB5 := Lib.hid (HI.out.2.below (below_regrown wr dq osq))
          generalize grow (redrawn wr dq) osq = W5 at HB5 ⊢
          go_wp2
          go_roundw
          case rel => exact ⟨i, c, rfl, rfl, hi, by omega, by omega, HN.out, HB5.out⟩
          case measure => simp [intOf]; omega
        · have dlv : decide (cf xp xc < 0) = false := by simp; omega
          have HN := Lib.hid (Search.go HO.out HI.out.1 hc1 hc2 hlo hr0 hn1 hn2 HL.out HR.out (by rw [HXC.out, HXP.out]; exact dlv))
          clear hlv
          go_wp2_with fail
          clear hcz
          refine wp_region_quiet_below (by assumption) (by kernel_rfl) ?_
          repeat (first | go_big_quiet_step (exact HCG.out _ _) | quiet_step (exact HCG.out _ _))
          refine wpQuiet_nil ?_
          intro _ hw'
          obtain ⟨⟨dq, osq⟩, hw''⟩ := hw'
          subst hw''
          have HB5 := Lib.hid (HI.out.2.below (below_regrown wr dq osq))
          generalize grow (redrawn wr dq) osq = W5 at HB5 ⊢
          go_wp2
          go_roundw
          case rel => exact ⟨c + 1, j, by go_num, rfl, by omega, by omega, hj, HN.out, HB5.out⟩
          case measure => simp [intOf]; omega
      · have hji : j = i := by omega
        subst hji
        have HCUT := Lib.hid (Search.cut (a := a) (m := m) (b := b) HO.out ham hmb (by rw [← HMID.out]; exact H0.out) (by rw [← HMID.out]; exact HI.out.1))
        rw [← HMID.out] at HCUT
        obtain ⟨en, hen⟩ : ∃ p : Nat, p = mid + m - j := ⟨_, rfl⟩
        have hez : (mid : Int) + (m : Int) - (j : Int) = (en : Int) := by omega
        have hjm : j ≤ m := by omega
        have hme : m ≤ en := by omega
        have hjd : j ≤ mid := by omega
        have hde : mid ≤ en := by omega
        have hen2 : en ≤ b := by omega
        have HHV := Lib.hid (fun (d' : Array α) (hr : ∀ x, d'[x]! = rotAt d j m en x) => HCUT.out.halves HO.out ham hmb (by omega) (by omega) HL.out HR.out (by rw [← hen]; exact hr))
        rw [← hen] at HHV
        clear hen
        obtain ⟨b1, hb1⟩ : ∃ b : Bool, b = decide (j < m ∧ m < en) := ⟨_, rfl⟩
        have HHb1 := Lib.hid hb1
        clear hb1
        go_upto_region 39 with fail
        clear hez
        go_cut [185] (fun s wx => s = .bool b1 ∧ Hid (SB enc k 57 w0 blk off C d wx))
        case first => as_aux_lemma =>
          by_cases c2 : j < m
          · by_cases c3 : m < en
            · have q1 : decide (j < m) = true := by simp; omega
              have q2 : decide (m < en) = true := by simp; omega
              have HQ : Hid (true = b1) := Lib.hid (by rw [HHb1.out]; simp [c2, c3])
              clear c2 c3
              go_wp2_with fail
              go_meet
              exact ⟨by rw [← HQ.out], HI.out.2⟩
            · have q1 : decide (j < m) = true := by simp; omega
              have q2 : decide (m < en) = false := by simp; omega
              have HQ : Hid (false = b1) := Lib.hid (by rw [HHb1.out]; simp [c2, c3])
              clear c2 c3
              go_wp2_with fail
              go_meet
              exact ⟨by rw [← HQ.out], HI.out.2⟩
          · have q1 : decide (j < m) = false := by simp; omega
            have HQ : Hid (false = b1) := Lib.hid (by rw [HHb1.out]; simp [c2])
            clear c2
            go_wp2_with fail
            go_meet
            exact ⟨by rw [← HQ.out], HI.out.2⟩
        case rest => as_aux_lemma =>
          obtain ⟨rfl, HB0⟩ := hcut
          clear HI
          go_upto_if 185 with fail
          go_cut [] (fun wx => Hid (∃ d', PermIn a b d d' ∧ (∀ x, d'[x]! = rotAt d j m en x) ∧ SB enc k 57 w0 blk off C d' wx))
          case first => as_aux_lemma =>
            cases b1 with
            | true =>
              have c1 : j < m ∧ m < en := of_decide_eq_true HHb1.out.symm
              have HW := Lib.hid (HRT.out d wc j m en HB0.out HDS.out c1.1 c1.2 (by rw [HDS.out]; omega))
              rw [HDS.out] at HW
              clear c1
              go_wp2_with fail
              refine HW.out.mono ?_
              rintro e w' ⟨rfl, d', k1, k2, k3⟩
              have HB : Hid (PermIn j en d d' ∧ (∀ x, d'[x]! = rotAt d j m en x) ∧ SB enc k 57 w0 blk off C d' w') := Lib.hid ⟨k1, k2, k3⟩
              clear k1 k2 k3
              go_wp2_with fail
              go_meet
              exact ⟨d', permIn_mono _ _ _ _ _ _ (by omega) (by omega) (by rw [HDS.out]; omega) HB.out.1, HB.out.2.1, HB.out.2.2⟩
            | false =>
              have c1 : ¬ (j < m ∧ m < en) := of_decide_eq_false HHb1.out.symm
              have HB : Hid (∀ x, d[x]! = rotAt d j m en x) := Lib.hid (rot_none (by omega))
              clear c1
              go_wp2_with fail
              go_meet
              exact ⟨d, permIn_refl _ _ _, HB.out, HB0.out⟩
          case rest => as_aux_lemma =>
            obtain ⟨d1, hp1, hr1, hs1⟩ := Hid.out hcut
            have HP1 := Lib.hid hp1
            have HS1 := Lib.hid hs1
            have hds1 : d1.size = sz := hp1.1.trans HDS.out
            have HD1 := Lib.hid hds1
            have HV := Lib.hid (HHV.out d1 hr1)
            clear hcut hp1 hr1 hs1 hds1
            obtain ⟨b2, hb2⟩ : ∃ b : Bool, b = decide (a < j ∧ j < mid) := ⟨_, rfl⟩
            have HHb2 := Lib.hid hb2
            clear hb2
            go_upto_region 41 with fail
            go_cut [199] (fun s wx => s = .bool b2 ∧ Hid (SB enc k 57 w0 blk off C d1 wx))
            case first => as_aux_lemma =>
              by_cases c2 : a < j
              · by_cases c3 : j < mid
                · have q1 : decide (a < j) = true := by simp; omega
                  have q2 : decide (j < mid) = true := by simp; omega
                  have HQ : Hid (true = b2) := Lib.hid (by rw [HHb2.out]; simp [c2, c3])
                  clear c2 c3
                  go_wp2_with fail
                  go_meet
                  exact ⟨by rw [← HQ.out], HS1.out⟩
                · have q1 : decide (a < j) = true := by simp; omega
                  have q2 : decide (j < mid) = false := by simp; omega
                  have HQ : Hid (false = b2) := Lib.hid (by rw [HHb2.out]; simp [c2, c3])
                  clear c2 c3
                  go_wp2_with fail
                  go_meet
                  exact ⟨by rw [← HQ.out], HS1.out⟩
              · have q1 : decide (a < j) = false := by simp; omega
                have HQ : Hid (false = b2) := Lib.hid (by rw [HHb2.out]; simp [c2])
                clear c2
                go_wp2_with fail
                go_meet
                exact ⟨by rw [← HQ.out], HS1.out⟩
            case rest => as_aux_lemma =>
              obtain ⟨rfl, HB1⟩ := hcut
              clear HS1
              go_upto_if 199 with fail
              go_cut [] (fun wx => Hid (∃ d', PermIn a mid d1 d' ∧ SortedIn (ltOf cf) a mid d' ∧ SB enc k 57 w0 blk off C d' wx))
              case first => as_aux_lemma =>
                cases b2 with
                | true =>
                  have c1 : a < j ∧ j < mid := of_decide_eq_true HHb2.out.symm
                  have HW := Lib.hid (HIH.out a j mid d1 wc (by omega) HB1.out c1.1 c1.2 HD1.out (by omega) HV.out.1 HV.out.2.1)
                  clear c1
                  go_wp2_with fail
                  refine HW.out.mono ?_
                  rintro e w' ⟨rfl, hk2⟩
                  have HB := Lib.hid hk2
                  clear hk2
                  go_wp2_with fail
                  go_meet
                  exact HB.out
                | false =>
                  have c1 : ¬ (a < j ∧ j < mid) := of_decide_eq_false HHb2.out.symm
                  have HB : Hid (SortedIn (ltOf cf) a mid d1) := Lib.hid (by
                    by_cases e : a < j
                    · have : j = mid := by omega
                      rw [← this]; exact HV.out.1
                    · have : j = a := by omega
                      rw [← this]; exact HV.out.2.1)
                  clear c1
                  go_wp2_with fail
                  go_meet
                  exact ⟨d1, permIn_refl _ _ _, HB.out, HB1.out⟩
              case rest => as_aux_lemma =>
                obtain ⟨d2, hp2, hso2, hs2⟩ := Hid.out hcut
                have HP2 := Lib.hid hp2
                have HSO2 := Lib.hid hso2
                have HS2 := Lib.hid hs2
                have hds2 : d2.size = sz := hp2.1.trans HD1.out
                have HD2 := Lib.hid hds2
                have HJ := Lib.hid (fun (d' : Array α) (h1 : PermIn mid b d2 d') (h2 : SortedIn (ltOf cf) mid b d') => halves_join HO.out (by omega) (by omega) (by rw [HD1.out]; omega) HV.out.2.2.2.2 HP2.out HSO2.out h1 h2)
                have HVa : Hid (SortedIn (ltOf cf) mid en d2) := Lib.hid (SortedIn.same HV.out.2.2.1 fun x h1 h2 => HP2.out.2.1 x (.inr h1))
                have HVb : Hid (SortedIn (ltOf cf) en b d2) := Lib.hid (SortedIn.same HV.out.2.2.2.1 fun x h1 h2 => HP2.out.2.1 x (.inr (by omega)))
                clear hcut hp2 hso2 hs2 hds2
                by_cases c1 : mid < en ∧ en < b
                · have q1 : decide (mid < en) = true := by simp; omega
                  have q2 : decide (en < b) = true := by simp; omega
                  have HW := Lib.hid (HIH.out mid en b d2 wc (by omega) HS2.out c1.1 c1.2 HD2.out (by omega) HVa.out HVb.out)
                  go_wp2_with fail
                  refine HW.out.mono ?_
                  rintro e w' ⟨rfl, d3, k1, k2, k3⟩
                  have HB := Lib.hid (HJ.out d3 k1 k2)
                  have HB3 := Lib.hid k3
                  clear k1 k2 k3
                  go_wp2_with fail
                  go_end0
                  exact ⟨rfl, d3, permIn_trans _ _ _ _ _ HP1.out HB.out.1, HB.out.2, HB3.out⟩
                · have HB := Lib.hid (HJ.out d2 (permIn_refl _ _ _) (by
                    by_cases e : mid < en
                    · have : en = b := by omega
                      rw [← this]; exact HVa.out
                    · have : en = mid := by omega
                      rw [← this]; exact HVb.out))
                  by_cases c2 : mid < en
                  · have q1 : decide (mid < en) = true := by simp; omega
                    have q2 : decide (en < b) = false := by simp; omega
                    go_wp2_with fail
                    go_end0
                    exact ⟨rfl, d2, permIn_trans _ _ _ _ _ HP1.out HB.out.1, HB.out.2, HS2.out⟩
                  · have q1 : decide (mid < en) = false := by simp; omega
                    go_wp2_with fail
                    go_end0
                    exact ⟨rfl, d2, permIn_trans _ _ _ _ _ HP1.out HB.out.1, HB.out.2, HS2.out⟩
end Go.Proofs.YtnblfaagchflaaaGreatDoor
/- oneEdit at a move. -/
namespace Go.Proofs.YtnblfaagchflaaaGreatDoor
open Go.RowKit
set_option linter.unusedVariables false
set_option linter.unusedSimpArgs false

set_option maxRecDepth 100000 in
set_option maxHeartbeats 8000000 in
theorem oneEdit_move (f : ByteArray → Option Rev) (x : Edt) (g : Nat) (dv dr ev rv : Value) (n : Int) (cl tx : ByteArray) (bl be bn : Nat) (w : World) (hk : Chk w g dv dr n cl tx ev rv bl be bn) (hL : LastMap w bl f) (hA : actE f x = 0) (h4 : x.act = 4) :
    Calls Tryz.prog 105 #[.pointer (some ⟨g, 0, none⟩), .agg #[.string x.path, .int .i64 x.act, .int .i64 x.ty.base, .bool x.ty.k, .bool x.ty.l, .bool x.ty.x, .int .u64 x.sum, .int .i64 x.size, .int .i64 x.base, .string x.frm, .int .i64 x.fnum, .int .i64 x.fence]] w
      fun e w' => e = .returned (.int .i64 (oneE f x)) ∧ Below w.heap.size w w' := by
  have hbW : Below w.heap.size w (w.alloc (.cells #[.string x.path, .int .i64 x.act, .int .i64 x.ty.base, .bool x.ty.k, .bool x.ty.l, .bool x.ty.x, .int .u64 x.sum, .int .i64 x.size, .int .i64 x.base, .string x.frm, .int .i64 x.fnum, .int .i64 x.fence] 55)) := (Below.refl _ _).alloc (Nat.le_refl _) _
  have HLV := Lib.hid (fun r b hr hb => live_is f x.path r b hr hb g dv dr ev rv n cl tx bl be bn (w.alloc (.cells #[.string x.path, .int .i64 x.act, .int .i64 x.ty.base, .bool x.ty.k, .bool x.ty.l, .bool x.ty.x, .int .u64 x.sum, .int .i64 x.size, .int .i64 x.base, .string x.frm, .int .i64 x.fnum, .int .i64 x.fence] 55)) (Blk.below hk hbW (Blk.lt hk)) (FMap.below hL hbW))
  have hX0 := blk_new w [.string x.path, .int .i64 x.act, .int .i64 x.ty.base, .bool x.ty.k, .bool x.ty.l, .bool x.ty.x, .int .u64 x.sum, .int .i64 x.size, .int .i64 x.base, .string x.frm, .int .i64 x.fnum, .int .i64 x.fence] 55
  have hk0 := Blk.below hk hbW (Blk.lt hk)
  have hL0 := FMap.below hL hbW
  have HO0 := Lib.hid (oneE_of hA)
  rw [fromE_4 h4] at HO0
  obtain ⟨bt, hbt⟩ : ∃ b, b = decide (x.ty = (lastR f x.path).ty) := ⟨_, rfl⟩
  obtain ⟨bc, hbc⟩ : ∃ b, b = (decide (x.sum = 0) && decide (x.size = 0)) := ⟨_, rfl⟩
  have HTE : Hid (typeE f x = (x.ty.ok && decide (0 ≤ x.size) && (liveA x.act || (bt && bc)))) := Lib.hid (by rw [typeE_eq, ← hbt, ← hbc])
  have hty := run_neq_ty x.ty (lastR f x.path).ty
  have hcn := run_neq_con x.sum x.size 0 0
  rw [← hbt] at hty
  rw [← hbc] at hcn
  clear hbt hbc
  have hb : isLast f x.path = false := by
    unfold actE at hA
    rw [if_pos (.inr h4)] at hA
    cases hh : isLast f x.path
    · rfl
    · rw [hh] at hA; simp at hA
  have q1 : (x.act == 1) = false := by rw [h4]; rfl
  have q4 : (x.act == 4) = true := by rw [h4]; rfl
  have HC := Lib.hid (HLV.out _ false rfl hb)
  clear hb HLV hA h4
  generalize lastR f x.path = r at HC HO0 hty
  go_enter Tryz.func105, Tryz.ntmps105
  go_wp2_with fail
  refine HC.out.mono ?_
  rintro e w1 ⟨rfl, hb1⟩
  have hX1 := (hX0.below hb1 hX0.lt).alloc (.cells #[.string r.path, .int .i64 r.num, .int .i64 r.chg, .int .i64 r.act, .int .i64 r.ty.base, .bool r.ty.k, .bool r.ty.l, .bool r.ty.x, .int .u64 r.sum, .int .i64 r.size, .string r.frm, .int .i64 r.fnum] 40)
  have hR := blk_new w1 [.string r.path, .int .i64 r.num, .int .i64 r.chg, .int .i64 r.act, .int .i64 r.ty.base, .bool r.ty.k, .bool r.ty.l, .bool r.ty.x, .int .u64 r.sum, .int .i64 r.size, .string r.frm, .int .i64 r.fnum] 40
  have hbw1 : Below w.heap.size w (w1.alloc (.cells #[.string r.path, .int .i64 r.num, .int .i64 r.chg, .int .i64 r.act, .int .i64 r.ty.base, .bool r.ty.k, .bool r.ty.l, .bool r.ty.x, .int .u64 r.sum, .int .i64 r.size, .string r.frm, .int .i64 r.fnum] 40)) := (below_next hbW hb1).alloc (below_next hbW hb1).size _
  have hK1 := Blk.alloc (Blk.below hk0 hb1 (Blk.lt hk0)) (.cells #[.string r.path, .int .i64 r.num, .int .i64 r.chg, .int .i64 r.act, .int .i64 r.ty.base, .bool r.ty.k, .bool r.ty.l, .bool r.ty.x, .int .u64 r.sum, .int .i64 r.size, .string r.frm, .int .i64 r.fnum] 40)
  have hL1 := FMap.alloc (FMap.below hL0 hb1) (.cells #[.string r.path, .int .i64 r.num, .int .i64 r.chg, .int .i64 r.act, .int .i64 r.ty.base, .bool r.ty.k, .bool r.ty.l, .bool r.ty.x, .int .u64 r.sum, .int .i64 r.size, .string r.frm, .int .i64 r.fnum] 40)
  have hs0 : w.heap.size < w1.heap.size := (hX0.below hb1 hX0.lt).lt
  obtain ⟨c0, c1, c2, c3, c4, c5, c6, c7, c8, c9, c10, c11⟩ := box12 (hX0.below hb1 hX0.lt)
  clear hb1
  by_cases hbb : x.base = r.num
  · have qb : (x.base != r.num) = false := by rw [bne_dec]; simp [hbb]
    rw [if_neg (by simp [hbb])] at HO0
    clear hbb
    obtain ⟨bl2, hbl2⟩ : ∃ b, isLast f x.frm = b := ⟨_, rfl⟩
    obtain ⟨r2, hr2⟩ : ∃ r, lastR f x.frm = r := ⟨_, rfl⟩
    have HC2 := Lib.hid (live_is f x.frm r2 bl2 hr2 hbl2 g dv dr ev rv n cl tx bl be bn _ hK1 hL1)
    rw [hbl2, hr2] at HO0
    clear hbl2 hr2
    go_wp2_with fail
    refine HC2.out.mono ?_
    rintro e w2 ⟨rfl, hb2⟩
    have hX2 := hX1.below hb2 hX1.lt
    have hR2 := hR.below hb2 hR.lt
    have hX3 := hX2.alloc (.cells #[.string r2.path, .int .i64 r2.num, .int .i64 r2.chg, .int .i64 r2.act, .int .i64 r2.ty.base, .bool r2.ty.k, .bool r2.ty.l, .bool r2.ty.x, .int .u64 r2.sum, .int .i64 r2.size, .string r2.frm, .int .i64 r2.fnum] 40)
    have hR3 := hR2.alloc (.cells #[.string r2.path, .int .i64 r2.num, .int .i64 r2.chg, .int .i64 r2.act, .int .i64 r2.ty.base, .bool r2.ty.k, .bool r2.ty.l, .bool r2.ty.x, .int .u64 r2.sum, .int .i64 r2.size, .string r2.frm, .int .i64 r2.fnum] 40)
    have hbw2 := below_next hbw1 hb2
    have hbw3 := hbw2.alloc hbw2.size (.cells #[.string r2.path, .int .i64 r2.num, .int .i64 r2.chg, .int .i64 r2.act, .int .i64 r2.ty.base, .bool r2.ty.k, .bool r2.ty.l, .bool r2.ty.x, .int .u64 r2.sum, .int .i64 r2.size, .string r2.frm, .int .i64 r2.fnum] 40)
    have hs2 := hX2.lt
    clear c0 c1 c2 c3 c4 c5 c6 c7 c8 c9 c10 c11
    obtain ⟨c0, c1, c2, c3, c4, c5, c6, c7, c8, c9, c10, c11⟩ := box12 hX2
    cases bl2
    · have HO : Hid (oneE f x = 115) := Lib.hid (by rw [HO0.out]; rfl)
      go_wp2_with fail
      go_ret
      exact ⟨ret_int HO.out.symm, hbw3⟩
    · have sq := str_eqB x.frm x.path
      by_cases hfp : x.frm = x.path
      · rw [show decide (x.frm = x.path) = true by simpa using hfp] at sq
        have HO : Hid (oneE f x = 115) := Lib.hid (by rw [HO0.out]; simp [hfp])
        clear hfp
        go_wp2_with fail
        go_ret
        exact ⟨ret_int HO.out.symm, hbw3⟩
      · rw [show decide (x.frm = x.path) = false by simpa using hfp] at sq
        have HO1' : Hid (oneE f x = if decide (x.fnum = r2.num) = false then 115 else if typeE f x = false then 116 else 0) := Lib.hid (by rw [HO0.out]; simp [hfp])
        clear hfp
        by_cases hfn : x.fnum = r2.num
        · have qf : (x.fnum != r2.num) = false := by rw [bne_dec]; simp [hfn]
          have HO1 : Hid (oneE f x = if typeE f x = false then 116 else 0) := Lib.hid (by rw [HO1'.out]; simp [hfn])
          clear hfn HO1' HO0
          cases htk : x.ty.ok
          · have HO : Hid (oneE f x = 116) := Lib.hid (by rw [HO1.out, HTE.out, htk]; rfl)
            go_wp2_with fail
            refine (check_is _ _ _ _ 90 (by show errOf 90 x.ty.ok = 90; rw [htk]; rfl) _).mono ?_
            rintro e w5 ⟨rfl, hb5⟩
            clear htk
            go_wp2_with fail
            go_ret
            exact ⟨ret_int HO.out.symm, below_next hbw3 hb5⟩
          · have HK := Lib.hid (fun W => check_is x.ty.base x.ty.k x.ty.l x.ty.x 0 (by show errOf 90 x.ty.ok = 0; rw [htk]; rfl) W)
            have HO2 : Hid (oneE f x = if (decide (0 ≤ x.size) && (liveA x.act || (bt && bc))) = false then 116 else 0) := Lib.hid (by rw [HO1.out, HTE.out, htk]; rfl)
            clear htk
            go_wp2_with fail
            refine (HK.out _).mono ?_
            rintro e w5 ⟨rfl, hb5⟩
            have hbw5 := below_next hbw3 hb5
            have hX5 := hX3.below hb5 hX3.lt
            have hR5 := hR3.below hb5 hR3.lt
            clear c0 c1 c2 c3 c4 c5 c6 c7 c8 c9 c10 c11
            obtain ⟨c0, c1, c2, c3, c4, c5, c6, c7, c8, c9, c10, c11⟩ := box12 hX5
            by_cases hz : x.size < 0
            · have HO : Hid (oneE f x = 116) := Lib.hid (by rw [HO2.out, show decide (0 ≤ x.size) = false by simp; omega]; rfl)
              go_wp2_with fail
              go_ret
              exact ⟨ret_int HO.out.symm, hbw5⟩
            · have HO3 : Hid (oneE f x = if (liveA x.act || (bt && bc)) = false then 116 else 0) := Lib.hid (by rw [HO2.out, show decide (0 ≤ x.size) = true by simp; omega]; rfl)
              cases hlv : liveA x.act
              · rw [hlv] at HO3
                have HLI := Lib.hid (fun W => isLive_is x.act false hlv W)
                clear hlv
                obtain ⟨d0, d1, d2, d3, d4, d5, d6, d7, d8, d9, d10, d11⟩ := box12 hR5
                cases bt
                · go_wp2_with fail
                  refine (HLI.out _).mono ?_
                  rintro e w6 ⟨rfl, rfl⟩
                  go_wp2_with fail
                  go_ret
                  exact ⟨ret_int HO3.out.symm, hbw5⟩
                · cases bc
                  · go_wp2_with fail
                    refine (HLI.out _).mono ?_
                    rintro e w6 ⟨rfl, rfl⟩
                    go_wp2_with fail
                    go_ret
                    exact ⟨ret_int HO3.out.symm, hbw5⟩
                  · go_wp2_with fail
                    refine (HLI.out _).mono ?_
                    rintro e w6 ⟨rfl, rfl⟩
                    go_wp2_with fail
                    go_ret
                    exact ⟨ret_int HO3.out.symm, hbw5⟩
              · rw [hlv] at HO3
                have HLI := Lib.hid (fun W => isLive_is x.act true hlv W)
                clear hlv
                go_wp2_with fail
                refine (HLI.out _).mono ?_
                rintro e w6 ⟨rfl, rfl⟩
                go_wp2_with fail
                go_ret
                exact ⟨ret_int HO3.out.symm, hbw5⟩
        · have qf : (x.fnum != r2.num) = true := by rw [bne_dec]; simp [hfn]
          have HO : Hid (oneE f x = 115) := Lib.hid (by rw [HO1'.out]; simp [hfn])
          clear hfn HO1'
          go_wp2_with fail
          go_ret
          exact ⟨ret_int HO.out.symm, hbw3⟩
  · have qb : (x.base != r.num) = true := by rw [bne_dec]; simp [hbb]
    have HO : Hid (oneE f x = 114) := Lib.hid (by rw [HO0.out, if_pos hbb])
    clear hbb HO0
    go_wp2_with fail
    go_ret
    exact ⟨ret_int HO.out.symm, hbw1⟩

end Go.Proofs.YtnblfaagchflaaaGreatDoor
/- Plain: the order of paths by their components is the order by their bytes. -/
namespace Go.Proofs.YtnblfaagchflaaaGreatDoor
open Go.RowKit
set_option linter.unusedVariables false
set_option linter.unusedSimpArgs false

/-- Both paths of a record are paths. -/
def Rcd.val_ (r : Rcd) : Prop := validS r.frm = true ∧ validS r.to = true
def cmpC : List (List UInt8) → List (List UInt8) → Int
  | [], [] => 0
  | [], _ :: _ => -1
  | _ :: _, [] => 1
  | a :: l, b :: m => if Lib.compareBytes a b = 0 then cmpC l m else Lib.compareBytes a b
/-- Components, each behind its slash. -/
def tailL : List (List UInt8) → List UInt8
  | [] => []
  | p :: ps => 47 :: p ++ tailL ps
theorem join_tail (p : List UInt8) (ps : List (List UInt8)) : 47 :: Lib.join (p :: ps) [47] = tailL (p :: ps) := by
  induction ps generalizing p with
  | nil => simp [Lib.join_one, tailL]
  | cons q ps ih =>
    rw [join_cons2 p (q :: ps) (by simp), tailL, ← ih q]
    simp
def Starts (l : List UInt8) : Prop := l = [] ∨ ∃ r, l = 47 :: r
theorem tail_starts (ps : List (List UInt8)) : Starts (tailL ps) := by
  cases ps with
  | nil => exact .inl rfl
  | cons p ps => exact .inr ⟨p ++ tailL ps, by simp [tailL]⟩
theorem cmp_app : ∀ (p q X Y : List UInt8), (47 : UInt8) ∉ p → (47 : UInt8) ∉ q → Starts X → Starts Y → cmpL (p ++ X) (q ++ Y) = if Lib.compareBytes p q = 0 then cmpL X Y else Lib.compareBytes p q
  | [], [], X, Y, _, _, _, _ => by simp [Lib.compareBytes]
  | [], b :: q, X, Y, _, hq, hX, _ => by
    have hb : b ≠ 47 := fun e => hq (by rw [e]; exact List.mem_cons_self ..)
    rcases hX with rfl | ⟨r, rfl⟩
    · simp [Lib.compareBytes, cmpL]
    · simp [Lib.compareBytes, cmpL]
      exact fun e => absurd e.symm hb
  | a :: p, [], X, Y, hp, _, _, hY => by
    have ha : a ≠ 47 := fun e => hp (by rw [e]; exact List.mem_cons_self ..)
    rcases hY with rfl | ⟨r, rfl⟩
    · simp [Lib.compareBytes, cmpL]
    · simp [Lib.compareBytes, cmpL, ha]
  | a :: p, b :: q, X, Y, hp, hq, hX, hY => by
    have ha : a ≠ 47 := fun e => hp (by rw [e]; exact List.mem_cons_self ..)
    have hb : b ≠ 47 := fun e => hq (by rw [e]; exact List.mem_cons_self ..)
    have ih := cmp_app p q X Y (fun h => hp (List.mem_cons_of_mem _ h)) (fun h => hq (List.mem_cons_of_mem _ h)) hX hY
    rw [List.cons_append, List.cons_append, cmpL, Lib.compareBytes]
    by_cases e : a = b
    · subst e
      have hlt : ¬ a < a := by rw [UInt8.lt_iff_toNat_lt]; omega
      rw [if_pos rfl, if_neg hlt, if_neg hlt]
      exact ih
    · rw [if_neg e, if_neg ha, if_neg hb]
      by_cases hl : a < b
      · rw [if_pos hl, if_pos hl]; simp
      · have hg : b < a := by
          have : a.toNat ≠ b.toNat := fun h => e (UInt8.toNat_inj.1 h)
          rw [UInt8.lt_iff_toNat_lt] at hl ⊢; omega
        rw [if_neg hl, if_neg hl, if_pos hg]; simp
theorem cmp_tail : ∀ (ps qs : List (List UInt8)), (∀ p ∈ ps, (47 : UInt8) ∉ p) → (∀ q ∈ qs, (47 : UInt8) ∉ q) → cmpL (tailL ps) (tailL qs) = cmpC ps qs
  | [], [], _, _ => rfl
  | [], q :: qs, _, _ => by simp [tailL, cmpL, cmpC]
  | p :: ps, [], _, _ => by simp [tailL, cmpL, cmpC]
  | p :: ps, q :: qs, hp, hq => by
    have ih := cmp_tail ps qs (fun x hx => hp x (List.mem_cons_of_mem _ hx)) (fun x hx => hq x (List.mem_cons_of_mem _ hx))
    rw [tailL, tailL, List.cons_append, List.cons_append, cmpL, if_pos rfl, cmp_app p q _ _ (hp p (List.mem_cons_self ..)) (hq q (List.mem_cons_self ..)) (tail_starts _) (tail_starts _), cmpC, ih]
theorem dir_tail {l : List UInt8} {least : Nat} {ps : List (List UInt8)} (h : dirL l least = some ps) : l = 47 :: tailL ps ∧ ∀ p ∈ ps, (47 : UInt8) ∉ p := by
  unfold dirL at h
  split at h
  · rename_i hc
    injection h with h
    subst h
    have hp := hc.1
    have hl : l = 47 :: 47 :: l.drop 2 := by
      match l, hp with
      | [], hp => simp [Lib.hasPrefix] at hp
      | [a], hp => simp [Lib.hasPrefix] at hp
      | a :: b :: r, hp =>
        simp [Lib.hasPrefix] at hp
        obtain ⟨rfl, rfl⟩ := hp
        rfl
    have hj := join_splitL (l.drop 2)
    refine ⟨?_, fun p hp => (splitL_mem hp).1⟩
    cases hs : splitL (l.drop 2) with
    | nil => exact absurd hs (splitL_ne _)
    | cons p ps =>
      rw [← join_tail, ← hs, hj]
      exact hl
  · cases h
/-- The order of two paths by their components. -/
theorem cmpP_comps {a b : ByteArray} {ps qs : List (List UInt8)} (ha : dirL a.data.toList 2 = some ps) (hb : dirL b.data.toList 2 = some qs) : cmpP a b = cmpC ps qs := by
  have va : validS a = true := by unfold validS validB; rw [ha]; rfl
  have vb : validS b = true := by unfold validS validB; rw [hb]; rfl
  obtain ⟨a1, a2⟩ := dir_tail ha
  obtain ⟨b1, b2⟩ := dir_tail hb
  rw [cmpP_valid va vb, a1, b1, cmpL, if_pos rfl, cmp_tail ps qs a2 b2]
end Go.Proofs.YtnblfaagchflaaaGreatDoor
