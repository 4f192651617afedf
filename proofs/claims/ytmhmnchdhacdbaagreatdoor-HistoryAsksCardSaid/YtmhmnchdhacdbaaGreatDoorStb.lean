/- slices.stableCmpFunc and slices.SortStableFunc at records. -/
import Derived.Test.YtmhmnchdhacdbaaGreatDoorSm3
namespace Go.Proofs.YtmhmnchdhacdbaaGreatDoor
open Go.RowKit Go.Lib
open Go.Sort hiding Below
set_option linter.unusedVariables false
set_option linter.unusedSimpArgs false
variable {P : Program} {α : Type} [Inhabited α]

/-- Pairs of blocks ahead of a; single blocks from a on. -/
structure Stb (lt : α → α → Bool) (d0 d : Array α) (n bs q : Nat) : Prop where
  perm : PermIn 0 n d0 d
  upto : BlocksTo lt d n (2 * bs) q
  fro : BlocksFrom lt d n bs (2 * q)
theorem Stb.step {lt : α → α → Bool} {d0 d d' : Array α} {n bs q a b : Nat} (h : Stb lt d0 d n bs q) (hn : n ≤ d0.size) (ha : a = q * (2 * bs)) (hb : b = a + 2 * bs) (hbn : b ≤ n) (hp : PermIn a b d d') (hs : SortedIn lt a b d') : Stb lt d0 d' n bs (q + 1) := by
  have e1 : (q + 1) * (2 * bs) = b := by rw [Nat.add_mul, Nat.one_mul, ← ha, hb]
  have e2 : (2 * q + 2) * bs = b := by
    rw [← e1, Nat.add_mul, Nat.add_mul, Nat.one_mul, Nat.mul_assoc 2 q bs, ← Nat.mul_assoc q 2 bs, Nat.mul_comm q 2, Nat.mul_assoc 2 q bs]
  refine ⟨permIn_trans _ _ _ _ _ h.perm (permIn_mono _ _ _ _ _ _ (Nat.zero_le _) hbn (by rw [h.perm.1]; exact hn) hp), h.upto.step ha hp ?_, ?_⟩
  · rw [← ha, e1, Nat.min_eq_left hbn]; exact hs
  · have := h.fro.step (lo := a) (hi := b) (d' := d') e2.symm hp
    rw [show 2 * (q + 1) = 2 * q + 2 by omega]; exact this
theorem Stb.last {lt : α → α → Bool} {d0 d d' : Array α} {n bs q a : Nat} (h : Stb lt d0 d n bs q) (hn : n ≤ d0.size) (ha : a = q * (2 * bs)) (hbn : n < a + 2 * bs) (han : a ≤ n) (hp : PermIn a n d d') (hs : SortedIn lt a n d') : PermIn 0 n d0 d' ∧ BlocksFrom lt d' n (2 * bs) 0 := by
  have e1 : (q + 1) * (2 * bs) = a + 2 * bs := by rw [Nat.add_mul, Nat.one_mul, ← ha]
  refine ⟨permIn_trans _ _ _ _ _ h.perm (permIn_mono _ _ _ _ _ _ (Nat.zero_le _) (Nat.le_refl _) (by rw [h.perm.1]; exact hn) hp), BlocksTo.all (h.upto.step (q := q) ha hp ?_) (q := q + 1) (by rw [e1]; omega)⟩
  rw [← ha, e1, Nat.min_eq_right (by omega)]; exact hs
theorem Stb.two {lt : α → α → Bool} {d0 d : Array α} {n bs q a : Nat} (h : Stb lt d0 d n bs q) (ha : a = q * (2 * bs)) : SortedIn lt a (min (a + bs) n) d ∧ SortedIn lt (a + bs) (min (a + 2 * bs) n) d := by
  have e0 : (2 * q) * bs = a := by rw [ha, Nat.mul_comm 2 q, Nat.mul_assoc]
  have k1 := h.fro (2 * q) (Nat.le_refl _)
  have k2 := h.fro (2 * q + 1) (by omega)
  rw [e0, Nat.add_mul (2 * q) 1, e0, Nat.one_mul] at k1
  rw [Nat.add_mul (2 * q) 1, e0, Nat.one_mul, Nat.add_mul (2 * q + 1) 1, Nat.add_mul (2 * q) 1, e0, Nat.one_mul] at k2
  exact ⟨k1, by rw [show a + 2 * bs = a + bs + bs by omega]; exact k2⟩

set_option maxHeartbeats 4000000 in
set_option maxRecDepth 100000 in
theorem stable_rcd {k : Nat} (L : SFacts P 26 60 89 k) (F0 : P.funcs[147]? = some Tryz.f147)
    (F2 : P.funcs[140]? = some Tryz.f140) (F3 : P.funcs[119]? = some Tryz.f119)
    (F4 : P.funcs[118]? = some Tryz.f118) (F : P.funcs[85]? = some Tryz.f85)
    (enc : α → List Value) (hk : ∀ x, (enc x).length = k) (h1 : ∀ x, ∀ v ∈ enc x, v.oneCell' = true) (cf : α → α → Int) (hO : SWO (ltOf cf)) (g : Nat) (hC : CmpB P g enc cf) (w0 W : World) (blk off C cap : Nat) (d : Array α) (h : SB enc k 60 w0 blk off C d W) (n : Nat) (hn : d.size = n) (hsz : n < 100000000) :
    Calls P 85 #[.slice (some ⟨blk, off, none⟩) n cap, .int .i64 n, .func (.func g) #[] #[]] W fun e w' => e = .returned (.tuple #[]) ∧ ∃ d', PermIn 0 n d d' ∧ SortedIn (ltOf cf) 0 n d' ∧ SB enc k 60 w0 blk off C d' w' := by
  have mixed := L.mixed; have t0 := L.t0; have a0 := L.a0; have z0 := L.z0; have ti := L.ti; have ai := L.ai; have zi := L.zi; have vi := L.vi; have tb := L.tb; have ab := L.ab; have zb := L.zb; have tu := L.tu; have au := L.au; have zu := L.zu; have tS := L.tS; have aS := L.aS; have zS := L.zS; have aE := L.aE; have zE := L.zE; have tF := L.tF; have aF := L.aF; have zF := L.zF
  have HIN := Lib.hid (fun (d' : Array α) (W' : World) (a b : Nat) (h : SB enc k 60 w0 blk off C d' W') (hd : d'.size = n) (h2 : a ≤ b) (h3 : b ≤ n) => insertion_rcd L F4 enc hk h1 cf g hC w0 W' blk off C cap a b d' h h2 (by omega) (by omega))
  have HSM := Lib.hid (fun (d' : Array α) (W' : World) (a m b : Nat) => symMerge_rcd L F0 F2 F3 enc hk h1 cf hO g hC w0 blk off C cap n (by omega) (b - a) a m b d' W' (Nat.le_refl _))
  have e49 : ∀ args w, (callFunc 118 args).run P w = .ok (.enter 118 args) w := enters_of F4 (by kernel_rfl) rfl
  have e50 : ∀ args w, (callFunc 119 args).run P w = .ok (.enter 119 args) w := enters_of F3 (by kernel_rfl) rfl
  have HS := Lib.hid h
  have HO := Lib.hid hO
  have HDS := Lib.hid hn
  have HIS := Lib.hid (fun (d' : Array α) (a b : Nat) (hd : d'.size = n) (h1 : a ≤ b) (h2 : b ≤ n) => insertionSort_holds (lt := ltOf cf) hO d' a b h1 (by omega))
  clear h hk h1 hC hO hn
  go_enter F, Tryz.ntmps85
  go_wp2_with fail
  go_loopw [7, 8] (fun s t wr => ∃ (q a : Nat) (dk : Array α), s = .int .i64 a ∧ t = .int .i64 (a + 20 : Nat) ∧ a ≤ n ∧ Hid (a = q * 20 ∧ PermIn 0 n d dk ∧ BlocksTo (ltOf cf) dk n 20 q ∧ SB enc k 60 w0 blk off C dk wr)) (fun s _ _ => n - (intOf s).toNat)
  case atStart => exact ⟨0, 0, d, rfl, by go_num, Nat.zero_le _, rfl, permIn_refl _ _ _, BlocksTo.zero _ _ _, HS.out⟩
  case round =>
    obtain ⟨q, a, dk, rfl, rfl, han, HI⟩ := hrel
    have hdk : dk.size = n := HI.out.2.1.1.trans HDS.out
    have HDK := Lib.hid hdk
    clear hdk
    by_cases hle : a + 20 ≤ n
    · have hlez : ((a : Int) + 20) ≤ (n : Int) := by omega
      have HW := Lib.hid (HIN.out dk wr a (a + 20) HI.out.2.2.2 HDK.out (by omega) hle)
      rw [HDK.out] at HW
      have HN := Lib.hid (HIS.out dk a (a + 20) HDK.out (by omega) hle)
      go_wp2_with fail
      refine HW.out.mono ?_
      rintro e w' ⟨rfl, hB⟩
      have HB := Lib.hid hB
      clear hB
      go_wp2_with fail
      go_roundw
      case rel =>
        have e1 : (q + 1) * 20 = a + 20 := by have := HI.out.1; omega
        refine ⟨q + 1, a + 20, _, by go_num, by go_num, hle, e1.symm, permIn_trans _ _ _ _ _ HI.out.2.1 (permIn_mono _ _ _ _ _ _ (Nat.zero_le _) hle (by rw [HDK.out]; exact Nat.le_refl _) HN.out.1), HI.out.2.2.1.step HI.out.1 HN.out.1 ?_, HB.out⟩
        rw [← HI.out.1, e1, Nat.min_eq_left hle]; exact HN.out.2
      case measure => simp [intOf]; omega
    · have hlez : ¬ ((a : Int) + 20) ≤ (n : Int) := by omega
      have HW := Lib.hid (HIN.out dk wr a n HI.out.2.2.2 HDK.out (by omega) (Nat.le_refl _))
      rw [HDK.out] at HW
      have HN := Lib.hid (HIS.out dk a n HDK.out (by omega) (Nat.le_refl _))
      go_wp2_with fail
      refine HW.out.mono ?_
      rintro e w' ⟨rfl, hB⟩
      have hF : PermIn 0 n d (insertionSort (ltOf cf) dk a n) ∧ BlocksFrom (ltOf cf) (insertionSort (ltOf cf) dk a n) n 20 0 := by
        have e1 : (q + 1) * 20 = a + 20 := by have := HI.out.1; omega
        refine ⟨permIn_trans _ _ _ _ _ HI.out.2.1 (permIn_mono _ _ _ _ _ _ (Nat.zero_le _) (Nat.le_refl _) (by rw [HDK.out]; exact Nat.le_refl _) HN.out.1), BlocksTo.all (q := q + 1) (HI.out.2.2.1.step HI.out.1 HN.out.1 ?_) (by omega)⟩
        rw [← HI.out.1, e1, Nat.min_eq_right (by omega)]; exact HN.out.2
      have HB := Lib.hid hB
      have HF := Lib.hid hF
      clear hB hF
      generalize insertionSort (ltOf cf) dk a n = d1 at HB HF
      go_wp2_with fail
      go_loopw [6, 7, 8, 9] (fun s t u v wr => ∃ (bs : Nat) (dk : Array α), s = .int .i64 bs ∧ 20 ≤ bs ∧ bs < 200000000 ∧ Hid (PermIn 0 n d dk ∧ BlocksFrom (ltOf cf) dk n bs 0 ∧ SB enc k 60 w0 blk off C dk wr)) (fun s _ _ _ _ => n - (intOf s).toNat)
      case atStart => exact ⟨20, d1, rfl, Nat.le_refl _, by omega, HF.out.1, HF.out.2, HB.out⟩
      case round =>
        obtain ⟨bs, d2, rfl, hbs, hbm, HJ⟩ := hrel
        by_cases hlt : bs < n
        · have hltz : (bs : Int) < (n : Int) := by omega
          go_wp2_with fail
          go_loopw [7, 8] (fun s t wr => ∃ (q a : Nat) (dk : Array α), s = .int .i64 a ∧ t = .int .i64 (a + 2 * bs : Nat) ∧ a ≤ n ∧ Hid (a = q * (2 * bs) ∧ Stb (ltOf cf) d dk n bs q ∧ SB enc k 60 w0 blk off C dk wr)) (fun s _ _ => n - (intOf s).toNat)
          case atStart => exact ⟨0, 0, d2, rfl, by go_num, Nat.zero_le _, by omega, ⟨HJ.out.1, BlocksTo.zero _ _ _, HJ.out.2.1⟩, HJ.out.2.2⟩
          case round =>
            obtain ⟨q, a, dj, rfl, rfl, han, HQ⟩ := hrel
            have HDJ := Lib.hid (HQ.out.2.1.perm.1.trans HDS.out)
            have HT := Lib.hid (HQ.out.2.1.two HQ.out.1)
            by_cases hle : a + 2 * bs ≤ n
            · have hlez : ((a : Int) + 2 * (bs : Int)) ≤ (n : Int) := by omega
              have HW := Lib.hid (HSM.out dj wr a (a + bs) (a + 2 * bs) HQ.out.2.2 (by omega) (by omega) HDJ.out hle (by have := HT.out.1; rwa [Nat.min_eq_left (by omega)] at this) (by have := HT.out.2; rwa [Nat.min_eq_left (by omega)] at this))
              go_wp2_with fail
              refine HW.out.mono ?_
              rintro e w' ⟨rfl, d3, k1, k2, k3⟩
              have HN := Lib.hid (HQ.out.2.1.step (by rw [HDS.out]; exact Nat.le_refl _) HQ.out.1 rfl hle k1 k2)
              have HB3 := Lib.hid k3
              clear k1 k2 k3
              go_wp2_with fail
              go_roundw
              case rel =>
                refine ⟨q + 1, a + 2 * bs, d3, rfl, by go_num, hle, ?_, HN.out, HB3.out⟩
                rw [Nat.add_mul, Nat.one_mul, ← HQ.out.1]
              case measure => simp [intOf]; omega
            · have hlez : ¬ ((a : Int) + 2 * (bs : Int)) ≤ (n : Int) := by omega
              by_cases hm : a + bs < n
              · have hmz : (a : Int) + (bs : Int) < (n : Int) := by omega
                have HW := Lib.hid (HSM.out dj wr a (a + bs) n HQ.out.2.2 (by omega) hm HDJ.out (Nat.le_refl _) (by have := HT.out.1; rwa [Nat.min_eq_left (by omega)] at this) (by have := HT.out.2; rwa [Nat.min_eq_right (by omega)] at this))
                go_wp2_with fail
                refine HW.out.mono ?_
                rintro e w' ⟨rfl, d3, k1, k2, k3⟩
                have HN := Lib.hid (HQ.out.2.1.last (by rw [HDS.out]; exact Nat.le_refl _) HQ.out.1 (by omega) han k1 k2)
                have HB3 := Lib.hid k3
                clear k1 k2 k3
                go_wp2_with fail
                go_roundw
                case rel => exact ⟨2 * bs, d3, by go_num, by omega, by omega, HN.out.1, HN.out.2, HB3.out⟩
                case measure => simp [intOf]; omega
              · have hmz : ¬ (a : Int) + (bs : Int) < (n : Int) := by omega
                have HN := Lib.hid (HQ.out.2.1.last (d' := dj) (by rw [HDS.out]; exact Nat.le_refl _) HQ.out.1 (by omega) han (permIn_refl _ _ _) (by have := HT.out.1; rwa [Nat.min_eq_right (by omega)] at this))
                go_wp2_with fail
                go_roundw
                case rel => exact ⟨2 * bs, dj, by go_num, by omega, by omega, HN.out.1, HN.out.2, HQ.out.2.2⟩
                case measure => simp [intOf]; omega
        · have hltz : ¬ (bs : Int) < (n : Int) := by omega
          have HZ := Lib.hid (HJ.out.2.1.whole (by omega))
          go_wp2_with fail
          go_end0
          exact ⟨rfl, d2, HJ.out.1, HZ.out, HJ.out.2.2⟩
end Go.Proofs.YtmhmnchdhacdbaaGreatDoor
