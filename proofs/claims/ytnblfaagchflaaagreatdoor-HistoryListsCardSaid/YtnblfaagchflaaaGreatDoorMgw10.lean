/- slices.stableCmpFunc and slices.SortStableFunc at records. -/
import Derived.Test.YtnblfaagchflaaaGreatDoorMgw9
import Derived.Test.YtnblfaagchflaaaGreatDoorMgw8
import Derived.Test.YtnblfaagchflaaaGreatDoorMgw4
namespace Go.Proofs.YtnblfaagchflaaaGreatDoor
open Go.RowKit Go.Lib
open Go.Sort hiding Below
set_option linter.unusedVariables false
set_option linter.unusedSimpArgs false
variable {P : Program} {α : Type} [Inhabited α]

/-- Pairs of blocks ahead of a; single blocks from a on. -/
structure Stb (lt : α → α → Bool) (d0 d : Array α) (n bs q : Nat) : Prop where
  perm : PermIn 0 n d0 d
  upto : BlocksTo lt d n (2 * bs) q
  fro : BlocksFrom lt d n bs (2 * q)
theorem Stb.step {lt : α → α → Bool} {d0 d d' : Array α} {n bs q a b : Nat} (h : Stb lt d0 d n bs q) (hn : n ≤ d0.size) (ha : a = q * (2 * bs)) (hb : b = a + 2 * bs) (hbn : b ≤ n) (hp : PermIn a b d d') (hs : SortedIn lt a b d') : Stb lt d0 d' n bs (q + 1) := by
  have e1 : (q + 1) * (2 * bs) = b := by rw [Nat.add_mul, Nat.one_mul, ← ha, hb]
  have e2 : (2 * q + 2) * bs = b := by
    rw [← e1, Nat.add_mul, Nat.add_mul, Nat.one_mul, Nat.mul_assoc 2 q bs, ← Nat.mul_assoc q 2 bs, Nat.mul_comm q 2, Nat.mul_assoc 2 q bs]
  refine ⟨permIn_trans _ _ _ _ _ h.perm (permIn_mono _ _ _ _ _ _ (Nat.zero_le _) hbn (by rw [h.perm.1]; exact hn) hp), h.upto.step ha hp ?_, ?_⟩
  · rw [← ha, e1, Nat.min_eq_left hbn]; exact hs
  · have := h.fro.step (lo := a) (hi := b) (d' := d') e2.symm hp
    rw [show 2 * (q + 1) = 2 * q + 2 by omega]; exact this
theorem Stb.last {lt : α → α → Bool} {d0 d d' : Array α} {n bs q a : Nat} (h : Stb lt d0 d n bs q) (hn : n ≤ d0.size) (ha : a = q * (2 * bs)) (hbn : n < a + 2 * bs) (han : a ≤ n) (hp : PermIn a n d d') (hs : SortedIn lt a n d') : PermIn 0 n d0 d' ∧ BlocksFrom lt d' n (2 * bs) 0 := by
  have e1 : (q + 1) * (2 * bs) = a + 2 * bs := by rw [Nat.add_mul, Nat.one_mul, ← ha]
  refine ⟨permIn_trans _ _ _ _ _ h.perm (permIn_mono _ _ _ _ _ _ (Nat.zero_le _) (Nat.le_refl _) (by rw [h.perm.1]; exact hn) hp), BlocksTo.all (h.upto.step (q := q) ha hp ?_) (q := q + 1) (by rw [e1]; omega)⟩
  rw [← ha, e1, Nat.min_eq_right (by omega)]; exact hs
theorem Stb.two {lt : α → α → Bool} {d0 d : Array α} {n bs q a : Nat} (h : Stb lt d0 d n bs q) (ha : a = q * (2 * bs)) : SortedIn lt a (min (a + bs) n) d ∧ SortedIn lt (a + bs) (min (a + 2 * bs) n) d := by
  have e0 : (2 * q) * bs = a := by rw [ha, Nat.mul_comm 2 q, Nat.mul_assoc]
  have k1 := h.fro (2 * q) (Nat.le_refl _)
  have k2 := h.fro (2 * q + 1) (by omega)
  rw [e0, Nat.add_mul (2 * q) 1, e0, Nat.one_mul] at k1
  rw [Nat.add_mul (2 * q) 1, e0, Nat.one_mul, Nat.add_mul (2 * q + 1) 1, Nat.add_mul (2 * q) 1, e0, Nat.one_mul] at k2
  exact ⟨k1, by rw [show a + 2 * bs = a + bs + bs by omega]; exact k2⟩

set_option maxHeartbeats 4000000 in
set_option maxRecDepth 100000 in
theorem stable_rcd {k : Nat} (L : SFacts P 29 57 87 k) (F0 : P.funcs[138]? = some Tryz.f138)
    (F2 : P.funcs[131]? = some Tryz.f131) (F3 : P.funcs[109]? = some Tryz.f109)
    (F4 : P.funcs[108]? = some Tryz.f108) (F : P.funcs[76]? = some Tryz.f76)
    (enc : α → List Value) (hk : ∀ x, (enc x).length = k) (h1 : ∀ x, ∀ v ∈ enc x, v.oneCell' = true) (cf : α → α → Int) (hO : SWO (ltOf cf)) (g : Nat) (hC : CmpB P g enc cf) (w0 W : World) (blk off C cap : Nat) (d : Array α) (h : SB enc k 57 w0 blk off C d W) (n : Nat) (hn : d.size = n) (hsz : n < 100000000) :
    Calls P 76 #[.slice (some ⟨blk, off, none⟩) n cap, .int .i64 n, .func (.func g) #[] #[]] W fun e w' => e = .returned (.tuple #[]) ∧ ∃ d', PermIn 0 n d d' ∧ SortedIn (ltOf cf) 0 n d' ∧ SB enc k 57 w0 blk off C d' w' := by
  have mixed := L.mixed; have t0 := L.t0; have a0 := L.a0; have z0 := L.z0; have ti := L.ti; have ai := L.ai; have zi := L.zi; have vi := L.vi; have tb := L.tb; have ab := L.ab; have zb := L.zb; have tu := L.tu; have au := L.au; have zu := L.zu; have tS := L.tS; have aS := L.aS; have zS := L.zS; have aE := L.aE; have zE := L.zE; have tF := L.tF; have aF := L.aF; have zF := L.zF
  have HIN := Lib.hid (fun (d' : Array α) (W' : World) (a b : Nat) (h : SB enc k 57 w0 blk off C d' W') (hd : d'.size = n) (h2 : a ≤ b) (h3 : b ≤ n) => insertion_rcd L F4 enc hk h1 cf g hC w0 W' blk off C cap a b d' h h2 (by omega) (by omega))
  have HSM := Lib.hid (fun (d' : Array α) (W' : World) (a m b : Nat) => symMerge_rcd L F0 F2 F3 enc hk h1 cf hO g hC w0 blk off C cap n (by omega) (b - a) a m b d' W' (Nat.le_refl _))
  have e49 : ∀ args w, (callFunc 108 args).run P w = .ok (.enter 108 args) w := enters_of F4 (by kernel_rfl) rfl
  have e50 : ∀ args w, (callFunc 109 args).run P w = .ok (.enter 109 args) w := enters_of F3 (by kernel_rfl) rfl
  have HS := Lib.hid h
  have HO := Lib.hid hO
  have HDS := Lib.hid hn
  have HIS := Lib.hid (fun (d' : Array α) (a b : Nat) (hd : d'.size = n) (h1 : a ≤ b) (h2 : b ≤ n) => insertionSort_holds (lt := ltOf cf) hO d' a b h1 (by omega))
  clear h hk h1 hC hO hn
  go_enter F, Tryz.ntmps76
  go_wp2_with fail
  go_loopw [7, 8] (fun s t wr => ∃ (q a : Nat) (dk : Array α), s = .int .i64 a ∧ t = .int .i64 (a + 20 : Nat) ∧ a ≤ n ∧ Hid (a = q * 20 ∧ PermIn 0 n d dk ∧ BlocksTo (ltOf cf) dk n 20 q ∧ SB enc k 57 w0 blk off C dk wr)) (fun s _ _ => n - (intOf s).toNat)
  case atStart => exact ⟨0, 0, d, rfl, by go_num, Nat.zero_le _, rfl, permIn_refl _ _ _, BlocksTo.zero _ _ _, HS.out⟩
  case round =>
    obtain ⟨q, a, dk, rfl, rfl, han, HI⟩ := hrel
    have hdk : dk.size = n := HI.out.2.1.1.trans HDS.out
    have HDK := Lib.hid hdk
    clear hdk
    by_cases hle : a + 20 ≤ n
    · have hlez : ((a : Int) + 20) ≤ (n : Int) := by omega
      have HW := Lib.hid (HIN.out dk wr a (a + 20) HI.out.2.2.2 HDK.out (by omega) hle)
      rw [HDK.out] at HW
      have HN := Lib.hid (HIS.out dk a (a + 20) HDK.out (by omega) hle)
      go_wp2_with fail
      refine HW.out.mono ?_
      rintro e w' ⟨rfl, hB⟩
      have HB := Lib.hid hB
      clear hB
      go_wp2_with fail
      go_roundw
      case rel =>
        have e1 : (q + 1) * 20 = a + 20 := by have := HI.out.1; omega
        refine ⟨q + 1, a + 20, _, by go_num, by go_num, hle, e1.symm, permIn_trans _ _ _ _ _ HI.out.2.1 (permIn_mono _ _ _ _ _ _ (Nat.zero_le _) hle (by rw [HDK.out]; exact Nat.le_refl _) HN.out.1), HI.out.2.2.1.step HI.out.1 HN.out.1 ?_, HB.out⟩
        rw [← HI.out.1, e1, Nat.min_eq_left hle]; exact HN.out.2
      case measure => simp [intOf]; omega
    · have hlez : ¬ ((a : Int) + 20) ≤ (n : Int) := by omega
      have HW := Lib.hid (HIN.out dk wr a n HI.out.2.2.2 HDK.out (by omega) (Nat.le_refl _))
      rw [HDK.out] at HW
      have HN := Lib.hid (HIS.out dk a n HDK.out (by omega) (Nat.le_refl _))
      go_wp2_with fail
      refine HW.out.mono ?_
      rintro e w' ⟨rfl, hB⟩
      have hF : PermIn 0 n d (insertionSort (ltOf cf) dk a n) ∧ BlocksFrom (ltOf cf) (insertionSort (ltOf cf) dk a n) n 20 0 := by
        have e1 : (q + 1) * 20 = a + 20 := by have := HI.out.1; omega
        refine ⟨permIn_trans _ _ _ _ _ HI.out.2.1 (permIn_mono _ _ _ _ _ _ (Nat.zero_le _) (Nat.le_refl _) (by rw [HDK.out]; exact Nat.le_refl _) HN.out.1), BlocksTo.all (q := q + 1) (HI.out.2.2.1.step HI.out.1 HN.out.1 ?_) (by omega)⟩
        rw [← HI.out.1, e1, Nat.min_eq_right (by omega)]; exact HN.out.2
      have HB := Lib.hid hB
      have HF := Lib.hid hF
      clear hB hF
      generalize insertionSort (ltOf cf) dk a n = d1 at HB HF
      go_wp2_with fail
      go_loopw [6, 7, 8, 9] (fun s t u v wr => ∃ (bs : Nat) (dk : Array α), s = .int .i64 bs ∧ 20 ≤ bs ∧ bs < 200000000 ∧ Hid (PermIn 0 n d dk ∧ BlocksFrom (ltOf cf) dk n bs 0 ∧ SB enc k 57 w0 blk off C dk wr)) (fun s _ _ _ _ => n - (intOf s).toNat)
      case atStart => exact ⟨20, d1, rfl, Nat.le_refl _, by omega, HF.out.1, HF.out.2, HB.out⟩
      case round =>
        obtain ⟨bs, d2, rfl, hbs, hbm, HJ⟩ := hrel
        by_cases hlt : bs < n
        · have hltz : (bs : Int) < (n : Int) := by omega
          go_wp2_with fail
          go_loopw [7, 8] (fun s t wr => ∃ (q a : Nat) (dk : Array α), s = .int .i64 a ∧ t = .int .i64 (a + 2 * bs : Nat) ∧ a ≤ n ∧ Hid (a = q * (2 * bs) ∧ Stb (ltOf cf) d dk n bs q ∧ SB enc k 57 w0 blk off C dk wr)) (fun s _ _ => n - (intOf s).toNat)
          case atStart => exact ⟨0, 0, d2, rfl, by go_num, Nat.zero_le _, by omega, ⟨HJ.out.1, BlocksTo.zero _ _ _, HJ.out.2.1⟩, HJ.out.2.2⟩
          case round =>
            obtain ⟨q, a, dj, rfl, rfl, han, HQ⟩ := hrel
            have HDJ := Lib.hid (HQ.out.2.1.perm.1.trans HDS.out)
            have HT := Lib.hid (HQ.out.2.1.two HQ.out.1)
            by_cases hle : a + 2 * bs ≤ n
            · have hlez : ((a : Int) + 2 * (bs : Int)) ≤ (n : Int) := by omega
              have HW := Lib.hid (HSM.out dj wr a (a + bs) (a + 2 * bs) HQ.out.2.2 (by omega) (by omega) HDJ.out hle (by have := HT.out.1; rwa [Nat.min_eq_left (by omega)] at this) (by have := HT.out.2; rwa [Nat.min_eq_left (by omega)] at this))
              go_wp2_with fail
              refine HW.out.mono ?_
              rintro e w' ⟨rfl, d3, k1, k2, k3⟩
              have HN := Lib.hid (HQ.out.2.1.step (by rw [HDS.out]; exact Nat.le_refl _) HQ.out.1 rfl hle k1 k2)
              have HB3 := Lib.hid k3
              clear k1 k2 k3
              go_wp2_with fail
              go_roundw
              case rel =>
                refine ⟨q + 1, a + 2 * bs, d3, rfl, by go_num, hle, ?_, HN.out, HB3.out⟩
                rw [Nat.add_mul, Nat.one_mul, ← HQ.out.1]
              case measure => simp [intOf]; omega
            · have hlez : ¬ ((a : Int) + 2 * (bs : Int)) ≤ (n : Int) := by omega
              by_cases hm : a + bs < n
              · have hmz : (a : Int) + (bs : Int) < (n : Int) := by omega
                have HW := Lib.hid (HSM.out dj wr a (a + bs) n HQ.out.2.2 (by omega) hm HDJ.out (Nat.le_refl _) (by have := HT.out.1; rwa [Nat.min_eq_left (by omega)] at this) (by have := HT.out.2; rwa [Nat.min_eq_right (by omega)] at this))
                go_wp2_with fail
                refine HW.out.mono ?_
                rintro e w' ⟨rfl, d3, k1, k2, k3⟩
                have HN := Lib.hid (HQ.out.2.1.last (by rw [HDS.out]; exact Nat.le_refl _) HQ.out.1 (by omega) han k1 k2)
                have HB3 := Lib.hid k3
                clear k1 k2 k3
                go_wp2_with fail
                go_roundw
                case rel => exact ⟨2 * bs, d3, by go_num, by omega, by omega, HN.out.1, HN.out.2, HB3.out⟩
                case measure => simp [intOf]; omega
              · have hmz : ¬ (a : Int) + (bs : Int) < (n : Int) := by omega
                have HN := Lib.hid (HQ.out.2.1.last (d' := dj) (by rw [HDS.out]; exact Nat.le_refl _) HQ.out.1 (by omega) han (permIn_refl _ _ _) (by have := HT.out.1; rwa [Nat.min_eq_right (by omega)] at this))
                go_wp2_with fail
                go_roundw
                case rel => exact ⟨2 * bs, dj, by go_num, by omega, by omega, HN.out.1, HN.out.2, HQ.out.2.2⟩
                case measure => simp [intOf]; omega
        · have hltz : ¬ (bs : Int) < (n : Int) := by omega
          have HZ := Lib.hid (HJ.out.2.1.whole (by omega))
          go_wp2_with fail
          go_end0
          exact ⟨rfl, d2, HJ.out.1, HZ.out, HJ.out.2.2⟩
end Go.Proofs.YtnblfaagchflaaaGreatDoor
/- slices.SortStableFunc at records: from an own row to a sorted own row. -/
namespace Go.Proofs.YtnblfaagchflaaaGreatDoor
open Go.RowKit Go.Lib
open Go.Sort hiding Below
set_option linter.unusedVariables false
set_option linter.unusedSimpArgs false
section
variable {α : Type} [Inhabited α]
theorem flatK_list (enc : α → List Value) (k : Nat) (hk : ∀ x, (enc x).length = k) (d : Array α) : (flatK enc k d).toList = d.toList.flatMap enc := by
  apply List.ext_getElem?
  intro t
  by_cases ht : t < d.size * k
  · have k0 : 0 < k := by rcases Nat.eq_zero_or_pos k with h | h; · subst h; simp at ht
                          · exact h
    have hq : t / k < d.size := by rw [Nat.div_lt_iff_lt_mul k0]; exact ht
    have hr : t % k < k := Nat.mod_lt _ k0
    have e1 := flat_get enc k hk d.toList (t / k) (t % k) (by simpa using hq) hr
    rw [show t / k * k + t % k = t by rw [Nat.mul_comm]; exact Nat.div_add_mod t k] at e1
    have e2 := get_flatK enc k d t ht
    rw [e1]
    have hs : t < (flatK enc k d).size := by rw [size_flatK]; exact ht
    rw [getElem!_pos (flatK enc k d) t hs, getElem!_pos d (t / k) hq, getElem!_pos (enc d[t / k]) (t % k) (by rw [hk]; exact hr)] at e2
    rw [Array.getElem?_toList, Array.getElem?_eq_getElem hs, e2]
    simp only [Array.getElem_toList]
    rw [List.getElem?_eq_getElem]
  · rw [List.getElem?_eq_none (by simp; omega), List.getElem?_eq_none (by rw [flat_len enc k hk]; simp; omega)]
theorem own_sb {w : World} {base : Nat} {e : TypeId} {k : Nat} {enc : α → List Value} (hk : ∀ x, (enc x).length = k) {v : Value} {d : Array α} (hd : 0 < d.size) (h : w.ownsRow base e k v d.size (d.toList.flatMap enc)) :
    ∃ g cap, v = .slice (some ⟨g, 0, none⟩) d.size cap ∧ base ≤ g ∧ d.size ≤ cap ∧ cap ≤ maxLen ∧ SB enc k e w g 0 (cap * k) d w := by
  obtain ⟨h1, ⟨-, h2⟩ | ⟨g, cap, cur, hv, hb, hh, h3, h4, h5, h6⟩⟩ := h
  · omega
  · refine ⟨g, cap, hv, hb, h3, h4, fun j hj => ⟨?_, ?_⟩, ⟨cur, hh, h5⟩, ⟨rfl, rfl, rfl, Nat.le_refl _, fun _ _ _ => rfl⟩⟩
    · rw [size_flatK] at hj
      rw [Nat.zero_add, cell_of_row w g j cur e (0, 0) hh]
      have e1 : cur[j]? = (flatK enc k d)[j]? := by
        rw [← Array.getElem?_toList, ← Array.getElem?_toList, flatK_list enc k hk, ← h6, List.getElem?_take, if_pos hj]
      rw [e1, getElem!_pos (flatK enc k d) j (by rw [size_flatK]; exact hj), Array.getElem?_eq_getElem (by rw [size_flatK]; exact hj)]
      rfl
    · simp [World.frozen?, hh]
theorem sb_own {w w' : World} {base g cap : Nat} {e : TypeId} {k : Nat} {enc : α → List Value} (hk : ∀ x, (enc x).length = k) {d : Array α} (hb : base ≤ g) (h3 : d.size ≤ cap) (h4 : cap ≤ maxLen) (h : SB enc k e w g 0 (cap * k) d w') :
    w'.ownsRow base e k (.slice (some ⟨g, 0, none⟩) d.size cap) d.size (d.toList.flatMap enc) := by
  obtain ⟨cur, hh, hc⟩ := h.own
  refine ⟨by rw [flat_len enc k hk]; simp, .inr ⟨g, cap, cur, rfl, hb, hh, h3, h4, hc, ?_⟩⟩
  have hle : d.size * k ≤ cap * k := Nat.mul_le_mul_right _ h3
  rw [← flatK_list enc k hk]
  apply List.ext_getElem?
  intro j
  by_cases hj : j < d.size * k
  · rw [List.getElem?_take, if_pos hj]
    have := (h.hold j (by rw [size_flatK]; exact hj)).1
    rw [Nat.zero_add, cell_of_row w' g j cur e (0, 0) hh] at this
    rw [Array.getElem?_toList, this, Array.getElem?_toList, Array.getElem?_eq_getElem (by rw [size_flatK]; exact hj), getElem!_pos (flatK enc k d) j (by rw [size_flatK]; exact hj)]
    rfl
  · rw [List.getElem?_eq_none (by rw [List.length_take]; omega), List.getElem?_eq_none (by simp; omega)]
end
section
variable {α : Type}
/-- A comparison that is total. -/
structure TotC (c : α → α → Int) : Prop where
  self : ∀ x, c x x = 0
  anti : ∀ x y, c y x = - c x y
  trans : ∀ x y z, c x y < 0 → c y z < 0 → c x z < 0
  same : ∀ x y, c x y = 0 → ∀ z, c x z = c y z
theorem TotC.same' {c : α → α → Int} (h : TotC c) {x y : α} (he : c x y = 0) (z : α) : c z x = c z y := by rw [h.anti x z, h.anti y z, h.same x y he]
theorem TotC.or {c1 c2 : α → α → Int} (h1 : TotC c1) (h2 : TotC c2) : TotC (fun x y => orI (c1 x y) (c2 x y)) where
  self x := by unfold orI; rw [h1.self, if_pos rfl, h2.self]
  anti x y := by unfold orI; rw [h1.anti x y, h2.anti x y]; split <;> split <;> omega
  trans x y z a b := by
    unfold orI at a b ⊢
    by_cases e1 : c1 x y = 0
    · rw [if_pos e1] at a
      rw [h1.same x y e1 z]
      by_cases e2 : c1 y z = 0
      · rw [if_pos e2] at b ⊢; exact h2.trans _ _ _ a b
      · rw [if_neg e2] at b ⊢; exact b
    · rw [if_neg e1] at a
      by_cases e2 : c1 y z = 0
      · rw [← h1.same' e2 x]; rw [if_neg e1]; exact a
      · rw [if_neg e2] at b
        have := h1.trans _ _ _ a b
        rw [if_neg (by omega)]; exact this
  same x y e z := by
    unfold orI at e ⊢
    by_cases e1 : c1 x y = 0
    · rw [if_pos e1] at e; rw [h1.same x y e1 z, h2.same x y e z]
    · rw [if_neg e1] at e; exact absurd e e1
theorem TotC.swo {c : α → α → Int} (h : TotC c) : SWO (ltOf c) where
  irrefl x := by unfold ltOf; rw [h.self]; rfl
  trans x y z a b := by unfold ltOf at *; simp only [decide_eq_true_eq] at *; exact h.trans _ _ _ a b
  ntrans x y z a b := by
    unfold ltOf at *
    simp only [decide_eq_false_iff_not, Int.not_lt] at *
    have a' := h.anti x y
    have b' := h.anti y z
    have c' := h.anti x z
    by_cases e1 : c x y = 0
    · rw [h.same x y e1 z]; exact b
    · by_cases e2 : c y z = 0
      · rw [← h.same' e2 x]; exact a
      · have := h.trans z y x (by omega) (by omega); omega
theorem totI {f : α → Int} : TotC (fun x y => cmpI (f x) (f y)) where
  self x := by unfold cmpI; simp
  anti x y := by unfold cmpI; split <;> split <;> omega
  trans x y z a b := by unfold cmpI at *; split at a <;> split at b <;> (try omega) <;> (split <;> omega)
  same x y e z := by
    have : f x = f y := by unfold cmpI at e; split at e <;> (try split at e) <;> omega
    rw [this]
theorem cmpP_anti (a b : ByteArray) : cmpP b a = - cmpP a b := by
  unfold cmpP
  by_cases h : (validS a && validS b) = true
  · rw [if_pos h, if_pos (by rw [Bool.and_comm]; exact h)]; exact cmpL_anti _ _
  · rw [if_neg h, if_neg (by rw [Bool.and_comm]; exact h)]; rfl
theorem cmpP_eq {a b : ByteArray} (ha : validS a = true) (hb : validS b = true) (h : cmpP a b = 0) : a = b := by
  rw [cmpP_valid ha hb] at h
  have := cmpL_eq h
  cases a with | mk x => cases b with | mk y => exact congrArg ByteArray.mk (Array.toList_inj.1 this)
theorem totP {f : α → ByteArray} (hf : ∀ x, validS (f x) = true) : TotC (fun x y => cmpP (f x) (f y)) where
  self x := cmpP_self _
  anti x y := cmpP_anti _ _
  trans x y z a b := cmpP_trans (hf _) (hf _) (hf _) a b
  same x y e z := by rw [cmpP_eq (hf x) (hf y) e]
end

/-- A record whose paths are paths, and not too long. -/
def Rcd.good (r : Rcd) : Prop := r.small ∧ validS r.frm = true ∧ validS r.to = true
abbrev OkRcd := { r : Rcd // r.good }
def somePath : ByteArray := ⟨#[47, 47, 97, 47, 98]⟩
theorem somePath_ok : validS somePath = true := by decide
instance : Inhabited OkRcd := ⟨⟨⟨somePath, 0, 0, somePath, 0, 0⟩, ⟨by unfold somePath; decide, by unfold somePath; decide⟩, somePath_ok, somePath_ok⟩⟩
def OkRcd.enc (r : OkRcd) : List Value := r.1.cells
def OkRcd.cmp (a b : OkRcd) : Int := cmpR a.1 b.1
theorem okRcd_tot : TotC OkRcd.cmp := TotC.or (totP (f := fun r : OkRcd => r.1.to) fun r => r.2.2.2) (TotC.or (totI (f := fun r : OkRcd => r.1.num)) (TotC.or (totP (f := fun r : OkRcd => r.1.frm) fun r => r.2.2.1) (totI (f := fun r : OkRcd => r.1.first))))

theorem rcdFacts : SFacts Tryz.prog 29 57 87 6 where
  mixed := by kernel_rfl
  t0 := Tryz.underlying0
  a0 := Tryz.isAgg0
  z0 := Tryz.sizeOf0
  ti := Tryz.underlying3
  ai := Tryz.isAgg3
  zi := Tryz.sizeOf3
  vi := Tryz.zeroValue3
  tb := Tryz.underlying4
  ab := Tryz.isAgg4
  zb := Tryz.sizeOf4
  tu := Tryz.underlying98
  au := Tryz.isAgg98
  zu := Tryz.sizeOf98
  tS := Tryz.underlying29
  aS := Tryz.isAgg29
  zS := Tryz.sizeOf29
  aE := Tryz.isAgg57
  zE := Tryz.sizeOf57
  tF := Tryz.underlying87
  aF := Tryz.isAgg87
  zF := Tryz.sizeOf87
theorem okRcd_cmpB : CmpB Tryz.prog 43 OkRcd.enc OkRcd.cmp :=
  ⟨enters_of Tryz.func43 (by kernel_rfl) rfl, fun x y W => compareRecords_any x.1 y.1 W x.2.1 y.2.1⟩
theorem okRcd_len (x : OkRcd) : x.enc.length = 6 := rfl
theorem okRcd_one (x : OkRcd) : ∀ v ∈ x.enc, v.oneCell' = true := by
  intro v hv
  simp only [OkRcd.enc, Rcd.cells, List.mem_cons, List.not_mem_nil, or_false] at hv
  rcases hv with rfl | rfl | rfl | rfl | rfl | rfl <;> rfl

set_option maxHeartbeats 1000000 in
theorem insertion_none (v cv : Value) (w : World) : Calls Tryz.prog 108 #[v, .int .i64 0, .int .i64 0, cv] w fun e w' => e = .returned (.tuple #[]) ∧ w = w' := by
  go_enter Tryz.func108, Tryz.ntmps108
  go_wp2
  refine wp_loop_rounds 1 ?_
  rw [rounds_succ]
  go_wp2
  go_end0
  exact ⟨rfl, rfl⟩
set_option maxHeartbeats 1000000 in
theorem stable_none (v cv : Value) (w : World) : Calls Tryz.prog 76 #[v, .int .i64 0, cv] w fun e w' => e = .returned (.tuple #[]) ∧ w = w' := by
  have H := Lib.hid (insertion_none v cv w)
  go_enter Tryz.func76, Tryz.ntmps76
  go_wp2
  refine wp_loop_rounds 1 ?_
  rw [rounds_succ]
  go_wp2_with fail
  refine H.out.mono ?_
  rintro e w' ⟨rfl, rfl⟩
  go_wp2
  refine wp_loop_rounds 1 ?_
  rw [rounds_succ]
  go_wp2
  go_end0
  exact ⟨rfl, rfl⟩

set_option maxHeartbeats 1000000 in
theorem sortStable_any (l : List OkRcd) (v : Value) (base : Nat) (w : World) (hown : w.ownsRow base 57 6 v l.length (l.flatMap OkRcd.enc)) (hl : l.length ≤ 10000000) :
    Calls Tryz.prog 42 #[v, .func (.func 43) #[] #[]] w
      fun e w' => e = .returned (.tuple #[]) ∧ ∃ l' : List OkRcd, l'.Perm l ∧ l'.Pairwise (fun a b => ¬ OkRcd.cmp b a < 0) ∧ w'.ownsRow base 57 6 v l.length (l'.flatMap OkRcd.enc) ∧ w.grownBy w' v.ownBlock := by
  by_cases h0 : l.length = 0
  · have hl0 : l = [] := List.eq_nil_of_length_eq_zero h0
    subst hl0
    have hv : ∃ A c, v = .slice A 0 c := by
      rcases hown.2 with ⟨rfl, -⟩ | ⟨g, cap, cur, rfl, -⟩
      · exact ⟨_, _, rfl⟩
      · exact ⟨_, _, rfl⟩
    obtain ⟨A, c, rfl⟩ := hv
    have HO := Lib.hid hown
    have H := Lib.hid (stable_none (.slice A 0 c) (.func (.func 43) #[] #[]) w)
    clear hown
    go_enter Tryz.func42, Tryz.ntmps42
    go_wp2_with fail
    refine H.out.mono ?_
    rintro e w' ⟨rfl, rfl⟩
    go_wp2
    go_end0
    exact ⟨rfl, HO.out, ⟨rfl, rfl, rfl, Nat.le_refl _, fun _ _ _ => rfl⟩⟩
  · have hd : l.toArray.size = l.length := by simp
    obtain ⟨g, cap, rfl, hb, h3, h4, hSB⟩ := own_sb (d := l.toArray) okRcd_len (by rw [hd]; omega) (by rw [hd]; exact hown)
    rw [hd] at h3 ⊢
    have H := Lib.hid (stable_rcd rcdFacts Tryz.func138 Tryz.func131 Tryz.func109 Tryz.func108 Tryz.func76
      OkRcd.enc okRcd_len okRcd_one OkRcd.cmp okRcd_tot.swo _ okRcd_cmpB w w g 0 (cap * 6) cap l.toArray hSB l.length hd (by omega))
    clear hown hSB
    go_enter Tryz.func42, Tryz.ntmps42
    go_wp2_with fail
    refine H.out.mono ?_
    rintro e w' ⟨rfl, d', k1, k2, k3⟩
    have HB : Hid (PermIn 0 l.length l.toArray d' ∧ SortedIn (ltOf OkRcd.cmp) 0 l.length d' ∧ SB OkRcd.enc 6 57 w g 0 (cap * 6) d' w') := Lib.hid ⟨k1, k2, k3⟩
    clear k1 k2 k3
    go_wp2
    go_end0
    obtain ⟨k1, k2, k3⟩ := HB.out
    have hs : d'.size = l.length := by rw [k1.1, hd]
    refine ⟨rfl, d'.toList, ?_, ?_, ?_, ?_⟩
    · have := k1.2.2
      rw [← hs, Array.extract_size, hs] at this
      rw [← hd, Array.extract_size] at this
      simpa using this
    · rw [List.pairwise_iff_getElem]
      intro i j hi hj hij
      have hi' : i < d'.size := by simpa using hi
      have hj' : j < d'.size := by simpa using hj
      have := k2 i j (Nat.zero_le _) hij (by omega)
      rw [getElem!_pos d' j hj', getElem!_pos d' i hi'] at this
      simpa [ltOf] using this
    · have := sb_own okRcd_len hb (by rw [hs]; exact h3) h4 k3
      rw [hs] at this
      exact this
    · exact k3.gr
end Go.Proofs.YtnblfaagchflaaaGreatDoor
