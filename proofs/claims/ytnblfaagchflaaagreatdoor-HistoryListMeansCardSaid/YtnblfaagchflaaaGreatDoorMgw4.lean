/- slices.stableCmpFunc and slices.SortStableFunc at records. -/
import Derived.Test.YtnblfaagchflaaaGreatDoorMzSm3
import Derived.Test.YtnblfaagchflaaaGreatDoorMgw1
import Derived.Test.YtnblfaagchflaaaGreatDoorShelf
namespace Go.Proofs.YtnblfaagchflaaaGreatDoor
open Go.RowKit Go.Lib
open Go.Sort hiding Below
set_option linter.unusedVariables false
set_option linter.unusedSimpArgs false
variable {P : Program} {α : Type} [Inhabited α]

/-- Pairs of blocks ahead of a; single blocks from a on. -/
structure Stb (lt : α → α → Bool) (d0 d : Array α) (n bs q : Nat) : Prop where
  perm : PermIn 0 n d0 d
  upto : BlocksTo lt d n (2 * bs) q
  fro : BlocksFrom lt d n bs (2 * q)
theorem Stb.step {lt : α → α → Bool} {d0 d d' : Array α} {n bs q a b : Nat} (h : Stb lt d0 d n bs q) (hn : n ≤ d0.size) (ha : a = q * (2 * bs)) (hb : b = a + 2 * bs) (hbn : b ≤ n) (hp : PermIn a b d d') (hs : SortedIn lt a b d') : Stb lt d0 d' n bs (q + 1) := by
  have e1 : (q + 1) * (2 * bs) = b := by rw [Nat.add_mul, Nat.one_mul, ← ha, hb]
  have e2 : (2 * q + 2) * bs = b := by
    rw [← e1, Nat.add_mul, Nat.add_mul, Nat.one_mul, Nat.mul_assoc 2 q bs, ← Nat.mul_assoc q 2 bs, Nat.mul_comm q 2, Nat.mul_assoc 2 q bs]
  refine ⟨permIn_trans _ _ _ _ _ h.perm (permIn_mono _ _ _ _ _ _ (Nat.zero_le _) hbn (by rw [h.perm.1]; exact hn) hp), h.upto.step ha hp ?_, ?_⟩
  · rw [← ha, e1, Nat.min_eq_left hbn]; exact hs
  · have := h.fro.step (lo := a) (hi := b) (d' := d') e2.symm hp
    rw [show 2 * (q + 1) = 2 * q + 2 by omega]; exact this
theorem Stb.last {lt : α → α → Bool} {d0 d d' : Array α} {n bs q a : Nat} (h : Stb lt d0 d n bs q) (hn : n ≤ d0.size) (ha : a = q * (2 * bs)) (hbn : n < a + 2 * bs) (han : a ≤ n) (hp : PermIn a n d d') (hs : SortedIn lt a n d') : PermIn 0 n d0 d' ∧ BlocksFrom lt d' n (2 * bs) 0 := by
  have e1 : (q + 1) * (2 * bs) = a + 2 * bs := by rw [Nat.add_mul, Nat.one_mul, ← ha]
  refine ⟨permIn_trans _ _ _ _ _ h.perm (permIn_mono _ _ _ _ _ _ (Nat.zero_le _) (Nat.le_refl _) (by rw [h.perm.1]; exact hn) hp), BlocksTo.all (h.upto.step (q := q) ha hp ?_) (q := q + 1) (by rw [e1]; omega)⟩
  rw [← ha, e1, Nat.min_eq_right (by omega)]; exact hs
theorem Stb.two {lt : α → α → Bool} {d0 d : Array α} {n bs q a : Nat} (h : Stb lt d0 d n bs q) (ha : a = q * (2 * bs)) : SortedIn lt a (min (a + bs) n) d ∧ SortedIn lt (a + bs) (min (a + 2 * bs) n) d := by
  have e0 : (2 * q) * bs = a := by rw [ha, Nat.mul_comm 2 q, Nat.mul_assoc]
  have k1 := h.fro (2 * q) (Nat.le_refl _)
  have k2 := h.fro (2 * q + 1) (by omega)
  rw [e0, Nat.add_mul (2 * q) 1, e0, Nat.one_mul] at k1
  rw [Nat.add_mul (2 * q) 1, e0, Nat.one_mul, Nat.add_mul (2 * q + 1) 1, Nat.add_mul (2 * q) 1, e0, Nat.one_mul] at k2
  exact ⟨k1, by rw [show a + 2 * bs = a + bs + bs by omega]; exact k2⟩

set_option maxHeartbeats 4000000 in
set_option maxRecDepth 100000 in
theorem stable_rcd {k : Nat} (L : SFacts P 29 57 87 k) (F0 : P.funcs[138]? = some Tryz.f138)
    (F2 : P.funcs[131]? = some Tryz.f131) (F3 : P.funcs[109]? = some Tryz.f109)
    (F4 : P.funcs[108]? = some Tryz.f108) (F : P.funcs[76]? = some Tryz.f76)
    (enc : α → List Value) (hk : ∀ x, (enc x).length = k) (h1 : ∀ x, ∀ v ∈ enc x, v.oneCell' = true) (cf : α → α → Int) (hO : SWO (ltOf cf)) (g : Nat) (hC : CmpB P g enc cf) (w0 W : World) (blk off C cap : Nat) (d : Array α) (h : SB enc k 57 w0 blk off C d W) (n : Nat) (hn : d.size = n) (hsz : n < 100000000) :
    Calls P 76 #[.slice (some ⟨blk, off, none⟩) n cap, .int .i64 n, .func (.func g) #[] #[]] W fun e w' => e = .returned (.tuple #[]) ∧ ∃ d', PermIn 0 n d d' ∧ SortedIn (ltOf cf) 0 n d' ∧ SB enc k 57 w0 blk off C d' w' := by
  have mixed := L.mixed; have t0 := L.t0; have a0 := L.a0; have z0 := L.z0; have ti := L.ti; have ai := L.ai; have zi := L.zi; have vi := L.vi; have tb := L.tb; have ab := L.ab; have zb := L.zb; have tu := L.tu; have au := L.au; have zu := L.zu; have tS := L.tS; have aS := L.aS; have zS := L.zS; have aE := L.aE; have zE := L.zE; have tF := L.tF; have aF := L.aF; have zF := L.zF
  have HIN := Lib.hid (fun (d' : Array α) (W' : World) (a b : Nat) (h : SB enc k 57 w0 blk off C d' W') (hd : d'.size = n) (h2 : a ≤ b) (h3 : b ≤ n) => insertion_rcd L F4 enc hk h1 cf g hC w0 W' blk off C cap a b d' h h2 (by omega) (by omega))
  have HSM := Lib.hid (fun (d' : Array α) (W' : World) (a m b : Nat) => symMerge_rcd L F0 F2 F3 enc hk h1 cf hO g hC w0 blk off C cap n (by omega) (b - a) a m b d' W' (Nat.le_refl _))
  have e49 : ∀ args w, (callFunc 108 args).run P w = .ok (.enter 108 args) w := enters_of F4 (by kernel_rfl) rfl
  have e50 : ∀ args w, (callFunc 109 args).run P w = .ok (.enter 109 args) w := enters_of F3 (by kernel_rfl) rfl
  have HS := Lib.hid h
  have HO := Lib.hid hO
  have HDS := Lib.hid hn
  have HIS := Lib.hid (fun (d' : Array α) (a b : Nat) (hd : d'.size = n) (h1 : a ≤ b) (h2 : b ≤ n) => insertionSort_holds (lt := ltOf cf) hO d' a b h1 (by omega))
  clear h hk h1 hC hO hn
  go_enter F, Tryz.ntmps76
  go_wp2_with fail
  go_loopw [7, 8] (fun s t wr => ∃ (q a : Nat) (dk : Array α), s = .int .i64 a ∧ t = .int .i64 (a + 20 : Nat) ∧ a ≤ n ∧ Hid (a = q * 20 ∧ PermIn 0 n d dk ∧ BlocksTo (ltOf cf) dk n 20 q ∧ SB enc k 57 w0 blk off C dk wr)) (fun s _ _ => n - (intOf s).toNat)
  case atStart => exact ⟨0, 0, d, rfl, by go_num, Nat.zero_le _, rfl, permIn_refl _ _ _, BlocksTo.zero _ _ _, HS.out⟩
  case round =>
    obtain ⟨q, a, dk, rfl, rfl, han, HI⟩ := hrel
    have hdk : dk.size = n := HI.out.2.1.1.trans HDS.out
    have HDK := Lib.hid hdk
    clear hdk
    by_cases hle : a + 20 ≤ n
    · have hlez : ((a : Int) + 20) ≤ (n : Int) := by omega
      have HW := Lib.hid (HIN.out dk wr a (a + 20) HI.out.2.2.2 HDK.out (by omega) hle)
      rw [HDK.out] at HW
      have HN := Lib.hid (HIS.out dk a (a + 20) HDK.out (by omega) hle)
      go_wp2_with fail
      refine HW.out.mono ?_
      rintro e w' ⟨rfl, hB⟩
      have HB := Lib.hid hB
      clear hB
      go_wp2_with fail
      go_roundw
      case rel =>
        have e1 : (q + 1) * 20 = a + 20 := by have := HI.out.1; omega
        refine ⟨q + 1, a + 20, _, by go_num, by go_num, hle, e1.symm, permIn_trans _ _ _ _ _ HI.out.2.1 (permIn_mono _ _ _ _ _ _ (Nat.zero_le _) hle (by rw [HDK.out]; exact Nat.le_refl _) HN.out.1), HI.out.2.2.1.step HI.out.1 HN.out.1 ?_, HB.out⟩
        rw [← HI.out.1, e1, Nat.min_eq_left hle]; exact HN.out.2
      case measure => simp [intOf]; omega
    · have hlez : ¬ ((a : Int) + 20) ≤ (n : Int) := by omega
      have HW := Lib.hid (HIN.out dk wr a n HI.out.2.2.2 HDK.out (by omega) (Nat.le_refl _))
      rw [HDK.out] at HW
      have HN := Lib.hid (HIS.out dk a n HDK.out (by omega) (Nat.le_refl _))
      go_wp2_with fail
      refine HW.out.mono ?_
      rintro e w' ⟨rfl, hB⟩
      have hF : PermIn 0 n d (insertionSort (ltOf cf) dk a n) ∧ BlocksFrom (ltOf cf) (insertionSort (ltOf cf) dk a n) n 20 0 := by
        have e1 : (q + 1) * 20 = a + 20 := by have := HI.out.1; omega
        refine ⟨permIn_trans _ _ _ _ _ HI.out.2.1 (permIn_mono _ _ _ _ _ _ (Nat.zero_le _) (Nat.le_refl _) (by rw [HDK.out]; exact Nat.le_refl _) HN.out.1), BlocksTo.all (q := q + 1) (HI.out.2.2.1.step HI.out.1 HN.out.1 ?_) (by omega)⟩
        rw [← HI.out.1, e1, Nat.min_eq_right (by omega)]; exact HN.out.2
      have HB := Lib.hid hB
      have HF := Lib.hid hF
      clear hB hF
      generalize insertionSort (ltOf cf) dk a n = d1 at HB HF
      go_wp2_with fail
      go_loopw [6, 7, 8, 9] (fun s t u v wr => ∃ (bs : Nat) (dk : Array α), s = .int .i64 bs ∧ 20 ≤ bs ∧ bs < 200000000 ∧ Hid (PermIn 0 n d dk ∧ BlocksFrom (ltOf cf) dk n bs 0 ∧ SB enc k 57 w0 blk off C dk wr)) (fun s _ _ _ _ => n - (intOf s).toNat)
      case atStart => exact ⟨20, d1, rfl, Nat.le_refl _, by omega, HF.out.1, HF.out.2, HB.out⟩
      case round =>
        obtain ⟨bs, d2, rfl, hbs, hbm, HJ⟩ := hrel
        by_cases hlt : bs < n
        · have hltz : (bs : Int) < (n : Int) := by omega
          go_wp2_with fail
          go_loopw [7, 8] (fun s t wr => ∃ (q a : Nat) (dk : Array α), s = .int .i64 a ∧ t = .int .i64 (a + 2 * bs : Nat) ∧ a ≤ n ∧ Hid (a = q * (2 * bs) ∧ Stb (ltOf cf) d dk n bs q ∧ SB enc k 57 w0 blk off C dk wr)) (fun s _ _ => n - (intOf s).toNat)
          case atStart => exact ⟨0, 0, d2, rfl, by go_num, Nat.zero_le _, by omega, ⟨HJ.out.1, BlocksTo.zero _ _ _, HJ.out.2.1⟩, HJ.out.2.2⟩
          case round =>
            obtain ⟨q, a, dj, rfl, rfl, han, HQ⟩ := hrel
            have HDJ := Lib.hid (HQ.out.2.1.perm.1.trans HDS.out)
            have HT := Lib.hid (HQ.out.2.1.two HQ.out.1)
            by_cases hle : a + 2 * bs ≤ n
            · have hlez : ((a : Int) + 2 * (bs : Int)) ≤ (n : Int) := by omega
              have HW := Lib.hid (HSM.out dj wr a (a + bs) (a + 2 * bs) HQ.out.2.2 (by omega) (by omega) HDJ.out hle (by have := HT.out.1; rwa [Nat.min_eq_left (by omega)] at this) (by have := HT.out.2; rwa [Nat.min_eq_left (by omega)] at this))
              go_wp2_with fail
              refine HW.out.mono ?_
              rintro e w' ⟨rfl, d3, k1, k2, k3⟩
              have HN := Lib.hid (HQ.out.2.1.step (by rw [HDS.out]; exact Nat.le_refl _) HQ.out.1 rfl hle k1 k2)
              have HB3 := Lib.hid k3
              clear k1 k2 k3
              go_wp2_with fail
              go_roundw
              case rel =>
                refine ⟨q + 1, a + 2 * bs, d3, rfl, by go_num, hle, ?_, HN.out, HB3.out⟩
                rw [Nat.add_mul, Nat.one_mul, ← HQ.out.1]
              case measure => simp [intOf]; omega
            · have hlez : ¬ ((a : Int) + 2 * (bs : Int)) ≤ (n : Int) := by omega
              by_cases hm : a + bs < n
              · have hmz : (a : Int) + (bs : Int) < (n : Int) := by omega
                have HW := Lib.hid (HSM.out dj wr a (a + bs) n HQ.out.2.2 (by omega) hm HDJ.out (Nat.le_refl _) (by have := HT.out.1; rwa [Nat.min_eq_left (by omega)] at this) (by have := HT.out.2; rwa [Nat.min_eq_right (by omega)] at this))
                go_wp2_with fail
                refine HW.out.mono ?_
                rintro e w' ⟨rfl, d3, k1, k2, k3⟩
                have HN := Lib.hid (HQ.out.2.1.last (by rw [HDS.out]; exact Nat.le_refl _) HQ.out.1 (by omega) han k1 k2)
                have HB3 := Lib.hid k3
                clear k1 k2 k3
                go_wp2_with fail
                go_roundw
                case rel => exact ⟨2 * bs, d3, by go_num, by omega, by omega, HN.out.1, HN.out.2, HB3.out⟩
                case measure => simp [intOf]; omega
              · have hmz : ¬ (a : Int) + (bs : Int) < (n : Int) := by omega
                have HN := Lib.hid (HQ.out.2.1.last (d' := dj) (by rw [HDS.out]; exact Nat.le_refl _) HQ.out.1 (by omega) han (permIn_refl _ _ _) (by have := HT.out.1; rwa [Nat.min_eq_right (by omega)] at this))
                go_wp2_with fail
                go_roundw
                case rel => exact ⟨2 * bs, dj, by go_num, by omega, by omega, HN.out.1, HN.out.2, HQ.out.2.2⟩
                case measure => simp [intOf]; omega
        · have hltz : ¬ (bs : Int) < (n : Int) := by omega
          have HZ := Lib.hid (HJ.out.2.1.whole (by omega))
          go_wp2_with fail
          go_end0
          exact ⟨rfl, d2, HJ.out.1, HZ.out, HJ.out.2.2⟩
end Go.Proofs.YtnblfaagchflaaaGreatDoor
/- The contracts of path.components, Split, Join. -/
namespace Go.Proofs.YtnblfaagchflaaaGreatDoor
open Go.RowKit
set_option linter.unusedVariables false

/-- The library's variable MaxLen holds some number. -/
def Env (w : World) : Prop := ∃ m : Int, w.cell? ⟨0, 0, none⟩ = some (.int .i64 m)
theorem Env.below {w w' : World} (h : Env w) (hb : Below w.heap.size w w') : Env w' := by
  obtain ⟨m, hm⟩ := h; exact ⟨m, (hb.cell (p := ⟨0, 0, none⟩) (cell_lt hm)).trans hm⟩
theorem Env.alloc {w : World} (h : Env w) (o : Obj) : Env (w.alloc o) := h.below ((Below.refl _ _).alloc (Nat.le_refl _) _)

def baL (p : List UInt8) : ByteArray := ⟨p.toArray⟩
def strCells (ps : List (List UInt8)) : List Value := ps.map fun p => .string (baL p)
theorem baL_data (p : List UInt8) : (baL p).data.toList = p := rfl
theorem baL_size (p : List UInt8) : (baL p).size = p.length := by simp [baL, ByteArray.size]

theorem cutP_yes (s p body : ByteArray) (w : World) (h : Lib.hasPrefix s.data.toList p.data.toList = true) (hb : body.data.toList = s.data.toList.drop p.data.toList.length) :
    Calls Tryz.prog 115 #[.string s, .string p] w fun e w' => e = .returned (.tuple #[.string body, .bool true]) ∧ w = w' := by
  refine (Tryz.strings_CutPrefix s p w).mono ?_
  rintro e w' ⟨rfl, rfl⟩
  rw [h]
  have : (⟨(Lib.trimPrefix s.data.toList p.data.toList).toArray⟩ : ByteArray) = body := ba_ext (by rw [hb]; unfold Lib.trimPrefix; rw [h]; rfl)
  rw [this]
  exact ⟨rfl, rfl⟩
theorem cutP_no (s p : ByteArray) (w : World) (h : Lib.hasPrefix s.data.toList p.data.toList = false) :
    Calls Tryz.prog 115 #[.string s, .string p] w fun e w' => e = .returned (.tuple #[.string s, .bool false]) ∧ w = w' := by
  refine (Tryz.strings_CutPrefix s p w).mono ?_
  rintro e w' ⟨rfl, rfl⟩
  rw [h]
  have : (⟨(Lib.trimPrefix s.data.toList p.data.toList).toArray⟩ : ByteArray) = s := ba_ext (by unfold Lib.trimPrefix; rw [h]; rfl)
  rw [this]
  exact ⟨rfl, rfl⟩

theorem split_any (s : ByteArray) (w : World) (he : Env w) (hs : s.size < 4294967281) :
    Calls Tryz.prog 116 #[.string s, .string ⟨#[47]⟩] w fun e w' =>
      e = .returned (.slice (some ⟨w.heap.size, 0, none⟩) (splitL s.data.toList).length (splitL s.data.toList).length) ∧ w.alloc (.cells (strCells (splitL s.data.toList)).toArray 9) = w' := by
  obtain ⟨m, hm⟩ := he
  refine (Tryz.strings_Split s ⟨#[47]⟩ m w hs hm (by decide)).mono ?_
  rintro e w' ⟨rfl, rfl⟩
  rw [countB_eq, splitB_eq]
  exact ⟨rfl, by unfold strCells; rw [List.map_map]; rfl⟩

theorem Blk.strs {w : World} {g : Nat} {ps : List (List UInt8)} (h : Blk w g 9 (strCells ps)) (k : Nat) (hk : k < ps.length) : w.cell? ⟨g, k, none⟩ = some (.string (baL ps[k])) := by
  rw [h.cell]; simp [strCells, hk]

set_option maxHeartbeats 1000000 in
theorem components_some (s : ByteArray) (least : Nat) (ps : List (List UInt8)) (w : World) (he : Env w) (hs : s.size ≤ 2000000) (hl : least ≤ 2) (h : dirL s.data.toList least = some ps) :
    Calls Tryz.prog 90 #[.string s, .int .i64 least] w fun e w' => e = .returned (.tuple #[.slice (some ⟨w.heap.size, 0, none⟩) ps.length ps.length, .bool true]) ∧ w.alloc (.cells (strCells ps).toArray 9) = w' := by
  unfold dirL at h
  split at h
  · rename_i hc
    obtain ⟨h1, h2, h3⟩ := hc
    injection h with h
    have hbl : (baL (s.data.toList.drop 2)).size ≤ 2000000 := by rw [baL_size, List.length_drop]; have : s.data.toList.length = s.size := rfl; omega
    have hmem : ∀ p ∈ ps, compL p = true ∧ p.length ≤ 2000000 := fun p hp => by
      rw [← h] at hp
      exact ⟨List.all_eq_true.1 h3 p hp, by have := (splitL_mem hp).2; rw [baL_size] at hbl; omega⟩
    have HS := Lib.hid (split_any (baL (s.data.toList.drop 2)) w he (by omega))
    have HP := Lib.hid (cutP_yes s ⟨#[47, 47]⟩ (baL (s.data.toList.drop 2)) w h1 rfl)
    rw [baL_data, h] at HS
    rw [h] at h2
    have hlen : ps.length ≤ 2000001 := by rw [← h]; have := splitL_length_le (s.data.toList.drop 2); rw [baL_size] at hbl; omega
    have HM := Lib.hid hmem
    have hd2 : decide (ps.length < least) = false := by simp; omega
    have hd3 : decide ((ps.length : Int) < (least : Int)) = false := by simp; omega
    have HB := Lib.hid (blk_new w (strCells ps) 9)
    clear h h1 h3 hmem
    generalize w.alloc (.cells (strCells ps).toArray 9) = W at HS HB ⊢
    go_enter Tryz.func90, Tryz.ntmps90
    go_wp2_with fail
    refine HP.out.mono ?_
    rintro e w' ⟨rfl, rfl⟩
    go_wp2_with fail
    refine HS.out.mono ?_
    rintro e w' ⟨rfl, rfl⟩
    go_wp2
    go_loop [26] (fun i => ∃ k : Nat, k ≤ ps.length ∧ i = .int .i64 k) (fun i => ps.length - (intOf i).toNat)
    case atStart => exact ⟨0, Nat.zero_le _, rfl⟩
    case round =>
      obtain ⟨k, hk, rfl⟩ := hrel
      by_cases hlt : k < ps.length
      · have hcell := HB.out.strs k hlt
        obtain ⟨hc1, hc2⟩ := HM.out ps[k] (by simp)
        have hcs : compS (baL ps[k]) = true := hc1
        go_wp2_with (go_at_call 52; refine (component_any _ _ (by rw [baL_size]; unfold maxLen; omega)).mono ?_; rintro e w' ⟨rfl, rfl⟩)
        go_round
        case rel => exact ⟨k + 1, by omega, by go_num⟩
        case measure => simp [intOf]; omega
      · go_wp2
        go_ret2
        exact ⟨rfl, rfl⟩
  · cases h

theorem all_take {α : Type} (ps : List α) (f : α → Bool) (k : Nat) (hk : k < ps.length) (h : (ps.take k).all f = true) (hf : f ps[k] = true) : (ps.take (k + 1)).all f = true := by
  rw [List.take_succ_eq_append_getElem hk, List.all_append, h]; simp [hf]

set_option maxHeartbeats 1000000 in
theorem components_none (s : ByteArray) (least : Nat) (w : World) (he : Env w) (hs : s.size ≤ 2000000) (h : dirL s.data.toList least = none) :
    Calls Tryz.prog 90 #[.string s, .int .i64 least] w fun e w' => e = .returned (.tuple #[.slice none 0 0, .bool false]) ∧ Below w.heap.size w w' := by
  cases h1 : Lib.hasPrefix s.data.toList [47, 47]
  · have HP := Lib.hid (cutP_no s ⟨#[47, 47]⟩ w h1)
    clear h h1
    go_enter Tryz.func90, Tryz.ntmps90
    go_wp2_with fail
    refine HP.out.mono ?_
    rintro e w' ⟨rfl, rfl⟩
    go_wp2
    go_ret2
    exact ⟨rfl, Below.refl _ _⟩
  · have hbl : (baL (s.data.toList.drop 2)).size ≤ 2000000 := by rw [baL_size, List.length_drop]; have : s.data.toList.length = s.size := rfl; omega
    have HS := Lib.hid (split_any (baL (s.data.toList.drop 2)) w he (by omega))
    have HP := Lib.hid (cutP_yes s ⟨#[47, 47]⟩ (baL (s.data.toList.drop 2)) w h1 rfl)
    rw [baL_data] at HS
    have hmem : ∀ p ∈ splitL (s.data.toList.drop 2), p.length ≤ 2000000 := fun p hp => by
      have := (splitL_mem hp).2; rw [baL_size] at hbl; omega
    have hlen : (splitL (s.data.toList.drop 2)).length ≤ 2000001 := by have := splitL_length_le (s.data.toList.drop 2); rw [baL_size] at hbl; omega
    have hno : ¬ (least ≤ (splitL (s.data.toList.drop 2)).length ∧ (splitL (s.data.toList.drop 2)).all compL = true) := fun hc => by
      unfold dirL at h; rw [if_pos ⟨h1, hc⟩] at h; cases h
    clear h h1
    generalize splitL (s.data.toList.drop 2) = ps at HS hmem hlen hno
    have HB := Lib.hid (blk_new w (strCells ps) 9)
    have HM := Lib.hid hmem
    have hbw : Below w.heap.size w (w.alloc (.cells (strCells ps).toArray 9)) := (Below.refl _ _).alloc (Nat.le_refl _) _
    clear hmem
    by_cases h2 : least ≤ ps.length
    · have hd2 : decide (ps.length < least) = false := by simp; omega
      have hd3 : decide ((ps.length : Int) < (least : Int)) = false := by simp; omega
      have hno' : ps.all compL = false := by cases hh : ps.all compL; rfl; exact absurd ⟨h2, hh⟩ hno
      have HN := Lib.hid hno'
      clear hno hno'
      generalize w.alloc (.cells (strCells ps).toArray 9) = W at HS HB hbw
      go_enter Tryz.func90, Tryz.ntmps90
      go_wp2_with fail
      refine HP.out.mono ?_
      rintro e w' ⟨rfl, rfl⟩
      go_wp2_with fail
      refine HS.out.mono ?_
      rintro e w' ⟨rfl, rfl⟩
      go_wp2
      go_loop [26] (fun i => ∃ k : Nat, k ≤ ps.length ∧ i = .int .i64 k ∧ (ps.take k).all compL = true) (fun i => ps.length - (intOf i).toNat)
      case atStart => exact ⟨0, Nat.zero_le _, rfl, rfl⟩
      case round =>
        obtain ⟨k, hk, rfl, hall⟩ := hrel
        have HA := Lib.hid hall
        clear hall
        by_cases hlt : k < ps.length
        · have hcell := HB.out.strs k hlt
          have hc2 := HM.out ps[k] (by simp)
          cases hc1 : compL ps[k]
          · have hcs : compS (baL ps[k]) = false := hc1
            clear hc1
            go_wp2_with (go_at_call 52; refine (component_any _ _ (by rw [baL_size]; unfold maxLen; omega)).mono ?_; rintro e w' ⟨rfl, rfl⟩)
            go_ret2
            exact ⟨rfl, hbw⟩
          · have hcs : compS (baL ps[k]) = true := hc1
            have HC := Lib.hid hc1
            clear hc1
            go_wp2_with (go_at_call 52; refine (component_any _ _ (by rw [baL_size]; unfold maxLen; omega)).mono ?_; rintro e w' ⟨rfl, rfl⟩)
            go_round
            case rel => exact ⟨k + 1, by omega, by go_num, all_take ps compL k hlt HA.out HC.out⟩
            case measure => simp [intOf]; omega
        · have := HA.out
          rw [List.take_of_length_le (by omega), HN.out] at this
          cases this
    · have hd2 : decide (ps.length < least) = true := by simp; omega
      have hd3 : decide ((ps.length : Int) < (least : Int)) = true := by simp; omega
      clear hno
      generalize w.alloc (.cells (strCells ps).toArray 9) = W at HS HB hbw
      go_enter Tryz.func90, Tryz.ntmps90
      go_wp2_with fail
      refine HP.out.mono ?_
      rintro e w' ⟨rfl, rfl⟩
      go_wp2_with fail
      refine HS.out.mono ?_
      rintro e w' ⟨rfl, rfl⟩
      go_wp2
      go_ret2
      exact ⟨rfl, hbw⟩

theorem split_some (s : ByteArray) (ps : List (List UInt8)) (w : World) (he : Env w) (hs : s.size ≤ 2000000) (h : dirL s.data.toList 2 = some ps) :
    Calls Tryz.prog 55 #[.string s] w fun e w' => e = .returned (.tuple #[.slice (some ⟨w.heap.size, 0, none⟩) ps.length ps.length, .int .i64 0]) ∧ w.alloc (.cells (strCells ps).toArray 9) = w' := by
  have H := Lib.hid (components_some s 2 ps w he hs (by omega) h)
  generalize w.alloc (.cells (strCells ps).toArray 9) = W at H ⊢
  clear h he
  go_enter Tryz.func55, Tryz.ntmps55
  go_wp2_with fail
  refine H.out.mono ?_
  rintro e w' ⟨rfl, rfl⟩
  go_wp2
  go_ret2
  exact ⟨rfl, rfl⟩
theorem split_none (s : ByteArray) (w : World) (he : Env w) (hs : s.size ≤ 2000000) (h : dirL s.data.toList 2 = none) :
    Calls Tryz.prog 55 #[.string s] w fun e w' => e = .returned (.tuple #[.slice none 0 0, .int .i64 20]) ∧ Below w.heap.size w w' := by
  have H := Lib.hid (components_none s 2 w he hs h)
  clear h he
  go_enter Tryz.func55, Tryz.ntmps55
  go_wp2_with fail
  refine H.out.mono ?_
  rintro e w' ⟨rfl, hb⟩
  go_wp2
  go_ret2
  exact ⟨rfl, hb⟩

end Go.Proofs.YtnblfaagchflaaaGreatDoor
