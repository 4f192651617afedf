/- The contracts of the statements' own helpers: large, words, awake. -/
import Derived.Test.YtfifalpacagacaaDoorKRepl
import Derived.Lib.SlBytesConst
namespace Go.Proofs.YtfifalpacagacaaDoor.kw
set_option linter.unusedVariables false
set_option linter.unusedSimpArgs false
set_option maxRecDepth 100000
open Go.RowKit

def largeB (b : List UInt8) (l : List ByteArray) : Bool := l.any (fun s => decide (60 < s.size)) || (decide (1500 < b.length) || decide (8 < l.length))
def wordsB (l : List (ByteArray × ByteArray)) : Bool := l.any (fun s => decide (60 < s.1.size) || decide (1100 < s.2.size)) || decide (8 < l.length)

theorem any_stop {α : Type} {l : List α} {p : α → Bool} {k : Nat} (h : k < l.length) (hp : p l[k] = true) : l.any p = true := by
  rw [List.any_eq_true]; exact ⟨l[k], by simp, hp⟩
theorem any_step {α : Type} {l : List α} {p : α → Bool} {k : Nat} (h : k < l.length) (ha : (l.take k).any p = false) (hp : p l[k] = false) : (l.take (k + 1)).any p = false := by
  rw [List.take_succ_eq_append_getElem h, List.any_append, ha]; simp [hp]
theorem any_end {α : Type} {l : List α} {p : α → Bool} {k : Nat} (h : ¬ k < l.length) (ha : (l.take k).any p = false) : l.any p = false := by
  rwa [List.take_of_length_le (by omega)] at ha

set_option maxHeartbeats 400000 in
theorem large_any (b : List UInt8) (l : List ByteArray) (v1 v2 : Value) (w : World) (hb : Bytes w v1 b) (hn : Strs w v2 l) (hsz : ∀ s ∈ l, s.size ≤ maxLen) :
    Calls Tryd.prog 14 #[v1, v2] w fun e w' => e = .returned (.bool (largeB b l)) ∧ w = w' := by
  obtain ⟨A1, c1, rfl, h1, h1', -⟩ := id hb
  obtain ⟨A, c, rfl, hc, hm, -⟩ := id hn
  have HN := Lib.hid hn
  have HS := Lib.hid hsz
  clear hn hsz
  unfold maxLen at hm h1'
  go_enter Tryd.func14, Tryd.ntmps14
  go_wp2
  go_loop [9] (fun i => ∃ k : Nat, k ≤ l.length ∧ i = .int .i64 k ∧ (l.take k).any (fun s => decide (60 < s.size)) = false) (fun i => l.length - (intOf i).toNat)
  case atStart => exact ⟨0, Nat.zero_le _, rfl, rfl⟩
  case round =>
    obtain ⟨k, hk, rfl, hall⟩ := hrel
    have HA := Lib.hid hall
    clear hall
    by_cases hlt : k < l.length
    · obtain ⟨ad, rfl, -, hcell⟩ := HN.out.at_ hlt
      have hs1 := HS.out l[k] (by simp)
      unfold maxLen at hs1
      by_cases h60 : 60 < l[k].size
      · go_wp2
        go_ret
        exact ⟨ret_bool (by unfold largeB; rw [any_stop hlt (by simpa using h60)]; rfl), rfl⟩
      · go_wp2
        go_round
        case rel => exact ⟨k + 1, by omega, by go_num, any_step hlt HA.out (by simpa using h60)⟩
        case measure => simp [intOf]; omega
    · have hfin := any_end hlt HA.out
      have HF := Lib.hid hfin
      clear hfin
      go_wp2
      all_goals
        go_ret
        refine ⟨ret_bool ?_, rfl⟩
        unfold largeB
        rw [HF.out]
        rw [Bool.eq_iff_iff]
        simp
        try omega

theorem bytes_const (W : World) (l : List UInt8) (e : TypeId) (fr : Nat × Nat) (hl : l.length ≤ maxLen) : Bytes (W.alloc (.cells (l.map fun b => Value.int .u8 (b.toNat : Int)).toArray e fr)) (.slice (some ⟨W.heap.size, 0, none⟩) l.length l.length) l := by
  refine ⟨_, _, rfl, Nat.le_refl _, hl, by simp, fun h => (by cases h), fun _ => ⟨_, rfl, by simp, fun j u hu => ?_⟩⟩
  have hadd : (⟨W.heap.size, 0, none⟩ : Addr).add j = ⟨W.heap.size, j, none⟩ := by unfold Addr.add; split <;> simp_all
  rw [hadd, World.cell?_alloc_mark]
  simpa using hu

def idRev : List UInt8 := [36, 73, 100, 36, 32, 36, 82, 101, 118, 36]
def idWord : List (ByteArray × ByteArray) := [(⟨#[73, 100]⟩, ⟨#[55]⟩)]
theorem awake_tab : tabB idWord = true := by decide +kernel
theorem awake_text : replL idRev (txtL idWord fun nm val => expText (nm, val)) (occs (namesOf idWord) idRev 0) = [36, 73, 100, 58, 32, 55, 32, 36, 32, 36, 82, 101, 118, 36] := by decide +kernel

set_option maxHeartbeats 400000 in
theorem awake_any (w : World) :
    Calls Tryd.prog 15 #[] w fun e w' => e = .returned (.bool true) ∧ Below w.heap.size w w' := by
  have kc := fun (w : World) (C : Array Value) (n c : Nat) => Lib.run_convert_bytes_const (P := Tryd.prog) w 22 5 C n c Tryd.underlying22 Tryd.underlying5
  go_enter Tryd.func15, Tryd.ntmps15
  go_wp2_with fail
  clear kc
  have hb0 : Bytes (w.alloc (.cells #[.int .u8 36, .int .u8 73, .int .u8 100, .int .u8 36, .int .u8 32, .int .u8 36, .int .u8 82, .int .u8 101, .int .u8 118, .int .u8 36] 5 (10, 11))) (.slice (some ⟨w.heap.size, 0, none⟩) 10 10) idRev := bytes_const w idRev 5 (10, 11) (by decide)
  have hb1 := hb0.alloc (.cells #[.string ⟨#[73, 100]⟩, .string ⟨#[55]⟩] 55)
  have hp1 : Pairs ((w.alloc (.cells #[.int .u8 36, .int .u8 73, .int .u8 100, .int .u8 36, .int .u8 32, .int .u8 36, .int .u8 82, .int .u8 101, .int .u8 118, .int .u8 36] 5 (10, 11))).alloc (.cells #[.string ⟨#[73, 100]⟩, .string ⟨#[55]⟩] 55)) (.slice (some ⟨w.heap.size + 1, 0, none⟩) 1 1) idWord :=
    row_new _ (pairCells idWord) 55 2 1 rfl (by decide) _ (by simp)
  have hbl : Below w.heap.size w ((w.alloc (.cells #[.int .u8 36, .int .u8 73, .int .u8 100, .int .u8 36, .int .u8 32, .int .u8 36, .int .u8 82, .int .u8 101, .int .u8 118, .int .u8 36] 5 (10, 11))).alloc (.cells #[.string ⟨#[73, 100]⟩, .string ⟨#[55]⟩] 55)) := ((Below.refl _ _).alloc (Nat.le_refl _) _).alloc (by simp) _
  refine (expand_any idRev idWord _ _ _ hb1 hp1 (by decide) (by decide) (by intro s hs; simp [idWord] at hs; subst hs; decide)).mono ?_
  rintro e w1 ⟨h1, -, h3⟩
  obtain ⟨v, rfl, hv⟩ := h1 awake_tab
  rw [awake_text] at hv
  clear h1
  have hbl1 := hbl.trans (h3.mono hbl.size)
  clear hb0 hb1 hp1 hbl h3
  have hcv := run_str (P := Tryd.prog) hv 22 9 5 Tryd.underlying22 Tryd.underlying5 Tryd.underlying9
  have HB := Lib.hid hbl1
  clear hbl1 hv
  go_wp2
  go_ret
  exact ⟨rfl, HB.out⟩

end Go.Proofs.YtfifalpacagacaaDoor.kw
