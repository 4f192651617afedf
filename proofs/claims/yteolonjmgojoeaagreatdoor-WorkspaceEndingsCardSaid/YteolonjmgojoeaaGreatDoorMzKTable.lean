/- The contracts of keyword.table and keyword.named. -/
import Derived.Test.YteolonjmgojoeaaGreatDoorKLeaf
import Derived.Test.YteolonjmgojoeaaGreatDoorMgw4
namespace Go.Proofs.YteolonjmgojoeaaGreatDoor.kw
set_option linter.unusedVariables false
set_option linter.unusedSimpArgs false
open Go.RowKit

def wordB (p : ByteArray × ByteArray) : Bool := nameS p.1 && valueS p.2
def namesOf (l : List (ByteArray × ByteArray)) : List (List UInt8) := l.map fun p => p.1.data.toList
def tabB (l : List (ByteArray × ByteArray)) : Bool := l.all wordB && decide ((namesOf l).Nodup)
def tabM (l : List (ByteArray × ByteArray)) : List (ByteArray × Value) := l.map fun p => (p.1, .string p.2)

theorem ba_ext {a b : ByteArray} (h : a.data.toList = b.data.toList) : a = b := by
  cases a with | mk x => cases b with | mk y =>
  have : x = y := Array.toList_inj.1 h
  rw [this]
theorem ba_beq (a b : ByteArray) : (a == b) = decide (a.data.toList = b.data.toList) := by
  rw [Bool.eq_iff_iff, decide_eq_true_eq]
  exact ⟨fun h => by rw [ba_eq h], fun h => by rw [ba_ext h, ba_refl]⟩

theorem aget_tabM (l : List (ByteArray × ByteArray)) (x : ByteArray) : (aget (tabM l) x).isSome = decide (x.data.toList ∈ namesOf l) := by
  induction l with
  | nil => simp [aget, tabM, namesOf]
  | cons p l ih =>
    simp only [aget, tabM, namesOf, List.map_cons, List.find?_cons, ba_beq] at ih ⊢
    by_cases hx : x.data.toList = p.1.data.toList
    · simp [hx]
    · simp only [hx, decide_false, Option.isSome_map] at ih ⊢
      refine ih.trans ?_
      rw [Bool.eq_iff_iff]
      simp only [decide_eq_true_eq, List.mem_cons, hx, false_or]
      exact decide_eq_true_iff
theorem aset_tabM (l : List (ByteArray × ByteArray)) (x : ByteArray) (v : Value) (h : x.data.toList ∉ namesOf l) : aset (tabM l) x v = tabM l ++ [(x, v)] := by
  induction l with
  | nil => rfl
  | cons p l ih =>
    simp only [namesOf, List.map_cons, List.mem_cons, not_or] at h
    have hne : (x == p.1) = false := by rw [ba_beq]; simpa using h.1
    simp only [tabM, List.map_cons, aset, hne] at ih ⊢
    rw [ih h.2]; rfl
theorem tabB_word (l : List (ByteArray × ByteArray)) (k : Nat) (h : k < l.length) (hb : wordB l[k] = false) : tabB l = false := by
  unfold tabB
  have : l.all wordB = false := by rw [List.all_eq_false]; exact ⟨l[k], by simp, by simp [hb]⟩
  rw [this]; rfl
theorem tabB_twice (l : List (ByteArray × ByteArray)) (k : Nat) (h : k < l.length) (hb : l[k].1.data.toList ∈ namesOf (l.take k)) : tabB l = false := by
  unfold tabB
  rw [Bool.and_eq_false_iff]
  right
  rw [decide_eq_false_iff_not]
  intro hn
  have hd := hn
  rw [← List.take_append_drop k l, namesOf, List.map_append, List.nodup_append] at hd
  have hin : l[k] ∈ l.drop k := by rw [List.mem_iff_getElem]; exact ⟨0, by simp; omega, by simp⟩
  exact hd.2.2 _ hb l[k].1.data.toList (List.mem_map_of_mem hin) rfl
theorem tabB_end (l : List (ByteArray × ByteArray)) (h1 : l.all wordB = true) (h2 : (namesOf l).Nodup) : tabB l = true := by
  unfold tabB; rw [h1]; simpa using h2
theorem nodup_snoc {l : List (ByteArray × ByteArray)} {k : Nat} (h : k < l.length) (hn : (namesOf (l.take k)).Nodup) (hb : l[k].1.data.toList ∉ namesOf (l.take k)) : (namesOf (l.take (k + 1))).Nodup := by
  rw [List.take_succ_eq_append_getElem h, namesOf, List.map_append, List.nodup_append]
  refine ⟨hn, by simp, ?_⟩
  rintro a ha b hb' rfl
  simp at hb'
  subst hb'
  exact hb ha

def TableP (l : List (ByteArray × ByteArray)) (w : World) (e : Ending) (w' : World) : Prop :=
  (tabB l = true → ∃ B, e = .returned (.tuple #[.map (some B), .int .i64 0]) ∧ IsMap Value.string w' B (tabM l)) ∧
  (tabB l = false → e = .returned (.tuple #[.map none, .int .i64 100])) ∧ Below w.heap.size w w'

theorem strKey : KeyOk Tryz.prog 9 Value.string := keyOk_string Tryz.underlying9
theorem zeroStr (w : World) : (zeroValue 9).run Tryz.prog w = .ok (.string ⟨#[]⟩) w := by kernel_rfl

set_option maxHeartbeats 1000000 in
theorem table_any (l : List (ByteArray × ByteArray)) (v : Value) (w : World) (hb : Pairs w v l) (hl : l.length ≤ 1000) (hsz : ∀ s ∈ l, s.1.size ≤ 100000 ∧ s.2.size ≤ 100000) :
    Calls Tryz.prog 90 #[v] w (TableP l w) := by
  obtain ⟨A, c, rfl, hc, hm, hlen, h00, hx⟩ := id hb
  clear hx hlen h00
  have HB := Lib.hid hb
  have HS := Lib.hid hsz
  clear hb hsz
  have hmk := fun (n : Int) (W : World) => run_mkMap (P := Tryz.prog) 115 9 9 .i64 n Tryz.underlying115 W
  go_enter Tryz.func90, Tryz.ntmps90
  go_wp2
  clear hmk
  go_loopw [14] (fun i wr => ∃ k : Nat, k ≤ l.length ∧ i = .int .i64 k ∧ IsMap Value.string wr w.heap.size (tabM (l.take k)) ∧ (l.take k).all wordB = true ∧ (namesOf (l.take k)).Nodup ∧ Below w.heap.size w wr) (fun i _ => l.length - (intOf i).toNat)
  case atStart => exact ⟨0, Nat.zero_le _, rfl, IsMap.new _ _, rfl, by simp [namesOf], (Below.refl _ _).alloc (Nat.le_refl _) _⟩
  case round =>
    obtain ⟨k, hk, rfl, hmap, hall, hnd, hbl⟩ := hrel
    have HA := Lib.hid hall
    have HN := Lib.hid hnd
    clear hall hnd
    by_cases hlt : k < l.length
    · obtain ⟨ad, rfl, had, hc0, hc1⟩ := (HB.out.below hbl).at_ hlt
      obtain ⟨hs1, hs2⟩ := HS.out l[k] (by simp)
      have hlk := (hmap.alloc (.cells #[.string l[k].1, .string l[k].2] 153)).lookup strKey Tryz.underlying115 (zeroStr _) l[k].1 true
      rw [aget_tabM] at hlk
      obtain ⟨w1, hup, hmap1, hgr1, hsz1⟩ := (hmap.alloc (.cells #[.string l[k].1, .string l[k].2] 153)).update strKey Tryz.underlying115 l[k].1 (.string l[k].2)
      have hbl1 : Below w.heap.size w w1 := (hbl.alloc hbl.size _).grown hgr1 (by have := hbl.size; simp; omega) (by intro k e; cases e; exact Nat.le_refl _)
      have HM := Lib.hid hmap1
      clear hmap1 hgr1
      cases hn : nameS l[k].1 <;> cases hv : valueS l[k].2 <;> cases hm : decide (l[k].1.data.toList ∈ namesOf (l.take k))
      all_goals
        rw [hm] at hlk
        go_wp2_with (first
          | (go_at_call 110; refine (isName_any _ _ (by unfold maxLen; omega)).mono ?_; rintro e w' ⟨rfl, rfl⟩)
          | (go_at_call 111; refine (isValue_any _ _ (by unfold maxLen; omega)).mono ?_; rintro e w' ⟨rfl, rfl⟩))
      all_goals first
        | (have hno : tabB l = false := by
             first
               | (refine tabB_word l k hlt ?_; simp [wordB, hn, hv]; done)
               | exact tabB_twice l k hlt (of_decide_eq_true hm)
           have HNo := Lib.hid hno
           clear hno
           go_ret2
           exact ⟨(fun h => by rw [HNo.out] at h; cases h), fun _ => rfl, hbl.alloc hbl.size _⟩)
        | (go_roundw
           case rel =>
             refine ⟨k + 1, by omega, by go_num, ?_, ?_, nodup_snoc hlt HN.out (by simpa using hm), hbl1⟩
             · have h := HM.out
               rw [aset_tabM _ _ _ (by simpa using hm)] at h
               rw [List.take_succ_eq_append_getElem hlt, tabM, List.map_append]
               exact h
             · rw [List.take_succ_eq_append_getElem hlt, List.all_append, HA.out]
               simp [wordB, hn, hv]
           case measure => simp [intOf]; omega)
    · go_wp2
      go_ret2
      obtain rfl : k = l.length := by omega
      have h1 := HA.out
      have h2 := HN.out
      rw [List.take_length] at hmap h1 h2
      exact ⟨fun _ => ⟨_, rfl, hmap⟩, (fun h => by rw [tabB_end l h1 h2] at h; cases h), hbl⟩

end Go.Proofs.YteolonjmgojoeaaGreatDoor.kw
