/- Read and Fill. -/
import Derived.Test.YteolonjmgojoeaaGreatDoorMgw4
import Derived.Test.YteolonjmgojoeaaGreatDoorMzWsI
import Derived.Test.YteolonjmgojoeaaGreatDoorMzWsP
namespace Go.Proofs.YteolonjmgojoeaaGreatDoor
open Go.RowKit
open Go.Sort (grow)
set_option linter.unusedVariables false
set_option linter.unusedSimpArgs false

theorem NMap.single {κ α : Type} [BEq κ] [LawfulBEq κ] [DecidableEq κ] {kv : κ → Value} {enc : α → Value} {w : World} {B : Nat} {p : κ} {a : α} (h : NMap kv enc w B (upd (fun _ => none) p a)) : IsMap kv w B [(p, enc a)] := by
  obtain ⟨ks, hn, hi, hm⟩ := h.keys (enc a)
  have hk : ks = [p] := by
    have hp : p ∈ ks := (hi p).2 (by unfold upd; rw [if_pos rfl]; rfl)
    have ho : ∀ x ∈ ks, x = p := fun x hx => by
      have := (hi x).1 hx
      unfold upd at this
      by_cases e : x = p
      · exact e
      · rw [if_neg e] at this; cases this
    cases ks with
    | nil => cases hp
    | cons x l =>
      have hx := ho x (List.mem_cons_self ..)
      subst hx
      cases l with
      | nil => rfl
      | cons y l =>
        have hy := ho y (List.mem_cons_of_mem _ (List.mem_cons_self ..))
        subst hy
        rw [List.nodup_cons] at hn
        exact absurd (List.mem_cons_self ..) hn.1
  subst hk
  have e : ((upd (fun _ => none) p a p : Option α).map enc).getD (enc a) = enc a := by unfold upd; rw [if_pos rfl]; rfl
  rw [List.map_cons, List.map_nil, e] at hm
  exact hm
set_option maxRecDepth 100000 in
set_option maxHeartbeats 4000000 in
theorem read_hollow (t bl bp bs ba g : Nat) (n : Int) (f : WF) (bv : Value) (loc : ByteArray) (F1 : ByteArray → Option Nat) (F3 : ByteArray → Option Value) (F4 : Cid → Option Unit) (w : World)
    (hT : IsTree w t n bl bp bs ba) (h1 : NMap Value.string ptrV w bl F1) (h3 : Strays w bs F3) (h4 : NMap cidV unitV w ba F4) (hF : IsFile w g f bv) (hs : F3 loc = none) (hl : F1 loc = some g) (hst : f.st = 1) :
    Calls Tryz.prog 10 #[.pointer (some ⟨t, 0, none⟩), .string loc] w fun e w' => e = .returned (.tuple #[.slice none 0 0, .int .i64 361]) ∧ Kept [ba] w w' ∧ NMap cidV unitV w' ba (upd F4 (f.rev.sum, f.rev.size) ()) := by
  have LK3 : Hid (∀ X, Below w.heap.size w X → (Instr.lookup 36 (.map (some bs)) (.string loc) true).run Tryz.prog X = .ok (.tuple #[.slice none 0 0, .bool false]) X) := Lib.hid (fun X hX => by
    have hh := FMap.lookup (FMap.below h3 hX) (keyOk_string Tryz.underlying9) Tryz.underlying36 (z := .slice none 0 0) (by rfl) loc true
    have lv : lookV id (.slice none 0 0) true (F3 loc) = .tuple #[.slice none 0 0, .bool false] := by rw [hs]; rfl
    rw [lv] at hh; exact hh)
  have LK1 : Hid (∀ X, Below w.heap.size w X → (Instr.lookup 35 (.map (some bl)) (.string loc) true).run Tryz.prog X = .ok (.tuple #[.pointer (some ⟨g, 0, none⟩), .bool true]) X) := Lib.hid (fun X hX => by
    have hh := FMap.lookup (FMap.below h1.fmap hX) (keyOk_string Tryz.underlying9) Tryz.underlying35 (z := .pointer none) (by rfl) loc true
    have lv : lookV ptrV (.pointer none) true (F1 loc) = .tuple #[.pointer (some ⟨g, 0, none⟩), .bool true] := by rw [hl]; rfl
    rw [lv] at hh; exact hh)
  have HTR := Lib.hid (fun X (hX : Below w.heap.size w X) => hT.under hX)
  have HFI := Lib.hid (fun X (hX : Below w.heap.size w X) => hF.under hX)
  have H4 := Lib.hid (fun X (hX : Below w.heap.size w X) => (h4.below hX).update keyOk_cid Tryz.underlying37 (f.rev.sum, f.rev.size) ())
  obtain ⟨t0, t1, t2, t3, t4⟩ := hT.facts
  have lk3 := LK3.out w (Below.refl _ _)
  obtain ⟨c0, c1, c2, c9, c10, c13, c14⟩ := hF.facts
  rw [hst] at c13
  have lk1 := LK1.out w (Below.refl _ _)
  obtain ⟨w6, hup, hM6, hg6, hs6⟩ := H4.out w.drew (Below.refl _ _).drew
  have hup' : (Instr.mapUpdate 37 (.map (some ba)) (.agg #[.int .u64 f.rev.sum, .int .i64 f.rev.size]) (.agg #[])).run Tryz.prog w.drew = .ok () w6 := hup
  have HR := Lib.hid (And.intro ((Kept.below (S := [ba]) (Below.refl _ _).drew).trans (Kept.grown hg6 (by simp))) hM6)
  clear hup hg6 hM6 hs6
  clear hT h1 h3 h4 hF hs hl
  go_enter Tryz.func10, Tryz.ntmps10
  go_wp2_with fail
  go_still_tail 10, (by kernel_rfl)
  change wpList _ _ _ _ _ w.drew
  go_wp2_with fail
  go_ret2
  exact ⟨rfl, HR.out⟩
set_option maxRecDepth 100000 in
set_option maxHeartbeats 4000000 in
theorem read_local (t bl bp bs ba g : Nat) (n : Int) (f : WF) (bv : Value) (loc : ByteArray) (F1 : ByteArray → Option Nat) (F3 : ByteArray → Option Value) (w : World) (P : Value → Int → World → Prop)
    (hT : IsTree w t n bl bp bs ba) (h1 : NMap Value.string ptrV w bl F1) (h3 : Strays w bs F3) (hF : IsFile w g f bv) (hs : F3 loc = none) (hl : F1 loc = some g) (hst : ¬ f.st = 1)
    (HL : Calls Tryz.prog 28 #[.pointer (some ⟨t, 0, none⟩), .pointer (some ⟨g, 0, none⟩)] w fun e w' => ∃ v k, e = .returned (.tuple #[v, .int .i64 k]) ∧ P v k w' ∧ Below w.heap.size w w') :
    Calls Tryz.prog 10 #[.pointer (some ⟨t, 0, none⟩), .string loc] w fun e w' => ∃ v k, e = .returned (.tuple #[v, .int .i64 k]) ∧ P v k w' ∧ Below w.heap.size w w' := by
  have lk3 : (Instr.lookup 36 (.map (some bs)) (.string loc) true).run Tryz.prog w = .ok (.tuple #[.slice none 0 0, .bool false]) w := by
    have hh := FMap.lookup h3 (keyOk_string Tryz.underlying9) Tryz.underlying36 (z := .slice none 0 0) (by rfl) loc true
    have lv : lookV id (.slice none 0 0) true (F3 loc) = .tuple #[.slice none 0 0, .bool false] := by rw [hs]; rfl
    rw [lv] at hh; exact hh
  have lk1 : (Instr.lookup 35 (.map (some bl)) (.string loc) true).run Tryz.prog w = .ok (.tuple #[.pointer (some ⟨g, 0, none⟩), .bool true]) w := by
    have hh := FMap.lookup h1.fmap (keyOk_string Tryz.underlying9) Tryz.underlying35 (z := .pointer none) (by rfl) loc true
    have lv : lookV ptrV (.pointer none) true (F1 loc) = .tuple #[.pointer (some ⟨g, 0, none⟩), .bool true] := by rw [hl]; rfl
    rw [lv] at hh; exact hh
  obtain ⟨t0, t1, t2, t3, t4⟩ := hT.facts
  obtain ⟨c0, c1, c2, c9, c10, c13, c14⟩ := hF.facts
  have q1 : (f.st == 1) = false := by simpa using hst
  have HL := Lib.hid HL
  clear hT h1 h3 hF hs hl hst
  go_enter Tryz.func10, Tryz.ntmps10
  go_wp2_with fail
  refine HL.out.mono ?_
  rintro e w' ⟨v, k, rfl, hp, hb⟩
  have HP := Lib.hid (And.intro hp hb)
  clear hp hb
  go_wp2_with fail
  go_ret2
  exact ⟨v, k, rfl, HP.out⟩
end Go.Proofs.YteolonjmgojoeaaGreatDoor
