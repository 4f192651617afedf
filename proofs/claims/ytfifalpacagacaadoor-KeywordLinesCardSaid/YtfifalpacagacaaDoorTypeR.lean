/- filetype.Parse is the reference's Parse. -/
import Derived.Test.YtfifalpacagacaaDoorTypeQ
namespace Go.Proofs.YtfifalpacagacaaDoor
open Go.RowKit
set_option linter.unusedVariables false

set_option maxRecDepth 100000 in
set_option maxHeartbeats 2000000 in
theorem parse_empty (s : ByteArray) (w : World) (hs : s.size ≤ maxLen) (name : List UInt8) (hcut : cutC 43 s.data.toList = (name, [], true)) :
    Calls Tryd.prog 18 #[.string s] w fun e w' => e = .returned (parseV none) ∧ Below w.heap.size w w' := by
  have H := Lib.hid (strCut_any s (w.alloc (.cells #[.int .i64 0, .bool false, .bool false, .bool false] 27)) hs)
  rw [hcut] at H
  clear hcut
  have e1 : (baL []).toList.isEmpty = true := by rw [baL_toList_]; rfl
  have e2 : (baL []).toList = [] := baL_toList_ []
  go_enter Tryd.func18, Tryd.ntmps18
  go_wp2_with fail
  refine H.out.mono ?_
  rintro e w1 ⟨rfl, hb1⟩
  have hR1 := (blk_new w [.int .i64 0, .bool false, .bool false, .bool false] 27).below hb1 (by simp)
  have hbw1 : Below w.heap.size w w1 := ((Below.refl _ _).alloc (Nat.le_refl _) _).trans (hb1.mono (by simp))
  clear hb1
  go_wp2_with fail
  refine (bases_any _).mono ?_
  rintro e w2 ⟨rfl, hm, hb2⟩
  have hlt1 := hR1.lt
  have hT2 := (blk_new w1 [.int .i64 0, .bool false, .bool false, .bool false] 27).below hb2 (by simp)
  have hR2 := (hR1.alloc (.cells #[.int .i64 0, .bool false, .bool false, .bool false] 27)).below hb2 (by simp; omega)
  have hbw2 : Below w.heap.size w w2 := (hbw1.alloc hbw1.size _).trans (hb2.mono (by have := hbw1.size; simp; omega))
  have hsa : (w1.alloc (.cells #[.int .i64 0, .bool false, .bool false, .bool false] 27)).heap.size = w1.heap.size + 1 := by simp
  rw [hsa] at hm
  clear hsa
  have hlook1 := base_look hm name
  obtain ⟨y0, y1, y2, y3, z0, z1, z2, z3⟩ := box4 hT2
  have hR3 : Blk (w2.setCell ⟨w1.heap.size, 0, none⟩ (.int .i64 (baseOf name))) w.heap.size 27 [.int .i64 0, .bool false, .bool false, .bool false] := hR2.far (by simp; omega) _
  have hbw3 : Below w.heap.size w (w2.setCell ⟨w1.heap.size, 0, none⟩ (.int .i64 (baseOf name))) := hbw2.setCell (by simp; omega) _
  obtain ⟨x0, x1, x2, x3, v0, v1, v2, v3⟩ := box4 hR2
  have hlt2 := hT2.lt
  go_wp2_with fail
  have hB' := box_store hR3 (.int .i64 0) (.bool false) (.bool false) (.bool false)
  have hBel := below_store hbw3 (Nat.le_refl _) (.int .i64 0) (.bool false) (.bool false) (.bool false)
  generalize ((((w2.setCell ⟨w1.heap.size, 0, none⟩ (.int .i64 (baseOf name))).setCell ⟨w.heap.size, 0, none⟩ (.int .i64 0)).setCell ⟨w.heap.size, 1, none⟩ (.bool false)).setCell ⟨w.heap.size, 2, none⟩ (.bool false)).setCell ⟨w.heap.size, 3, none⟩ (.bool false) = W' at hB' hBel ⊢
  clear x0 x1 x2 x3 v0 v1 v2 v3 y0 y1 y2 y3 z0 z1 z2 z3
  obtain ⟨x0, x1, x2, x3, _, _, _, _⟩ := box4 hB'
  exact bodyPost_ret (v := .tuple #[.agg #[.int .i64 0, .bool false, .bool false, .bool false], .int .i64 90]) (by simp [results, Tryd.results18, go_sem, x0, x1, x2, x3]) rfl ⟨rfl, hBel⟩

/-! The plain law. -/
theorem cutC_spec (c : UInt8) (l : List UInt8) : l = (cutC c l).1 ++ (if (cutC c l).2.2 = true then c :: (cutC c l).2.1 else []) ∧ ((cutC c l).2.2 = false → (cutC c l).2.1 = []) := by
  induction l with
  | nil => simp [cutC]
  | cons b l ih =>
    by_cases h : b = c
    · subst h; simp [cutC]
    · rw [cutC, if_neg h]
      exact ⟨by simp only [List.cons_append]; rw [← ih.1], ih.2⟩
theorem cutH_spec (c : UInt8) (l : List UInt8) : l = (if (cutH c l).2 = true then [c] else []) ++ (cutH c l).1 := by
  cases l with
  | nil => simp [cutH]
  | cons b r =>
    by_cases h : b = c
    · simp [cutH, h]
    · simp [cutH, h]
theorem stT_spec (base : Int) (rest : List UInt8) (h : (stT base rest 3).1 = []) : rest = markText (stT base rest 3).2.k (stT base rest 3).2.l (stT base rest 3).2.x := by
  have h1 := cutH_spec 107 rest
  have h2 := cutH_spec 108 (cutH 107 rest).1
  have h3 := cutH_spec 120 (cutH 108 (cutH 107 rest).1).1
  have h' : (cutH 120 (cutH 108 (cutH 107 rest).1).1).1 = [] := h
  rw [h'] at h3
  rw [h3] at h2
  rw [h2] at h1
  show rest = markText (cutH 107 rest).2 (cutH 108 (cutH 107 rest).1).2 (cutH 120 (cutH 108 (cutH 107 rest).1).1).2
  unfold markText
  simpa using h1
theorem baseOf_spec (l : List UInt8) (h : 1 ≤ baseOf l ∧ baseOf l ≤ 3) : l = baseText (baseOf l) := by
  unfold baseOf at h ⊢
  by_cases h1 : l = [116, 101, 120, 116]
  · rw [if_pos h1, h1]; rfl
  · by_cases h2 : l = [98, 105, 110, 97, 114, 121]
    · rw [if_neg h1, if_pos h2, h2]; rfl
    · by_cases h3 : l = [108, 105, 110, 107]
      · rw [if_neg h1, if_neg h2, if_pos h3, h3]; rfl
      · rw [if_neg h1, if_neg h2, if_neg h3] at h; omega
theorem ty_ok_mem (b : Int) (k l x : Bool) (h : tyOk b k x = true) : (1 ≤ b ∧ b ≤ 3) ∧ (⟨b, k, l, x⟩ : Ty) ∈ allTys := by
  have hb : b = 1 ∨ b = 2 ∨ b = 3 := by
    unfold tyOk at h
    by_cases h1 : b = 1
    · exact .inl h1
    · by_cases h2 : b = 2
      · exact .inr (.inl h2)
      · by_cases h3 : b = 3
        · exact .inr (.inr h3)
        · simp [h1, h2, h3] at h
  refine ⟨by omega, ?_⟩
  rw [allTys_eq]
  rcases hb with rfl | rfl | rfl <;> cases k <;> cases l <;> cases x <;> first | decide | (exfalso; revert h; decide)

theorem parseP_some {l : List UInt8} {t : Ty} (h : parseP l = some t) : t ∈ allTys ∧ textT t = l := by
  unfold parseP at h
  split at h
  · cases h
  · rename_i hc
    unfold parseT at h
    split at h
    · rename_i hh
      injection h with h
      obtain ⟨h1, h2⟩ := hh
      have hst := stT_spec _ _ h1
      have hbase : (stT (baseOf (cutC 43 l).1) (cutC 43 l).2.1 3).2.base = baseOf (cutC 43 l).1 := rfl
      rw [h] at hst hbase h2
      obtain ⟨tb, tk, tl, tx⟩ := t
      simp only at hst hbase
      obtain ⟨hb, hm⟩ := ty_ok_mem tb tk tl tx h2
      refine ⟨hm, ?_⟩
      have hbs := baseOf_spec (cutC 43 l).1 (by rw [← hbase]; exact hb)
      obtain ⟨s1, s2⟩ := cutC_spec 43 l
      unfold textT
      simp only
      rw [hbase, ← hbs, ← hst]
      cases hmk : (cutC 43 l).2.2
      · rw [hmk] at s1
        rw [s2 hmk]
        simpa using s1.symm
      · rw [hmk] at s1 hc
        have hne : (cutC 43 l).2.1 ≠ [] := fun e => hc ⟨rfl, e⟩
        rw [if_neg hne]
        simpa using s1.symm
    · cases h
theorem parseP_text : ∀ t ∈ allTys, parseP (textT t) = some t := by decide +kernel
theorem parseP_eq (l : List UInt8) : parseP l = parseL l := by
  unfold parseL
  cases hf : allTys.find? (fun t => textT t == l) with
  | some t =>
    have h1 := List.mem_of_find?_eq_some hf
    have h2 := List.find?_some hf
    have e : textT t = l := by simpa using h2
    rw [← e]; exact parseP_text t h1
  | none =>
    cases hp : parseP l with
    | none => rfl
    | some t =>
      obtain ⟨h1, h2⟩ := parseP_some hp
      have := List.find?_eq_none.1 hf t h1
      simp [h2] at this

theorem parse_any (s : ByteArray) (w : World) (hs : s.size ≤ maxLen) :
    Calls Tryd.prog 18 #[.string s] w fun e w' => e = .returned (parseV (parseL s.data.toList)) ∧ Below w.heap.size w w' := by
  rw [← parseP_eq]
  unfold parseP
  rcases hc : cutC 43 s.data.toList with ⟨name, rest, mk⟩
  by_cases h : mk = true ∧ rest = []
  · rw [if_pos h]
    obtain ⟨rfl, rfl⟩ := h
    exact parse_empty s w hs name hc
  · rw [if_neg h]
    exact parse_main s w hs name rest mk hc (fun h1 h2 => h ⟨h1, h2⟩)

end Go.Proofs.YtfifalpacagacaaDoor
