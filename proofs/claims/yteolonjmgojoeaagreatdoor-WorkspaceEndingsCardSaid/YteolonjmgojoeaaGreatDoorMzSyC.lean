/- have.Check: whether a list is a have-list. -/
import Derived.Test.YteolonjmgojoeaaGreatDoorMzSyA
import Derived.Test.YteolonjmgojoeaaGreatDoorMzMem
import Derived.Lib.QuietBelow
namespace Go.Proofs.YteolonjmgojoeaaGreatDoor
open Go.RowKit
open Go.Sort (grow)
set_option linter.unusedVariables false
set_option linter.unusedSimpArgs false

def Havs (w : World) (v : Value) (l : List Hav) : Prop := Row w 3 v l.length (l.flatMap Hav.cells)
def HavAt (w : World) (a : Addr) (x : Hav) : Prop := w.cell? a = some (.string x.path) ∧ w.cell? ⟨a.block, a.off + 1, none⟩ = some (.int .i64 x.num) ∧ w.cell? ⟨a.block, a.off + 2, none⟩ = some (.string x.loc)
theorem Havs.at_ {w : World} {A : Option Addr} {c : Nat} {l : List Hav} (h : Havs w (.slice A l.length c) l) {k : Nat} (hk : k < l.length) :
    ∃ ad, A = some ad ∧ ad.block < w.heap.size ∧ HavAt w (ad.add (k * 3)) l[k] := by
  obtain ⟨ad, e, hb, hc⟩ := row_at (f := Hav.cells) (n := 3) (fun _ => rfl) h hk
  exact ⟨ad, e, hb, hc 0 _ rfl, hc 1 _ rfl, hc 2 _ rfl⟩
def prevBad (p : Option Hav) (h : Hav) : Bool := match p with | none => false | some q => decide (0 ≤ cmpP q.path h.path)
theorem prevBad_some (q h : Hav) : prevBad (some q) h = decide (0 ≤ cmpP q.path h.path) := rfl
/-- The answer of have.Check behind some entries. -/
def chkH : Option Hav → List ByteArray → List Hav → Int
  | _, _, [] => 0
  | p, s, h :: r => if (!h.okB || prevBad p h) = true then 340 else if h.loc ∈ s then 341 else chkH (some h) (h.loc :: s) r
def haveE (l : List Hav) : Int := if 1024 < l.length then 342 else chkH none [] l
def memF (s : List ByteArray) : ByteArray → Option Unit := fun x => if x ∈ s then some () else none
def unitV : Unit → Value := fun _ => .agg #[]
theorem memF_cons (a : ByteArray) (s : List ByteArray) : memF (a :: s) = upd (memF s) a () := by
  funext x; unfold memF upd
  by_cases h : x = a
  · rw [if_pos h, if_pos (by rw [h]; exact List.mem_cons_self)]
  · rw [if_neg h]
    show (if x ∈ a :: s then some () else none) = if x ∈ s then some () else none
    by_cases h2 : x ∈ s
    · rw [if_pos h2, if_pos (List.mem_cons_of_mem _ h2)]
    · rw [if_neg h2, if_neg (by rintro (_ | ⟨_, h3⟩); exact h rfl; exact h2 h3)]
def seenL (l : List Hav) : List ByteArray := l.reverse.map Hav.loc
def lastH (l : List Hav) : Option Hav := l.getLast?
theorem seenL_snoc (l : List Hav) (x : Hav) : seenL (l ++ [x]) = x.loc :: seenL l := by unfold seenL; simp
theorem lastH_snoc (l : List Hav) (x : Hav) : lastH (l ++ [x]) = some x := by unfold lastH; simp
set_option maxRecDepth 100000 in
set_option maxHeartbeats 8000000 in
theorem haveCheck_any (l : List Hav) (v : Value) (w : World) (hR : Havs w v l) (hs : ∀ x ∈ l, x.path.size ≤ 140737488355328 ∧ x.loc.size ≤ 140737488355328) :
    Calls Tryz.prog 42 #[v] w fun e w' => e = .returned (.int .i64 (haveE l)) ∧ Below w.heap.size w w' := by
  obtain ⟨A, c, rfl, hc, hm, -⟩ := id hR
  have HR := Lib.hid hR
  have HS := Lib.hid hs
  clear hR hs
  unfold maxLen at hm
  by_cases h1 : 1024 < l.length
  · have HE : Hid (haveE l = 342) := Lib.hid (if_pos h1)
    go_enter Tryz.func42, Tryz.ntmps42
    go_wp2_with fail
    go_ret
    exact ⟨ret_int HE.out.symm, Below.refl _ _⟩
  have HE : Hid (haveE l = chkH none [] l) := Lib.hid (if_neg h1)
  have hmm := @run_makeMap Tryz.prog
  have HM0 := Lib.hid (FMap.new Value.string unitV w)
  have HB0 := Lib.hid ((Below.refl w.heap.size w).alloc (Nat.le_refl _) (.map #[] 0))
  go_enter Tryz.func42, Tryz.ntmps42
  go_wp2_with fail
  go_loopw [14] (fun i wr => ∃ k : Nat, k ≤ l.length ∧ i = .int .i64 k ∧ Hid (chkH none [] l = chkH (lastH (l.take k)) (seenL (l.take k)) (l.drop k)) ∧ Below w.heap.size w wr ∧ FMap Value.string unitV wr w.heap.size (memF (seenL (l.take k)))) (fun i _ => l.length - (intOf i).toNat)
  case atStart => exact ⟨0, Nat.zero_le _, rfl, Lib.hid rfl, HB0.out, HM0.out⟩
  case round =>
    obtain ⟨k, hk, rfl, HV, hb, hM⟩ := hrel
    have hRr := Row.below HR.out hb
    by_cases hlt : k < l.length
    · have hprev : k = 0 ∨ ∃ (j : Nat) (hj : j < l.length), k = j + 1 ∧ lastH (l.take k) = some l[j] := by
        cases k with
        | zero => exact .inl rfl
        | succ j => exact .inr ⟨j, by omega, rfl, by rw [List.take_succ_eq_append_getElem (by omega), lastH_snoc]⟩
      obtain ⟨ad, rfl, hab, hld⟩ := Havs.at_ hRr hlt
      have hxs := HS.out l[k] (List.getElem_mem _)
      have HT := Lib.hid (show l.take (k + 1) = l.take k ++ [l[k]] from List.take_succ_eq_append_getElem hlt)
      rw [List.drop_eq_getElem_cons hlt] at HV
      generalize l[k] = x at hld hxs HT HV
      obtain ⟨x0, x1, x2⟩ := hld
      have hbx : Below w.heap.size w (wr.alloc (.cells #[.string x.path, .int .i64 x.num, .string x.loc] 117)) := hb.alloc hb.size _
      have hMx := FMap.alloc hM (.cells #[.string x.path, .int .i64 x.num, .string x.loc] 117)
      obtain ⟨c0, c1, c2⟩ := box3h (x := x) (blk_new wr [.string x.path, .int .i64 x.num, .string x.loc] 117)
      have HVAL := Lib.hid (fun X => havOk_any x X hxs.1 hxs.2)
      cases hok : x.okB
      · have HO : Hid (haveE l = 340) := Lib.hid (by rw [HE.out, HV.out, chkH, hok]; rfl)
        rw [hok] at HVAL
        clear hok hprev
        have cV : ∀ d os, Calls Tryz.prog 64 #[.agg #[.string x.path, .int .i64 x.num, .string x.loc]] (grow (redrawn (wr.alloc (.cells #[.string x.path, .int .i64 x.num, .string x.loc] 117)) d) os) fun e w'' => e = .returned (.bool false) ∧ ∃ p : Regrown, w'' = grow (redrawn (wr.alloc (.cells #[.string x.path, .int .i64 x.num, .string x.loc] 117)) p.d) p.os := fun d os => Calls.regrown_of (by have hh := HVAL.out (grow (redrawn (wr.alloc (.cells #[.string x.path, .int .i64 x.num, .string x.loc] 117)) d) os); exact hh)
        have m0 := cell_regrown c0
        have m1 := cell_regrown c1
        have m2 := cell_regrown c2
        go_wp2_with fail
        refine wp_region_quiet_below (by kernel_rfl) (by kernel_rfl) ?_
        repeat (first | go_big_quiet_step (exact cV _ _) | quiet_step (exact cV _ _))
        refine wpQuiet_nil ?_
        intro _ hw9
        obtain ⟨⟨dq, osq⟩, hw9⟩ := hw9
        subst hw9
        have hS5 := below_regrown (wr.alloc (.cells #[.string x.path, .int .i64 x.num, .string x.loc] 117)) dq osq
        have hb5 := below_step hbx hbx.size hS5
        have hM5 := FMap.below hMx hS5
        have d0 := cell_regrown c0 dq osq
        have d1 := cell_regrown c1 dq osq
        have d2 := cell_regrown c2 dq osq
        generalize grow (redrawn (wr.alloc (.cells #[.string x.path, .int .i64 x.num, .string x.loc] 117)) dq) osq = W5 at hS5 hb5 hM5 d0 d1 d2 ⊢
        go_wp2_with fail
        go_ret
        exact ⟨ret_int HO.out.symm, hb5⟩
      · rw [hok] at HVAL
        have cV : ∀ d os, Calls Tryz.prog 64 #[.agg #[.string x.path, .int .i64 x.num, .string x.loc]] (grow (redrawn (wr.alloc (.cells #[.string x.path, .int .i64 x.num, .string x.loc] 117)) d) os) fun e w'' => e = .returned (.bool true) ∧ ∃ p : Regrown, w'' = grow (redrawn (wr.alloc (.cells #[.string x.path, .int .i64 x.num, .string x.loc] 117)) p.d) p.os := fun d os => Calls.regrown_of (by have hh := HVAL.out (grow (redrawn (wr.alloc (.cells #[.string x.path, .int .i64 x.num, .string x.loc] 117)) d) os); exact hh)
        have m0 := cell_regrown c0
        have m1 := cell_regrown c1
        have m2 := cell_regrown c2
        rcases hprev with h0 | ⟨j, hj, hkj, hl⟩
        · have HST : Hid (haveE l = if x.loc ∈ seenL (l.take k) then 341 else chkH (some x) (x.loc :: seenL (l.take k)) (l.drop (k + 1))) := Lib.hid (by rw [HE.out, HV.out, chkH, hok, show lastH (l.take k) = none by rw [h0]; rfl]; rfl)
          have n0 : decide (0 < k) = false := by simp; omega
          clear h0 hok
          go_wp2_with fail
          refine wp_region_quiet_below (by kernel_rfl) (by kernel_rfl) ?_
          repeat (first | go_big_quiet_step (exact cV _ _) | quiet_step (exact cV _ _))
          refine wpQuiet_nil ?_
          intro _ hw9
          obtain ⟨⟨dq, osq⟩, hw9⟩ := hw9
          subst hw9
          have hS5 := below_regrown (wr.alloc (.cells #[.string x.path, .int .i64 x.num, .string x.loc] 117)) dq osq
          have hb5 := below_step hbx hbx.size hS5
          have hM5 := FMap.below hMx hS5
          have d0 := cell_regrown c0 dq osq
          have d1 := cell_regrown c1 dq osq
          have d2 := cell_regrown c2 dq osq
          generalize grow (redrawn (wr.alloc (.cells #[.string x.path, .int .i64 x.num, .string x.loc] 117)) dq) osq = W5 at hS5 hb5 hM5 d0 d1 d2 ⊢
          by_cases hin : x.loc ∈ seenL (l.take k)
          · have HO : Hid (haveE l = 341) := Lib.hid (by rw [HST.out, if_pos hin])
            have hlk := FMap.lookup (w := W5) hM5 (keyOk_string Tryz.underlying9) Tryz.underlying139 (z := .agg #[]) (by rfl) x.loc true
            have hv : lookV unitV (.agg #[]) true (memF (seenL (l.take k)) x.loc) = .tuple #[.agg #[], .bool true] := by unfold memF; rw [if_pos hin]; rfl
            rw [hv] at hlk
            clear hin hv
            go_wp2_with fail
            go_ret
            exact ⟨ret_int HO.out.symm, hb5.alloc hb5.size _⟩
          · have HO := Lib.hid (HST.out.trans (if_neg hin))
            have hlk := FMap.lookup (w := W5) hM5 (keyOk_string Tryz.underlying9) Tryz.underlying139 (z := .agg #[]) (by rfl) x.loc true
            have hv : lookV unitV (.agg #[]) true (memF (seenL (l.take k)) x.loc) = .tuple #[.agg #[], .bool false] := by unfold memF; rw [if_neg hin]; rfl
            rw [hv] at hlk
            have hM6 := FMap.alloc hM5 (.cells #[] 97)
            have hb6 : Below w.heap.size w (W5.alloc (.cells #[] 97)) := hb5.alloc hb5.size _
            obtain ⟨w3, hup, hM3, hg3, hs3⟩ := FMap.update (w := W5.alloc (.cells #[] 97)) hM6 (keyOk_string Tryz.underlying9) Tryz.underlying139 x.loc ()
            have hup' : (Instr.mapUpdate 139 (.map (some w.heap.size)) (.string x.loc) (.agg #[])).run Tryz.prog (W5.alloc (.cells #[] 97)) = .ok () w3 := hup
            have hb7 : Below w.heap.size w w3 := hb6.trans ⟨hg3.os, hg3.tape, hg3.output, hg3.size, fun q hq => hg3.block q (Nat.lt_of_lt_of_le hq hb6.size) (by intro e; injection e with e; omega)⟩
            have f2 := (((Below.refl W5.heap.size W5).alloc (Nat.le_refl _) (.cells #[] 97)).cell (block_lt_of_cell d2)).trans d2
            clear hin hv hup
            go_wp2_with fail
            go_roundw
            case rel => exact ⟨k + 1, by omega, by go_num, Lib.hid (by rw [HT.out, lastH_snoc, seenL_snoc, ← HE.out]; exact HO.out), hb7, by rw [HT.out, seenL_snoc, memF_cons]; exact hM3⟩
            case measure => simp [intOf]; omega
        · obtain ⟨ad2, had, hab2, hl2⟩ := Havs.at_ hRr hj
          injection had with had
          subst had
          have hys := HS.out l[j] (List.getElem_mem _)
          generalize l[j] = y at hl hl2 hys
          obtain ⟨y0, y1, y2⟩ := hl2
          have hba := (Below.refl wr.heap.size wr).alloc (Nat.le_refl _) (.cells #[.string x.path, .int .i64 x.num, .string x.loc] 117)
          have e0 := cell_regrown ((hba.cell (show (ad.add (j * 3)).block < wr.heap.size from block_lt_of_cell y0)).trans y0)
          have e1 := cell_regrown ((hba.cell (p := ⟨(ad.add (j * 3)).block, (ad.add (j * 3)).off + 1, none⟩) (block_lt_of_cell y1)).trans y1)
          have e2 := cell_regrown ((hba.cell (p := ⟨(ad.add (j * 3)).block, (ad.add (j * 3)).off + 2, none⟩) (block_lt_of_cell y2)).trans y2)
          have n0 : decide (0 < k) = true := by simp; omega
          have n1 : (k : Int) - 1 = (j : Int) := by omega
          have HCMP := Lib.hid (fun X => havCompare_any y x X hys.1 hxs.1)
          have cC : ∀ d os, Calls Tryz.prog 65 #[.agg #[.string y.path, .int .i64 y.num, .string y.loc], .agg #[.string x.path, .int .i64 x.num, .string x.loc]] (grow (redrawn (wr.alloc (.cells #[.string x.path, .int .i64 x.num, .string x.loc] 117)) d) os) fun e w'' => e = .returned (.int .i64 (cmpP y.path x.path)) ∧ ∃ p : Regrown, w'' = grow (redrawn (wr.alloc (.cells #[.string x.path, .int .i64 x.num, .string x.loc] 117)) p.d) p.os := fun d os => Calls.regrown_of (by have hh := HCMP.out (grow (redrawn (wr.alloc (.cells #[.string x.path, .int .i64 x.num, .string x.loc] 117)) d) os); exact hh)
          generalize hcv : cmpP y.path x.path = cv at cC
          by_cases hge : 0 ≤ cv
          · have HO : Hid (haveE l = 340) := Lib.hid (by rw [HE.out, HV.out, chkH, hok, hl, prevBad_some, hcv, decide_eq_true hge]; rfl)
            have n2 : decide ((0 : Int) ≤ cv) = true := decide_eq_true hge
            clear hcv hok hl hkj hge
            go_wp2_with fail
            refine wp_region_quiet_below (by kernel_rfl) (by kernel_rfl) ?_
            repeat (first | go_big_quiet_step (first | exact cV _ _ | exact cC _ _) | quiet_step (first | exact cV _ _ | exact cC _ _))
            refine wpQuiet_nil ?_
            intro _ hw9
            obtain ⟨⟨dq, osq⟩, hw9⟩ := hw9
            subst hw9
            have hS5 := below_regrown (wr.alloc (.cells #[.string x.path, .int .i64 x.num, .string x.loc] 117)) dq osq
            have hb5 := below_step hbx hbx.size hS5
            have hM5 := FMap.below hMx hS5
            have d0 := cell_regrown c0 dq osq
            have d1 := cell_regrown c1 dq osq
            have d2 := cell_regrown c2 dq osq
            generalize grow (redrawn (wr.alloc (.cells #[.string x.path, .int .i64 x.num, .string x.loc] 117)) dq) osq = W5 at hS5 hb5 hM5 d0 d1 d2 ⊢
            go_wp2_with fail
            go_ret
            exact ⟨ret_int HO.out.symm, hb5⟩
          · have HST : Hid (haveE l = if x.loc ∈ seenL (l.take k) then 341 else chkH (some x) (x.loc :: seenL (l.take k)) (l.drop (k + 1))) := Lib.hid (by rw [HE.out, HV.out, chkH, hok, hl, show prevBad (some y) x = false by rw [prevBad_some, hcv, decide_eq_false hge]]; rfl)
            have n2 : decide ((0 : Int) ≤ cv) = false := decide_eq_false hge
            clear hcv hok hl hkj hge
            go_wp2_with fail
            refine wp_region_quiet_below (by kernel_rfl) (by kernel_rfl) ?_
            repeat (first | go_big_quiet_step (first | exact cV _ _ | exact cC _ _) | quiet_step (first | exact cV _ _ | exact cC _ _))
            refine wpQuiet_nil ?_
            intro _ hw9
            obtain ⟨⟨dq, osq⟩, hw9⟩ := hw9
            subst hw9
            have hS5 := below_regrown (wr.alloc (.cells #[.string x.path, .int .i64 x.num, .string x.loc] 117)) dq osq
            have hb5 := below_step hbx hbx.size hS5
            have hM5 := FMap.below hMx hS5
            have d0 := cell_regrown c0 dq osq
            have d1 := cell_regrown c1 dq osq
            have d2 := cell_regrown c2 dq osq
            generalize grow (redrawn (wr.alloc (.cells #[.string x.path, .int .i64 x.num, .string x.loc] 117)) dq) osq = W5 at hS5 hb5 hM5 d0 d1 d2 ⊢
            by_cases hin : x.loc ∈ seenL (l.take k)
            · have HO : Hid (haveE l = 341) := Lib.hid (by rw [HST.out, if_pos hin])
              have hlk := FMap.lookup (w := W5) hM5 (keyOk_string Tryz.underlying9) Tryz.underlying139 (z := .agg #[]) (by rfl) x.loc true
              have hv : lookV unitV (.agg #[]) true (memF (seenL (l.take k)) x.loc) = .tuple #[.agg #[], .bool true] := by unfold memF; rw [if_pos hin]; rfl
              rw [hv] at hlk
              clear hin hv
              go_wp2_with fail
              go_ret
              exact ⟨ret_int HO.out.symm, hb5.alloc hb5.size _⟩
            · have HO := Lib.hid (HST.out.trans (if_neg hin))
              have hlk := FMap.lookup (w := W5) hM5 (keyOk_string Tryz.underlying9) Tryz.underlying139 (z := .agg #[]) (by rfl) x.loc true
              have hv : lookV unitV (.agg #[]) true (memF (seenL (l.take k)) x.loc) = .tuple #[.agg #[], .bool false] := by unfold memF; rw [if_neg hin]; rfl
              rw [hv] at hlk
              have hM6 := FMap.alloc hM5 (.cells #[] 97)
              have hb6 : Below w.heap.size w (W5.alloc (.cells #[] 97)) := hb5.alloc hb5.size _
              obtain ⟨w3, hup, hM3, hg3, hs3⟩ := FMap.update (w := W5.alloc (.cells #[] 97)) hM6 (keyOk_string Tryz.underlying9) Tryz.underlying139 x.loc ()
              have hup' : (Instr.mapUpdate 139 (.map (some w.heap.size)) (.string x.loc) (.agg #[])).run Tryz.prog (W5.alloc (.cells #[] 97)) = .ok () w3 := hup
              have hb7 : Below w.heap.size w w3 := hb6.trans ⟨hg3.os, hg3.tape, hg3.output, hg3.size, fun q hq => hg3.block q (Nat.lt_of_lt_of_le hq hb6.size) (by intro e; injection e with e; omega)⟩
              have f2 := (((Below.refl W5.heap.size W5).alloc (Nat.le_refl _) (.cells #[] 97)).cell (block_lt_of_cell d2)).trans d2
              clear hin hv hup
              go_wp2_with fail
              go_roundw
              case rel => exact ⟨k + 1, by omega, by go_num, Lib.hid (by rw [HT.out, lastH_snoc, seenL_snoc, ← HE.out]; exact HO.out), hb7, by rw [HT.out, seenL_snoc, memF_cons]; exact hM3⟩
              case measure => simp [intOf]; omega
    · go_wp2_with fail
      have H0 : Hid (haveE l = 0) := Lib.hid (by rw [HE.out, HV.out, List.drop_of_length_le (by omega)]; rfl)
      go_ret
      exact ⟨ret_int H0.out.symm, hb⟩
end Go.Proofs.YteolonjmgojoeaaGreatDoor
