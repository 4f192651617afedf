/- syncplan.Check at a nil have-list and a plan of one step that fits. -/
import Derived.Test.YteolonjmgojoeaaGreatDoorMzSyB
import Derived.Test.YteolonjmgojoeaaGreatDoorMzSyG
namespace Go.Proofs.YteolonjmgojoeaaGreatDoor
open Go.RowKit
open Go.Sort (grow)
set_option linter.unusedVariables false
set_option linter.unusedSimpArgs false

set_option maxRecDepth 100000 in
set_option maxHeartbeats 4000000 in
theorem checkOne_any (x : Syn) (pv : Value) (w : World) (hS : Syns w pv [x]) (h1 : x.path.size ≤ 1000000) (h2 : x.dst.size ≤ 1000000) (hf : fitsB x emptyS = true) (hh : haveE (putS x) = 0) :
    Calls Tryz.prog 20 #[.slice none 0 0, pv] w fun e w' => e = .returned (.int .i64 0) ∧ Below w.heap.size w w' := by
  have HC0 := Lib.hid (fun X => haveCheck_any [] (.slice none 0 0) X (Row.nil_ _ _) (by simp))
  have e0 : haveE [] = 0 := by decide
  rw [e0] at HC0
  have HRS := Lib.hid (fun X (hX : Below w.heap.size w X) => resNil_any [x] pv X (hS.below hX) (by simp))
  have HC1 := Lib.hid (fun X v (hv : Havs X v (putS x)) => haveCheck_any (putS x) v X hv (by
    intro y hy
    unfold putS at hy
    split at hy
    · cases hy
    · unfold addS at hy
      split at hy
      · cases hy
      · rw [List.mem_singleton] at hy
        subst hy
        exact ⟨by show x.path.size ≤ _; omega, by show x.dst.size ≤ _; omega⟩))
  rw [hh] at HC1
  have HF := Lib.hid (fun X => fits_any x emptyS X (by omega) (by omega))
  rw [hf] at HF
  have HS := Lib.hid hS
  obtain ⟨A1, c1, rfl, -⟩ := id hS
  have hmm := @run_makeMap Tryz.prog
  clear hS hh hf e0 h1 h2
  go_enter Tryz.func20, Tryz.ntmps20
  go_wp2_with fail
  refine (HC0.out _).mono ?_
  rintro e w1 ⟨rfl, hb1⟩
  have HB1 := Lib.hid hb1
  have HM1 := Lib.hid (FMap.new Value.string Value.string w1)
  have HB2 := Lib.hid (hb1.alloc hb1.size (.map #[] 0))
  clear hb1
  go_wp2_with fail
  go_loop [16] (fun v => v = .int .i64 0) (fun _ => 1)
  case atStart => rfl
  case round =>
    subst hrel
    go_wp2_with fail
    go_loopw [28] (fun i wr => ∃ k : Nat, k ≤ 1 ∧ i = .int .i64 k ∧ Hid (Below w.heap.size w wr) ∧ Hid (FMap Value.string Value.string wr w1.heap.size (fun _ : ByteArray => (none : Option ByteArray)))) (fun i _ => 1 - (intOf i).toNat)
    case atStart => exact ⟨0, Nat.zero_le _, rfl, HB2, HM1⟩
    case round =>
      obtain ⟨k, hk, rfl, HB, HM⟩ := hrel
      by_cases hlt : k < 1
      · obtain ⟨ad, rfl, hab, y0, y1, y2, y3, y4⟩ := Syns.at_ (HS.out.below HB.out) (k := k) (by simpa using hlt)
        have hk0 : k = 0 := by omega
        have HK0 := Lib.hid hk0
        have hx : [x][k]'(by simpa using hlt) = x := by subst hk0; rfl
        rw [hx] at y0 y1 y2 y3 y4
        clear hx
        have n0 : decide (0 < k) = false := by simp; omega
        clear hk0
        have HB3 := Lib.hid (HB.out.alloc HB.out.size (.cells #[.int .i64 x.kind, .string x.path, .int .i64 x.num, .string x.frm, .string x.dst] 60))
        have HM3 := Lib.hid (HM.out.alloc (.cells #[.int .i64 x.kind, .string x.path, .int .i64 x.num, .string x.frm, .string x.dst] 60))
        obtain ⟨z0, z1, z2, z3, z4⟩ := box5s (x := x) (blk_new wr [.int .i64 x.kind, .string x.path, .int .i64 x.num, .string x.frm, .string x.dst] 60)
        have cF : ∀ d os, Calls Tryz.prog 43 #[.agg #[.int .i64 x.kind, .string x.path, .int .i64 x.num, .string x.frm, .string x.dst], .string emptyS] (grow (redrawn (wr.alloc (.cells #[.int .i64 x.kind, .string x.path, .int .i64 x.num, .string x.frm, .string x.dst] 60)) d) os) fun e w'' => e = .returned (.bool true) ∧ ∃ p : Regrown, w'' = grow (redrawn (wr.alloc (.cells #[.int .i64 x.kind, .string x.path, .int .i64 x.num, .string x.frm, .string x.dst] 60)) p.d) p.os := fun d os => Calls.regrown_of (by have hh := HF.out (grow (redrawn (wr.alloc (.cells #[.int .i64 x.kind, .string x.path, .int .i64 x.num, .string x.frm, .string x.dst] 60)) d) os); exact hh)
        have cL : ∀ d os, (Instr.lookup 115 (.map (some w1.heap.size)) (.string x.path) false).run Tryz.prog (grow (redrawn (wr.alloc (.cells #[.int .i64 x.kind, .string x.path, .int .i64 x.num, .string x.frm, .string x.dst] 60)) d) os) = .ok (.string emptyS) (grow (redrawn (wr.alloc (.cells #[.int .i64 x.kind, .string x.path, .int .i64 x.num, .string x.frm, .string x.dst] 60)) d) os) := fun d os =>
          FMap.lookup (FMap.below HM3.out (below_regrown _ d os)) (keyOk_string Tryz.underlying9) Tryz.underlying115 (z := .string emptyS) (by rfl) x.path false
        have m0 := cell_regrown z0
        have m1 := cell_regrown z1
        have m2 := cell_regrown z2
        have m3 := cell_regrown z3
        have m4 := cell_regrown z4
        go_wp2_with fail
        refine wp_region_quiet_below (by kernel_rfl) (by kernel_rfl) ?_
        repeat (first | go_big_quiet_step (exact cF _ _) | quiet_step (exact cF _ _))
        refine wpQuiet_nil ?_
        intro _ hw9
        obtain ⟨⟨dq, osq⟩, hw9⟩ := hw9
        subst hw9
        have HB4 := Lib.hid (below_step HB3.out HB3.out.size (below_regrown _ dq osq))
        have HM4 := Lib.hid (FMap.below HM3.out (below_regrown _ dq osq))
        generalize grow (redrawn (wr.alloc (.cells #[.int .i64 x.kind, .string x.path, .int .i64 x.num, .string x.frm, .string x.dst] 60)) dq) osq = W5 at HB4 HM4 ⊢
        go_wp2_with fail
        go_roundw
        case rel => exact ⟨k + 1, by omega, by go_num, HB4, HM4⟩
        case measure => simp [intOf]; omega
      · have HR1 := Lib.hid (HRS.out wr HB.out)
        go_wp2_with fail
        refine HR1.out.mono ?_
        rintro e w2 ⟨v, rfl, hv, hb2⟩
        rw [List.flatMap_cons, List.flatMap_nil, List.append_nil] at hv
        have HV := Lib.hid (HC1.out w2 v hv)
        have HB5 := Lib.hid (below_next HB.out hb2)
        obtain ⟨A2, c2, rfl, -⟩ := id hv
        clear hv hb2
        go_wp2_with fail
        refine HV.out.mono ?_
        rintro e w3 ⟨rfl, hb3⟩
        have HB6 := Lib.hid (below_next HB5.out hb3)
        clear hb3
        go_wp2_with fail
        go_ret
        exact ⟨rfl, HB6.out⟩
end Go.Proofs.YteolonjmgojoeaaGreatDoor
