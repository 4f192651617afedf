/- The walks of FiletypeParses and FiletypeFollows. -/
import Derived.Test.YtfifalpacagacaaDoorAwake
namespace Go.Proofs.YtfifalpacagacaaDoor
open Go.RowKit
set_option linter.unusedVariables false

set_option maxHeartbeats 2000000 in
theorem filetypeFollows_walk (p t : ByteArray) (w : World) (he : Env w) (hp : p.size ≤ maxLen) (ht : t.size ≤ maxLen) :
    Calls Tryd.prog 6 #[.string p, .string t] w fun e w' => e = .returned (.bool true) ∧ Below w.heap.size w w' := by
  unfold maxLen at hp ht
  by_cases h1 : 300 < p.size
  · have d1 : decide ((300 : Int) < (p.size : Int)) = true := by simp; omega
    go_enter Tryd.func6, Tryd.ntmps6
    go_wp2_with fail
    refine (awake_any w he).mono ?_
    rintro e w1 ⟨rfl, hb1⟩
    go_wp2_with fail
    go_ret
    exact ⟨rfl, hb1⟩
  · have d1 : decide ((300 : Int) < (p.size : Int)) = false := by simp; omega
    by_cases h2 : 300 < t.size
    · have d2 : decide ((300 : Int) < (t.size : Int)) = true := by simp; omega
      go_enter Tryd.func6, Tryd.ntmps6
      go_wp2_with fail
      refine (awake_any w he).mono ?_
      rintro e w1 ⟨rfl, hb1⟩
      go_wp2_with fail
      go_ret
      exact ⟨rfl, hb1⟩
    · have d2 : decide ((300 : Int) < (t.size : Int)) = false := by simp; omega
      have HF := Lib.hid (follow_any p t w he (by omega) (by unfold maxLen; omega))
      go_enter Tryd.func6, Tryd.ntmps6
      go_wp2_with fail
      refine HF.out.mono ?_
      rintro e w1 ⟨rfl, hb1⟩
      have HG := Lib.hid (refFollow_any p t w1 (he.below hb1) (by omega) (by unfold maxLen; omega))
      go_wp2_with fail
      refine HG.out.mono ?_
      rintro e w2 ⟨rfl, hb2⟩
      go_wp2_with fail
      refine (awake_any w2 ((he.below hb1).below hb2)).mono ?_
      rintro e w3 ⟨rfl, hb3⟩
      go_wp2_with fail
      go_ret
      exact ⟨rfl, below_next (below_next hb1 hb2) hb3⟩

set_option maxHeartbeats 2000000 in
theorem filetypeParses_walk (s : ByteArray) (w : World) (he : Env w) (hs : s.size ≤ maxLen) :
    Calls Tryd.prog 4 #[.string s] w fun e w' => e = .returned (.bool true) ∧ Below w.heap.size w w' := by
  have HF := Lib.hid (parse_any s w hs)
  have HG := Lib.hid (fun W => refParse_any s W)
  have hpv : ∃ (t : Ty) (n : Int), parseV (parseL s.data.toList) = .tuple #[.agg #[.int .i64 t.base, .bool t.k, .bool t.l, .bool t.x], .int .i64 n] := by
    cases parseL s.data.toList with
    | none => exact ⟨zeroTy, 90, rfl⟩
    | some t => exact ⟨t, 0, rfl⟩
  obtain ⟨t, n, hpv⟩ := hpv
  rw [hpv] at HF HG
  clear hpv
  have heq := run_eql_ty t t
  simp only [decide_true] at heq
  obtain ⟨tb, tk, tl, tx⟩ := t
  go_enter Tryd.func4, Tryd.ntmps4
  go_wp2_with fail
  refine HF.out.mono ?_
  rintro e w1 ⟨rfl, hb1⟩
  go_wp2_with fail
  refine (HG.out _).mono ?_
  rintro e w2 ⟨rfl, hb2⟩
  have hT := (blk_new w1 [.int .i64 tb, .bool tk, .bool tl, .bool tx] 27).below hb2 (by simp)
  have hb3 : Below w.heap.size w w2 := (hb1.alloc hb1.size _).trans (hb2.mono (by have := hb1.size; simp; omega))
  obtain ⟨y0, y1, y2, y3, z0, z1, z2, z3⟩ := box4 hT
  have hlt := hT.lt
  have he2 := he.below hb3
  go_wp2_with fail
  refine (awake_any _ (he2.alloc _)).mono ?_
  rintro e w3 ⟨rfl, hb4⟩
  go_wp2_with fail
  go_ret
  exact ⟨rfl, below_next (hb3.alloc hb3.size _) hb4⟩

end Go.Proofs.YtfifalpacagacaaDoor
