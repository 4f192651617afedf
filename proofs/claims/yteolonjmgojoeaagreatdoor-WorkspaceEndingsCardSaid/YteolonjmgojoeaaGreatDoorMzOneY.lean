/- oneEdit, where the action fits. -/
import Derived.Test.YteolonjmgojoeaaGreatDoorMzChk2
import Derived.Test.YteolonjmgojoeaaGreatDoorMzOne
namespace Go.Proofs.YteolonjmgojoeaaGreatDoor
open Go.RowKit
set_option linter.unusedVariables false
set_option linter.unusedSimpArgs false

/-- What is left to test behind action and base. -/
theorem oneE_of {f : ByteArray → Option Rev} {x : Edt} (hA : actE f x = 0) : oneE f x = if x.base ≠ (lastR f x.path).num then 114 else if fromE f x = false then 115 else if typeE f x = false then 116 else 0 := by
  unfold oneE; rw [hA]; simp
theorem typeE_eq (f : ByteArray → Option Rev) (x : Edt) : typeE f x = (x.ty.ok && decide (0 ≤ x.size) && (liveA x.act || (decide (x.ty = (lastR f x.path).ty) && (decide (x.sum = 0) && decide (x.size = 0))))) := by
  unfold typeE; rw [Bool.and_assoc (decide (x.ty = _))]
theorem fromE_4 {f : ByteArray → Option Rev} {x : Edt} (h : x.act = 4) : fromE f x = (isLast f x.frm && !decide (x.frm = x.path) && decide (x.fnum = (lastR f x.frm).num)) := by unfold fromE; rw [if_pos h]
theorem fromE_o {f : ByteArray → Option Rev} {x : Edt} (h : x.act ≠ 4) : fromE f x = (decide (x.frm = emptyS) && decide (x.fnum = 0)) := by unfold fromE; rw [if_neg h]
theorem beq_dec (a b : Int) : (a == b) = decide (a = b) := by rw [Bool.eq_iff_iff]; simp
theorem bne_dec (a b : Int) : (a != b) = !decide (a = b) := by rw [Bool.eq_iff_iff]; simp

set_option maxRecDepth 100000 in
set_option maxHeartbeats 8000000 in
theorem oneEdit_plain (f : ByteArray → Option Rev) (x : Edt) (g : Nat) (dv dr ev rv : Value) (n : Int) (cl tx : ByteArray) (bl be bn : Nat) (w : World) (hk : Chk w g dv dr n cl tx ev rv bl be bn) (hL : LastMap w bl f) (hA : actE f x = 0) (h4 : x.act ≠ 4) :
    Calls Tryz.prog 57 #[.pointer (some ⟨g, 0, none⟩), .agg #[.string x.path, .int .i64 x.act, .int .i64 x.ty.base, .bool x.ty.k, .bool x.ty.l, .bool x.ty.x, .int .u64 x.sum, .int .i64 x.size, .int .i64 x.base, .string x.frm, .int .i64 x.fnum, .int .i64 x.fence]] w
      fun e w' => e = .returned (.int .i64 (oneE f x)) ∧ Below w.heap.size w w' := by
  have hbW : Below w.heap.size w (w.alloc (.cells #[.string x.path, .int .i64 x.act, .int .i64 x.ty.base, .bool x.ty.k, .bool x.ty.l, .bool x.ty.x, .int .u64 x.sum, .int .i64 x.size, .int .i64 x.base, .string x.frm, .int .i64 x.fnum, .int .i64 x.fence] 54)) := (Below.refl _ _).alloc (Nat.le_refl _) _
  have HLV := Lib.hid (fun r b hr hb => live_is f x.path r b hr hb g dv dr ev rv n cl tx bl be bn (w.alloc (.cells #[.string x.path, .int .i64 x.act, .int .i64 x.ty.base, .bool x.ty.k, .bool x.ty.l, .bool x.ty.x, .int .u64 x.sum, .int .i64 x.size, .int .i64 x.base, .string x.frm, .int .i64 x.fnum, .int .i64 x.fence] 54)) (Blk.below hk hbW (Blk.lt hk)) (FMap.below hL hbW))
  have hX0 := blk_new w [.string x.path, .int .i64 x.act, .int .i64 x.ty.base, .bool x.ty.k, .bool x.ty.l, .bool x.ty.x, .int .u64 x.sum, .int .i64 x.size, .int .i64 x.base, .string x.frm, .int .i64 x.fnum, .int .i64 x.fence] 54
  have hk0 := Blk.below hk hbW (Blk.lt hk)
  have hL0 := FMap.below hL hbW
  have HO0 := Lib.hid (oneE_of hA)
  rw [fromE_o h4] at HO0
  obtain ⟨bt, hbt⟩ : ∃ b, b = decide (x.ty = (lastR f x.path).ty) := ⟨_, rfl⟩
  obtain ⟨bc, hbc⟩ : ∃ b, b = (decide (x.sum = 0) && decide (x.size = 0)) := ⟨_, rfl⟩
  have HTE : Hid (typeE f x = (x.ty.ok && decide (0 ≤ x.size) && (liveA x.act || (bt && bc)))) := Lib.hid (by rw [typeE_eq, ← hbt, ← hbc])
  have hty := run_neq_ty x.ty (lastR f x.path).ty
  have hcn := run_neq_con x.sum x.size 0 0
  rw [← hbt] at hty
  rw [← hbc] at hcn
  clear hbt hbc
  have main : ∀ b1 b2 b3 b5 b, Acts x.act b1 b2 b3 false b5 → isLast f x.path = b → ((b1 = true ∧ b = false) ∨ (b1 = false ∧ (b2 = true ∨ b2 = false ∧ b3 = true ∨ b2 = false ∧ b3 = false ∧ b5 = true) ∧ b = true)) →
      Calls Tryz.prog 57 #[.pointer (some ⟨g, 0, none⟩), .agg #[.string x.path, .int .i64 x.act, .int .i64 x.ty.base, .bool x.ty.k, .bool x.ty.l, .bool x.ty.x, .int .u64 x.sum, .int .i64 x.size, .int .i64 x.base, .string x.frm, .int .i64 x.fnum, .int .i64 x.fence]] w fun e w' => e = .returned (.int .i64 (oneE f x)) ∧ Below w.heap.size w w' := by
    intro b1 b2 b3 b5 b hq hb hcase
    obtain ⟨q1, q2, q3, q4, q5⟩ := hq
    have HC := Lib.hid (HLV.out _ b rfl hb)
    clear hb HLV hA h4
    generalize lastR f x.path = r at HC HO0 hty
    rcases hcase with ⟨rfl, rfl⟩ | ⟨rfl, rfl | ⟨rfl, rfl⟩ | ⟨rfl, rfl, rfl⟩, rfl⟩
    all_goals
      go_enter Tryz.func57, Tryz.ntmps57
      go_wp2_with fail
      refine HC.out.mono ?_
      rintro e w1 ⟨rfl, hb1⟩
      have hX1 := (hX0.below hb1 hX0.lt).alloc (.cells #[.string r.path, .int .i64 r.num, .int .i64 r.chg, .int .i64 r.act, .int .i64 r.ty.base, .bool r.ty.k, .bool r.ty.l, .bool r.ty.x, .int .u64 r.sum, .int .i64 r.size, .string r.frm, .int .i64 r.fnum] 74)
      have hR := blk_new w1 [.string r.path, .int .i64 r.num, .int .i64 r.chg, .int .i64 r.act, .int .i64 r.ty.base, .bool r.ty.k, .bool r.ty.l, .bool r.ty.x, .int .u64 r.sum, .int .i64 r.size, .string r.frm, .int .i64 r.fnum] 74
      have hbw1 : Below w.heap.size w (w1.alloc (.cells #[.string r.path, .int .i64 r.num, .int .i64 r.chg, .int .i64 r.act, .int .i64 r.ty.base, .bool r.ty.k, .bool r.ty.l, .bool r.ty.x, .int .u64 r.sum, .int .i64 r.size, .string r.frm, .int .i64 r.fnum] 74)) := (below_next hbW hb1).alloc (below_next hbW hb1).size _
      have hK1 := Blk.alloc (Blk.below hk0 hb1 (Blk.lt hk0)) (.cells #[.string r.path, .int .i64 r.num, .int .i64 r.chg, .int .i64 r.act, .int .i64 r.ty.base, .bool r.ty.k, .bool r.ty.l, .bool r.ty.x, .int .u64 r.sum, .int .i64 r.size, .string r.frm, .int .i64 r.fnum] 74)
      have hL1 := FMap.alloc (FMap.below hL0 hb1) (.cells #[.string r.path, .int .i64 r.num, .int .i64 r.chg, .int .i64 r.act, .int .i64 r.ty.base, .bool r.ty.k, .bool r.ty.l, .bool r.ty.x, .int .u64 r.sum, .int .i64 r.size, .string r.frm, .int .i64 r.fnum] 74)
      have hs0 : w.heap.size < w1.heap.size := (hX0.below hb1 hX0.lt).lt
      obtain ⟨c0, c1, c2, c3, c4, c5, c6, c7, c8, c9, c10, c11⟩ := box12 (hX0.below hb1 hX0.lt)
      clear hb1
      by_cases hbb : x.base = r.num
      · have qb : (x.base != r.num) = false := by rw [bne_dec]; simp [hbb]
        rw [if_neg (by simp [hbb])] at HO0
        clear hbb
        by_cases hfr : x.frm = emptyS
        · have s1 := str_empty hfr
          by_cases hfn : x.fnum = 0
          · have qf : (x.fnum != 0) = false := by rw [bne_dec]; simp [hfn]
            have HO1 : Hid (oneE f x = if typeE f x = false then 116 else 0) := Lib.hid (by rw [HO0.out, hfr, hfn]; simp)
            clear hfr hfn HO0
            cases htk : x.ty.ok
            · have HO : Hid (oneE f x = 116) := Lib.hid (by rw [HO1.out, HTE.out, htk]; rfl)
              go_wp2_with fail
              refine (check_is _ _ _ _ 90 (by show errOf 90 x.ty.ok = 90; rw [htk]; rfl) _).mono ?_
              rintro e w5 ⟨rfl, hb5⟩
              clear htk
              go_wp2_with fail
              go_ret
              exact ⟨ret_int HO.out.symm, below_next hbw1 hb5⟩
            · have HK := Lib.hid (fun W => check_is x.ty.base x.ty.k x.ty.l x.ty.x 0 (by show errOf 90 x.ty.ok = 0; rw [htk]; rfl) W)
              have HO2 : Hid (oneE f x = if (decide (0 ≤ x.size) && (liveA x.act || (bt && bc))) = false then 116 else 0) := Lib.hid (by rw [HO1.out, HTE.out, htk]; rfl)
              clear htk
              go_wp2_with fail
              refine (HK.out _).mono ?_
              rintro e w5 ⟨rfl, hb5⟩
              have hbw5 := below_next hbw1 hb5
              have hX5 := hX1.below hb5 hX1.lt
              have hR5 := hR.below hb5 hR.lt
              clear c0 c1 c2 c3 c4 c5 c6 c7 c8 c9 c10 c11
              obtain ⟨c0, c1, c2, c3, c4, c5, c6, c7, c8, c9, c10, c11⟩ := box12 hX5
              by_cases hz : x.size < 0
              · have HO : Hid (oneE f x = 116) := Lib.hid (by rw [HO2.out, show decide (0 ≤ x.size) = false by simp; omega]; rfl)
                go_wp2_with fail
                go_ret
                exact ⟨ret_int HO.out.symm, hbw5⟩
              · have HO3 : Hid (oneE f x = if (liveA x.act || (bt && bc)) = false then 116 else 0) := Lib.hid (by rw [HO2.out, show decide (0 ≤ x.size) = true by simp; omega]; rfl)
                cases hlv : liveA x.act
                · rw [hlv] at HO3
                  have HLI := Lib.hid (fun W => isLive_is x.act false hlv W)
                  clear hlv
                  obtain ⟨d0, d1, d2, d3, d4, d5, d6, d7, d8, d9, d10, d11⟩ := box12 hR5
                  cases bt
                  · go_wp2_with fail
                    refine (HLI.out _).mono ?_
                    rintro e w6 ⟨rfl, rfl⟩
                    go_wp2_with fail
                    go_ret
                    exact ⟨ret_int HO3.out.symm, hbw5⟩
                  · cases bc
                    · go_wp2_with fail
                      refine (HLI.out _).mono ?_
                      rintro e w6 ⟨rfl, rfl⟩
                      go_wp2_with fail
                      go_ret
                      exact ⟨ret_int HO3.out.symm, hbw5⟩
                    · go_wp2_with fail
                      refine (HLI.out _).mono ?_
                      rintro e w6 ⟨rfl, rfl⟩
                      go_wp2_with fail
                      go_ret
                      exact ⟨ret_int HO3.out.symm, hbw5⟩
                · rw [hlv] at HO3
                  have HLI := Lib.hid (fun W => isLive_is x.act true hlv W)
                  clear hlv
                  go_wp2_with fail
                  refine (HLI.out _).mono ?_
                  rintro e w6 ⟨rfl, rfl⟩
                  go_wp2_with fail
                  go_ret
                  exact ⟨ret_int HO3.out.symm, hbw5⟩
          · have qf : (x.fnum != 0) = true := by rw [bne_dec]; simp [hfn]
            have HO : Hid (oneE f x = 115) := Lib.hid (by rw [HO0.out]; simp [hfn])
            clear hfr hfn HO0
            go_wp2_with fail
            go_ret
            exact ⟨ret_int HO.out.symm, hbw1⟩
        · have s1 := str_ne hfr
          have s2 := str_isE hfr
          have HO : Hid (oneE f x = 115) := Lib.hid (by rw [HO0.out]; simp [hfr])
          clear hfr HO0
          go_wp2_with fail
          go_ret
          exact ⟨ret_int HO.out.symm, hbw1⟩
      · have qb : (x.base != r.num) = true := by rw [bne_dec]; simp [hbb]
        have HO : Hid (oneE f x = 114) := Lib.hid (by rw [HO0.out, if_pos hbb])
        clear hbb HO0
        go_wp2_with fail
        go_ret
        exact ⟨ret_int HO.out.symm, hbw1⟩
  have h4' : decide (x.act = 4) = false := by simpa using h4
  have ha := acts_of x.act
  rw [h4'] at ha
  refine main _ _ _ _ _ ha rfl ?_
  unfold actE at hA
  by_cases h1 : x.act = 1
  · rw [if_pos (.inl h1)] at hA
    left
    refine ⟨by simp [h1], ?_⟩
    cases hh : isLast f x.path
    · rfl
    · rw [hh] at hA; simp at hA
  · rw [if_neg (by omega)] at hA
    by_cases h2 : x.act = 2 ∨ x.act = 3 ∨ x.act = 5
    · rw [if_pos h2] at hA
      right
      refine ⟨by simp; omega, by rcases h2 with h | h | h <;> simp [h], ?_⟩
      cases hh : isLast f x.path
      · rw [hh] at hA; simp at hA
      · rfl
    · rw [if_neg h2] at hA; omega
end Go.Proofs.YteolonjmgojoeaaGreatDoor
