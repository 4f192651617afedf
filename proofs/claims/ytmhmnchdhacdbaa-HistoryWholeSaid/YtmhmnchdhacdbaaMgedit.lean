/- oneEdit, where the action fits. -/
import Derived.Test.YtmhmnchdhacdbaaMgchk
namespace Go.Proofs.Ytmhmnchdhacdbaa
open Go.RowKit
set_option linter.unusedVariables false
set_option linter.unusedSimpArgs false

/-- What is left to test behind action and base. -/
theorem oneE_of {f : ByteArray → Option Rev} {x : Edt} (hA : actE f x = 0) : oneE f x = if x.base ≠ (lastR f x.path).num then 114 else if fromE f x = false then 115 else if typeE f x = false then 116 else 0 := by
  unfold oneE; rw [hA]; simp
theorem typeE_eq (f : ByteArray → Option Rev) (x : Edt) : typeE f x = (x.ty.ok && decide (0 ≤ x.size) && (liveA x.act || (decide (x.ty = (lastR f x.path).ty) && (decide (x.sum = 0) && decide (x.size = 0))))) := by
  unfold typeE; rw [Bool.and_assoc (decide (x.ty = _))]
theorem fromE_4 {f : ByteArray → Option Rev} {x : Edt} (h : x.act = 4) : fromE f x = (isLast f x.frm && !decide (x.frm = x.path) && decide (x.fnum = (lastR f x.frm).num)) := by unfold fromE; rw [if_pos h]
theorem fromE_o {f : ByteArray → Option Rev} {x : Edt} (h : x.act ≠ 4) : fromE f x = (decide (x.frm = emptyS) && decide (x.fnum = 0)) := by unfold fromE; rw [if_neg h]
theorem beq_dec (a b : Int) : (a == b) = decide (a = b) := by rw [Bool.eq_iff_iff]; simp
theorem bne_dec (a b : Int) : (a != b) = !decide (a = b) := by rw [Bool.eq_iff_iff]; simp

set_option maxRecDepth 100000 in
set_option maxHeartbeats 8000000 in
theorem oneEdit_plain (f : ByteArray → Option Rev) (x : Edt) (g : Nat) (dv dr ev rv : Value) (n : Int) (cl tx : ByteArray) (bl be bn : Nat) (w : World) (hk : Chk w g dv dr n cl tx ev rv bl be bn) (hL : LastMap w bl f) (hA : actE f x = 0) (h4 : x.act ≠ 4) :
    Calls Try.prog 46 #[.pointer (some ⟨g, 0, none⟩), .agg #[.string x.path, .int .i64 x.act, .int .i64 x.ty.base, .bool x.ty.k, .bool x.ty.l, .bool x.ty.x, .int .u64 x.sum, .int .i64 x.size, .int .i64 x.base, .string x.frm, .int .i64 x.fnum, .int .i64 x.fence]] w
      fun e w' => e = .returned (.int .i64 (oneE f x)) ∧ Below w.heap.size w w' := by
  have hbW : Below w.heap.size w (w.alloc (.cells #[.string x.path, .int .i64 x.act, .int .i64 x.ty.base, .bool x.ty.k, .bool x.ty.l, .bool x.ty.x, .int .u64 x.sum, .int .i64 x.size, .int .i64 x.base, .string x.frm, .int .i64 x.fnum, .int .i64 x.fence] 45)) := (Below.refl _ _).alloc (Nat.le_refl _) _
  have HLV := Lib.hid (fun r b hr hb => live_is f x.path r b hr hb g dv dr ev rv n cl tx bl be bn (w.alloc (.cells #[.string x.path, .int .i64 x.act, .int .i64 x.ty.base, .bool x.ty.k, .bool x.ty.l, .bool x.ty.x, .int .u64 x.sum, .int .i64 x.size, .int .i64 x.base, .string x.frm, .int .i64 x.fnum, .int .i64 x.fence] 45)) (Blk.below hk hbW (Blk.lt hk)) (FMap.below hL hbW))
  have hX0 := blk_new w [.string x.path, .int .i64 x.act, .int .i64 x.ty.base, .bool x.ty.k, .bool x.ty.l, .bool x.ty.x, .int .u64 x.sum, .int .i64 x.size, .int .i64 x.base, .string x.frm, .int .i64 x.fnum, .int .i64 x.fence] 45
  have hk0 := Blk.below hk hbW (Blk.lt hk)
  have hL0 := FMap.below hL hbW
  have HO0 := Lib.hid (oneE_of hA)
  rw [fromE_o h4] at HO0
  obtain ⟨bt, hbt⟩ : ∃ b, b = decide (x.ty = (lastR f x.path).ty) := ⟨_, rfl⟩
  obtain ⟨bc, hbc⟩ : ∃ b, b = (decide (x.sum = 0) && decide (x.size = 0)) := ⟨_, rfl⟩
  have HTE : Hid (typeE f x = (x.ty.ok && decide (0 ≤ x.size) && (liveA x.act || (bt && bc)))) := Lib.hid (by rw [typeE_eq, ← hbt, ← hbc])
  have hty := run_neq_ty x.ty (lastR f x.path).ty
  have hcn := run_neq_con x.sum x.size 0 0
  rw [← hbt] at hty
  rw [← hbc] at hcn
  clear hbt hbc
  have main : ∀ b1 b2 b3 b5 b, Acts x.act b1 b2 b3 false b5 → isLast f x.path = b → ((b1 = true ∧ b = false) ∨ (b1 = false ∧ (b2 = true ∨ b2 = false ∧ b3 = true ∨ b2 = false ∧ b3 = false ∧ b5 = true) ∧ b = true)) →
      Calls Try.prog 46 #[.pointer (some ⟨g, 0, none⟩), .agg #[.string x.path, .int .i64 x.act, .int .i64 x.ty.base, .bool x.ty.k, .bool x.ty.l, .bool x.ty.x, .int .u64 x.sum, .int .i64 x.size, .int .i64 x.base, .string x.frm, .int .i64 x.fnum, .int .i64 x.fence]] w fun e w' => e = .returned (.int .i64 (oneE f x)) ∧ Below w.heap.size w w' := by
    intro b1 b2 b3 b5 b hq hb hcase
    obtain ⟨q1, q2, q3, q4, q5⟩ := hq
    have HC := Lib.hid (HLV.out _ b rfl hb)
    clear hb HLV hA h4
    generalize lastR f x.path = r at HC HO0 hty
    rcases hcase with ⟨rfl, rfl⟩ | ⟨rfl, rfl | ⟨rfl, rfl⟩ | ⟨rfl, rfl, rfl⟩, rfl⟩
    all_goals
      go_enter Try.func46, Try.ntmps46
      go_wp2_with fail
      refine HC.out.mono ?_
      rintro e w1 ⟨rfl, hb1⟩
      have hX1 := (hX0.below hb1 hX0.lt).alloc (.cells #[.string r.path, .int .i64 r.num, .int .i64 r.chg, .int .i64 r.act, .int .i64 r.ty.base, .bool r.ty.k, .bool r.ty.l, .bool r.ty.x, .int .u64 r.sum, .int .i64 r.size, .string r.frm, .int .i64 r.fnum] 43)
      have hR := blk_new w1 [.string r.path, .int .i64 r.num, .int .i64 r.chg, .int .i64 r.act, .int .i64 r.ty.base, .bool r.ty.k, .bool r.ty.l, .bool r.ty.x, .int .u64 r.sum, .int .i64 r.size, .string r.frm, .int .i64 r.fnum] 43
      have hbw1 : Below w.heap.size w (w1.alloc (.cells #[.string r.path, .int .i64 r.num, .int .i64 r.chg, .int .i64 r.act, .int .i64 r.ty.base, .bool r.ty.k, .bool r.ty.l, .bool r.ty.x, .int .u64 r.sum, .int .i64 r.size, .string r.frm, .int .i64 r.fnum] 43)) := (below_next hbW hb1).alloc (below_next hbW hb1).size _
      have hK1 := Blk.alloc (Blk.below hk0 hb1 (Blk.lt hk0)) (.cells #[.string r.path, .int .i64 r.num, .int .i64 r.chg, .int .i64 r.act, .int .i64 r.ty.base, .bool r.ty.k, .bool r.ty.l, .bool r.ty.x, .int .u64 r.sum, .int .i64 r.size, .string r.frm, .int .i64 r.fnum] 43)
      have hL1 := FMap.alloc (FMap.below hL0 hb1) (.cells #[.string r.path, .int .i64 r.num, .int .i64 r.chg, .int .i64 r.act, .int .i64 r.ty.base, .bool r.ty.k, .bool r.ty.l, .bool r.ty.x, .int .u64 r.sum, .int .i64 r.size, .string r.frm, .int .i64 r.fnum] 43)
      have hs0 : w.heap.size < w1.heap.size := (hX0.below hb1 hX0.lt).lt
      obtain ⟨c0, c1, c2, c3, c4, c5, c6, c7, c8, c9, c10, c11⟩ := box12 (hX0.below hb1 hX0.lt)
      clear hb1
      by_cases hbb : x.base = r.num
      · have qb : (x.base != r.num) = false := by rw [bne_dec]; simp [hbb]
        rw [if_neg (by simp [hbb])] at HO0
        clear hbb
        by_cases hfr : x.frm = emptyS
        · have s1 := str_empty hfr
          by_cases hfn : x.fnum = 0
          · have qf : (x.fnum != 0) = false := by rw [bne_dec]; simp [hfn]
            have HO1 : Hid (oneE f x = if typeE f x = false then 116 else 0) := Lib.hid (by rw [HO0.out, hfr, hfn]; simp)
            clear hfr hfn HO0
            cases htk : x.ty.ok
            · have HO : Hid (oneE f x = 116) := Lib.hid (by rw [HO1.out, HTE.out, htk]; rfl)
              go_wp2_with fail
              refine (check_is _ _ _ _ 90 (by show errOf 90 x.ty.ok = 90; rw [htk]; rfl) _).mono ?_
              rintro e w5 ⟨rfl, hb5⟩
              clear htk
              go_wp2_with fail
              go_ret
              exact ⟨ret_int HO.out.symm, below_next hbw1 hb5⟩
            · have HK := Lib.hid (fun W => check_is x.ty.base x.ty.k x.ty.l x.ty.x 0 (by show errOf 90 x.ty.ok = 0; rw [htk]; rfl) W)
              have HO2 : Hid (oneE f x = if (decide (0 ≤ x.size) && (liveA x.act || (bt && bc))) = false then 116 else 0) := Lib.hid (by rw [HO1.out, HTE.out, htk]; rfl)
              clear htk
              go_wp2_with fail
              refine (HK.out _).mono ?_
              rintro e w5 ⟨rfl, hb5⟩
              have hbw5 := below_next hbw1 hb5
              have hX5 := hX1.below hb5 hX1.lt
              have hR5 := hR.below hb5 hR.lt
              clear c0 c1 c2 c3 c4 c5 c6 c7 c8 c9 c10 c11
              obtain ⟨c0, c1, c2, c3, c4, c5, c6, c7, c8, c9, c10, c11⟩ := box12 hX5
              by_cases hz : x.size < 0
              · have HO : Hid (oneE f x = 116) := Lib.hid (by rw [HO2.out, show decide (0 ≤ x.size) = false by simp; omega]; rfl)
                go_wp2_with fail
                go_ret
                exact ⟨ret_int HO.out.symm, hbw5⟩
              · have HO3 : Hid (oneE f x = if (liveA x.act || (bt && bc)) = false then 116 else 0) := Lib.hid (by rw [HO2.out, show decide (0 ≤ x.size) = true by simp; omega]; rfl)
                cases hlv : liveA x.act
                · rw [hlv] at HO3
                  have HLI := Lib.hid (fun W => isLive_is x.act false hlv W)
                  clear hlv
                  obtain ⟨d0, d1, d2, d3, d4, d5, d6, d7, d8, d9, d10, d11⟩ := box12 hR5
                  cases bt
                  · go_wp2_with fail
                    refine (HLI.out _).mono ?_
                    rintro e w6 ⟨rfl, rfl⟩
                    go_wp2_with fail
                    go_ret
                    exact ⟨ret_int HO3.out.symm, hbw5⟩
                  · cases bc
                    · go_wp2_with fail
                      refine (HLI.out _).mono ?_
                      rintro e w6 ⟨rfl, rfl⟩
                      go_wp2_with fail
                      go_ret
                      exact ⟨ret_int HO3.out.symm, hbw5⟩
                    · go_wp2_with fail
                      refine (HLI.out _).mono ?_
                      rintro e w6 ⟨rfl, rfl⟩
                      go_wp2_with fail
                      go_ret
                      exact ⟨ret_int HO3.out.symm, hbw5⟩
                · rw [hlv] at HO3
                  have HLI := Lib.hid (fun W => isLive_is x.act true hlv W)
                  clear hlv
                  go_wp2_with fail
                  refine (HLI.out _).mono ?_
                  rintro e w6 ⟨rfl, rfl⟩
                  go_wp2_with fail
                  go_ret
                  exact ⟨ret_int HO3.out.symm, hbw5⟩
          · have qf : (x.fnum != 0) = true := by rw [bne_dec]; simp [hfn]
            have HO : Hid (oneE f x = 115) := Lib.hid (by rw [HO0.out]; simp [hfn])
            clear hfr hfn HO0
            go_wp2_with fail
            go_ret
            exact ⟨ret_int HO.out.symm, hbw1⟩
        · have s1 := str_ne hfr
          have s2 := str_isE hfr
          have HO : Hid (oneE f x = 115) := Lib.hid (by rw [HO0.out]; simp [hfr])
          clear hfr HO0
          go_wp2_with fail
          go_ret
          exact ⟨ret_int HO.out.symm, hbw1⟩
      · have qb : (x.base != r.num) = true := by rw [bne_dec]; simp [hbb]
        have HO : Hid (oneE f x = 114) := Lib.hid (by rw [HO0.out, if_pos hbb])
        clear hbb HO0
        go_wp2_with fail
        go_ret
        exact ⟨ret_int HO.out.symm, hbw1⟩
  have h4' : decide (x.act = 4) = false := by simpa using h4
  have ha := acts_of x.act
  rw [h4'] at ha
  refine main _ _ _ _ _ ha rfl ?_
  unfold actE at hA
  by_cases h1 : x.act = 1
  · rw [if_pos (.inl h1)] at hA
    left
    refine ⟨by simp [h1], ?_⟩
    cases hh : isLast f x.path
    · rfl
    · rw [hh] at hA; simp at hA
  · rw [if_neg (by omega)] at hA
    by_cases h2 : x.act = 2 ∨ x.act = 3 ∨ x.act = 5
    · rw [if_pos h2] at hA
      right
      refine ⟨by simp; omega, by rcases h2 with h | h | h <;> simp [h], ?_⟩
      cases hh : isLast f x.path
      · rw [hh] at hA; simp at hA
      · rfl
    · rw [if_neg h2] at hA; omega
end Go.Proofs.Ytmhmnchdhacdbaa
/- oneEdit at a move. -/
namespace Go.Proofs.Ytmhmnchdhacdbaa
open Go.RowKit
set_option linter.unusedVariables false
set_option linter.unusedSimpArgs false

set_option maxRecDepth 100000 in
set_option maxHeartbeats 8000000 in
theorem oneEdit_move (f : ByteArray → Option Rev) (x : Edt) (g : Nat) (dv dr ev rv : Value) (n : Int) (cl tx : ByteArray) (bl be bn : Nat) (w : World) (hk : Chk w g dv dr n cl tx ev rv bl be bn) (hL : LastMap w bl f) (hA : actE f x = 0) (h4 : x.act = 4) :
    Calls Try.prog 46 #[.pointer (some ⟨g, 0, none⟩), .agg #[.string x.path, .int .i64 x.act, .int .i64 x.ty.base, .bool x.ty.k, .bool x.ty.l, .bool x.ty.x, .int .u64 x.sum, .int .i64 x.size, .int .i64 x.base, .string x.frm, .int .i64 x.fnum, .int .i64 x.fence]] w
      fun e w' => e = .returned (.int .i64 (oneE f x)) ∧ Below w.heap.size w w' := by
  have hbW : Below w.heap.size w (w.alloc (.cells #[.string x.path, .int .i64 x.act, .int .i64 x.ty.base, .bool x.ty.k, .bool x.ty.l, .bool x.ty.x, .int .u64 x.sum, .int .i64 x.size, .int .i64 x.base, .string x.frm, .int .i64 x.fnum, .int .i64 x.fence] 45)) := (Below.refl _ _).alloc (Nat.le_refl _) _
  have HLV := Lib.hid (fun r b hr hb => live_is f x.path r b hr hb g dv dr ev rv n cl tx bl be bn (w.alloc (.cells #[.string x.path, .int .i64 x.act, .int .i64 x.ty.base, .bool x.ty.k, .bool x.ty.l, .bool x.ty.x, .int .u64 x.sum, .int .i64 x.size, .int .i64 x.base, .string x.frm, .int .i64 x.fnum, .int .i64 x.fence] 45)) (Blk.below hk hbW (Blk.lt hk)) (FMap.below hL hbW))
  have hX0 := blk_new w [.string x.path, .int .i64 x.act, .int .i64 x.ty.base, .bool x.ty.k, .bool x.ty.l, .bool x.ty.x, .int .u64 x.sum, .int .i64 x.size, .int .i64 x.base, .string x.frm, .int .i64 x.fnum, .int .i64 x.fence] 45
  have hk0 := Blk.below hk hbW (Blk.lt hk)
  have hL0 := FMap.below hL hbW
  have HO0 := Lib.hid (oneE_of hA)
  rw [fromE_4 h4] at HO0
  obtain ⟨bt, hbt⟩ : ∃ b, b = decide (x.ty = (lastR f x.path).ty) := ⟨_, rfl⟩
  obtain ⟨bc, hbc⟩ : ∃ b, b = (decide (x.sum = 0) && decide (x.size = 0)) := ⟨_, rfl⟩
  have HTE : Hid (typeE f x = (x.ty.ok && decide (0 ≤ x.size) && (liveA x.act || (bt && bc)))) := Lib.hid (by rw [typeE_eq, ← hbt, ← hbc])
  have hty := run_neq_ty x.ty (lastR f x.path).ty
  have hcn := run_neq_con x.sum x.size 0 0
  rw [← hbt] at hty
  rw [← hbc] at hcn
  clear hbt hbc
  have hb : isLast f x.path = false := by
    unfold actE at hA
    rw [if_pos (.inr h4)] at hA
    cases hh : isLast f x.path
    · rfl
    · rw [hh] at hA; simp at hA
  have q1 : (x.act == 1) = false := by rw [h4]; rfl
  have q4 : (x.act == 4) = true := by rw [h4]; rfl
  have HC := Lib.hid (HLV.out _ false rfl hb)
  clear hb HLV hA h4
  generalize lastR f x.path = r at HC HO0 hty
  go_enter Try.func46, Try.ntmps46
  go_wp2_with fail
  refine HC.out.mono ?_
  rintro e w1 ⟨rfl, hb1⟩
  have hX1 := (hX0.below hb1 hX0.lt).alloc (.cells #[.string r.path, .int .i64 r.num, .int .i64 r.chg, .int .i64 r.act, .int .i64 r.ty.base, .bool r.ty.k, .bool r.ty.l, .bool r.ty.x, .int .u64 r.sum, .int .i64 r.size, .string r.frm, .int .i64 r.fnum] 43)
  have hR := blk_new w1 [.string r.path, .int .i64 r.num, .int .i64 r.chg, .int .i64 r.act, .int .i64 r.ty.base, .bool r.ty.k, .bool r.ty.l, .bool r.ty.x, .int .u64 r.sum, .int .i64 r.size, .string r.frm, .int .i64 r.fnum] 43
  have hbw1 : Below w.heap.size w (w1.alloc (.cells #[.string r.path, .int .i64 r.num, .int .i64 r.chg, .int .i64 r.act, .int .i64 r.ty.base, .bool r.ty.k, .bool r.ty.l, .bool r.ty.x, .int .u64 r.sum, .int .i64 r.size, .string r.frm, .int .i64 r.fnum] 43)) := (below_next hbW hb1).alloc (below_next hbW hb1).size _
  have hK1 := Blk.alloc (Blk.below hk0 hb1 (Blk.lt hk0)) (.cells #[.string r.path, .int .i64 r.num, .int .i64 r.chg, .int .i64 r.act, .int .i64 r.ty.base, .bool r.ty.k, .bool r.ty.l, .bool r.ty.x, .int .u64 r.sum, .int .i64 r.size, .string r.frm, .int .i64 r.fnum] 43)
  have hL1 := FMap.alloc (FMap.below hL0 hb1) (.cells #[.string r.path, .int .i64 r.num, .int .i64 r.chg, .int .i64 r.act, .int .i64 r.ty.base, .bool r.ty.k, .bool r.ty.l, .bool r.ty.x, .int .u64 r.sum, .int .i64 r.size, .string r.frm, .int .i64 r.fnum] 43)
  have hs0 : w.heap.size < w1.heap.size := (hX0.below hb1 hX0.lt).lt
  obtain ⟨c0, c1, c2, c3, c4, c5, c6, c7, c8, c9, c10, c11⟩ := box12 (hX0.below hb1 hX0.lt)
  clear hb1
  by_cases hbb : x.base = r.num
  · have qb : (x.base != r.num) = false := by rw [bne_dec]; simp [hbb]
    rw [if_neg (by simp [hbb])] at HO0
    clear hbb
    obtain ⟨bl2, hbl2⟩ : ∃ b, isLast f x.frm = b := ⟨_, rfl⟩
    obtain ⟨r2, hr2⟩ : ∃ r, lastR f x.frm = r := ⟨_, rfl⟩
    have HC2 := Lib.hid (live_is f x.frm r2 bl2 hr2 hbl2 g dv dr ev rv n cl tx bl be bn _ hK1 hL1)
    rw [hbl2, hr2] at HO0
    clear hbl2 hr2
    go_wp2_with fail
    refine HC2.out.mono ?_
    rintro e w2 ⟨rfl, hb2⟩
    have hX2 := hX1.below hb2 hX1.lt
    have hR2 := hR.below hb2 hR.lt
    have hX3 := hX2.alloc (.cells #[.string r2.path, .int .i64 r2.num, .int .i64 r2.chg, .int .i64 r2.act, .int .i64 r2.ty.base, .bool r2.ty.k, .bool r2.ty.l, .bool r2.ty.x, .int .u64 r2.sum, .int .i64 r2.size, .string r2.frm, .int .i64 r2.fnum] 43)
    have hR3 := hR2.alloc (.cells #[.string r2.path, .int .i64 r2.num, .int .i64 r2.chg, .int .i64 r2.act, .int .i64 r2.ty.base, .bool r2.ty.k, .bool r2.ty.l, .bool r2.ty.x, .int .u64 r2.sum, .int .i64 r2.size, .string r2.frm, .int .i64 r2.fnum] 43)
    have hbw2 := below_next hbw1 hb2
    have hbw3 := hbw2.alloc hbw2.size (.cells #[.string r2.path, .int .i64 r2.num, .int .i64 r2.chg, .int .i64 r2.act, .int .i64 r2.ty.base, .bool r2.ty.k, .bool r2.ty.l, .bool r2.ty.x, .int .u64 r2.sum, .int .i64 r2.size, .string r2.frm, .int .i64 r2.fnum] 43)
    have hs2 := hX2.lt
    clear c0 c1 c2 c3 c4 c5 c6 c7 c8 c9 c10 c11
    obtain ⟨c0, c1, c2, c3, c4, c5, c6, c7, c8, c9, c10, c11⟩ := box12 hX2
    cases bl2
    · have HO : Hid (oneE f x = 115) := Lib.hid (by rw [HO0.out]; rfl)
      go_wp2_with fail
      go_ret
      exact ⟨ret_int HO.out.symm, hbw3⟩
    · have sq := str_eqB x.frm x.path
      by_cases hfp : x.frm = x.path
      · rw [show decide (x.frm = x.path) = true by simpa using hfp] at sq
        have HO : Hid (oneE f x = 115) := Lib.hid (by rw [HO0.out]; simp [hfp])
        clear hfp
        go_wp2_with fail
        go_ret
        exact ⟨ret_int HO.out.symm, hbw3⟩
      · rw [show decide (x.frm = x.path) = false by simpa using hfp] at sq
        have HO1' : Hid (oneE f x = if decide (x.fnum = r2.num) = false then 115 else if typeE f x = false then 116 else 0) := Lib.hid (by rw [HO0.out]; simp [hfp])
        clear hfp
        by_cases hfn : x.fnum = r2.num
        · have qf : (x.fnum != r2.num) = false := by rw [bne_dec]; simp [hfn]
          have HO1 : Hid (oneE f x = if typeE f x = false then 116 else 0) := Lib.hid (by rw [HO1'.out]; simp [hfn])
          clear hfn HO1' HO0
          cases htk : x.ty.ok
          · have HO : Hid (oneE f x = 116) := Lib.hid (by rw [HO1.out, HTE.out, htk]; rfl)
            go_wp2_with fail
            refine (check_is _ _ _ _ 90 (by show errOf 90 x.ty.ok = 90; rw [htk]; rfl) _).mono ?_
            rintro e w5 ⟨rfl, hb5⟩
            clear htk
            go_wp2_with fail
            go_ret
            exact ⟨ret_int HO.out.symm, below_next hbw3 hb5⟩
          · have HK := Lib.hid (fun W => check_is x.ty.base x.ty.k x.ty.l x.ty.x 0 (by show errOf 90 x.ty.ok = 0; rw [htk]; rfl) W)
            have HO2 : Hid (oneE f x = if (decide (0 ≤ x.size) && (liveA x.act || (bt && bc))) = false then 116 else 0) := Lib.hid (by rw [HO1.out, HTE.out, htk]; rfl)
            clear htk
            go_wp2_with fail
            refine (HK.out _).mono ?_
            rintro e w5 ⟨rfl, hb5⟩
            have hbw5 := below_next hbw3 hb5
            have hX5 := hX3.below hb5 hX3.lt
            have hR5 := hR3.below hb5 hR3.lt
            clear c0 c1 c2 c3 c4 c5 c6 c7 c8 c9 c10 c11
            obtain ⟨c0, c1, c2, c3, c4, c5, c6, c7, c8, c9, c10, c11⟩ := box12 hX5
            by_cases hz : x.size < 0
            · have HO : Hid (oneE f x = 116) := Lib.hid (by rw [HO2.out, show decide (0 ≤ x.size) = false by simp; omega]; rfl)
              go_wp2_with fail
              go_ret
              exact ⟨ret_int HO.out.symm, hbw5⟩
            · have HO3 : Hid (oneE f x = if (liveA x.act || (bt && bc)) = false then 116 else 0) := Lib.hid (by rw [HO2.out, show decide (0 ≤ x.size) = true by simp; omega]; rfl)
              cases hlv : liveA x.act
              · rw [hlv] at HO3
                have HLI := Lib.hid (fun W => isLive_is x.act false hlv W)
                clear hlv
                obtain ⟨d0, d1, d2, d3, d4, d5, d6, d7, d8, d9, d10, d11⟩ := box12 hR5
                cases bt
                · go_wp2_with fail
                  refine (HLI.out _).mono ?_
                  rintro e w6 ⟨rfl, rfl⟩
                  go_wp2_with fail
                  go_ret
                  exact ⟨ret_int HO3.out.symm, hbw5⟩
                · cases bc
                  · go_wp2_with fail
                    refine (HLI.out _).mono ?_
                    rintro e w6 ⟨rfl, rfl⟩
                    go_wp2_with fail
                    go_ret
                    exact ⟨ret_int HO3.out.symm, hbw5⟩
                  · go_wp2_with fail
                    refine (HLI.out _).mono ?_
                    rintro e w6 ⟨rfl, rfl⟩
                    go_wp2_with fail
                    go_ret
                    exact ⟨ret_int HO3.out.symm, hbw5⟩
              · rw [hlv] at HO3
                have HLI := Lib.hid (fun W => isLive_is x.act true hlv W)
                clear hlv
                go_wp2_with fail
                refine (HLI.out _).mono ?_
                rintro e w6 ⟨rfl, rfl⟩
                go_wp2_with fail
                go_ret
                exact ⟨ret_int HO3.out.symm, hbw5⟩
        · have qf : (x.fnum != r2.num) = true := by rw [bne_dec]; simp [hfn]
          have HO : Hid (oneE f x = 115) := Lib.hid (by rw [HO1'.out]; simp [hfn])
          clear hfn HO1'
          go_wp2_with fail
          go_ret
          exact ⟨ret_int HO.out.symm, hbw3⟩
  · have qb : (x.base != r.num) = true := by rw [bne_dec]; simp [hbb]
    have HO : Hid (oneE f x = 114) := Lib.hid (by rw [HO0.out, if_pos hbb])
    clear hbb HO0
    go_wp2_with fail
    go_ret
    exact ⟨ret_int HO.out.symm, hbw1⟩

end Go.Proofs.Ytmhmnchdhacdbaa
/- everyEdit. -/
namespace Go.Proofs.Ytmhmnchdhacdbaa
open Go.RowKit
set_option linter.unusedVariables false
set_option linter.unusedSimpArgs false

theorem oneEdit_any (f : ByteArray → Option Rev) (x : Edt) (g : Nat) (dv dr ev rv : Value) (n : Int) (cl tx : ByteArray) (bl be bn : Nat) (w : World) (hk : Chk w g dv dr n cl tx ev rv bl be bn) (hL : LastMap w bl f) :
    Calls Try.prog 46 #[.pointer (some ⟨g, 0, none⟩), .agg #[.string x.path, .int .i64 x.act, .int .i64 x.ty.base, .bool x.ty.k, .bool x.ty.l, .bool x.ty.x, .int .u64 x.sum, .int .i64 x.size, .int .i64 x.base, .string x.frm, .int .i64 x.fnum, .int .i64 x.fence]] w
      fun e w' => e = .returned (.int .i64 (oneE f x)) ∧ Below w.heap.size w w' := by
  by_cases hA : actE f x = 0
  · by_cases h4 : x.act = 4
    · exact oneEdit_move f x g dv dr ev rv n cl tx bl be bn w hk hL hA h4
    · exact oneEdit_plain f x g dv dr ev rv n cl tx bl be bn w hk hL hA h4
  · have : oneE f x = 113 := by
      unfold oneE
      rw [if_pos hA]
      unfold actE at hA ⊢
      split at hA <;> (try split at hA) <;> simp_all
    rw [this]
    exact oneEdit_no f x g dv dr ev rv n cl tx bl be bn w hk hL hA

theorem grown_of_below {w w' : World} (h : Below w.heap.size w w') (row : Option Nat) : w.grownBy w' row := ⟨h.os, h.tape, h.output, h.size, fun k hk _ => h.block k hk⟩
theorem cell_map_none {w : World} {B : Nat} {es : Array MapEntry} {c : Nat} (h : w.heap[B]? = some (.map es c)) (a : Addr) (ha : a.block = B) : ¬ ∃ v, w.cell? a = some v := by
  rintro ⟨v, hv⟩
  subst ha
  unfold World.cell? at hv
  rw [h] at hv
  simp at hv
theorem FMap.obj {κ α : Type} [BEq κ] {kv : κ → Value} {enc : α → Value} {w : World} {B : Nat} {f : κ → Option α} (h : FMap kv enc w B f) : ∃ es c, w.heap[B]? = some (.map es c) := by
  obtain ⟨m, ⟨es, c, h, _⟩, _⟩ := h; exact ⟨es, c, h⟩
theorem Row.turn {w w' : World} {size n B : Nat} {v : Value} {xs : List Value} (h : Row w size v n xs) (hs : 0 < size) (hm : ∃ es c, w.heap[B]? = some (.map es c)) (hg : w.grownBy w' (some B)) : Row w' size v n xs := by
  obtain ⟨A, c, rfl, hc, hm', hl, h0, hx⟩ := h
  refine ⟨A, c, rfl, hc, hm', hl, h0, fun hn => ?_⟩
  obtain ⟨ad, e, hb, hcell⟩ := hx hn
  obtain ⟨es, c2, hB⟩ := hm
  have hne : some ad.block ≠ some B := by
    intro e2
    injection e2 with e2
    have hpos : 0 < xs.length := by rw [hl]; exact Nat.mul_pos hn hs
    exact cell_map_none hB (ad.add 0) (by rw [add_block]; exact e2) ⟨xs[0], hcell 0 _ (by simp [hpos])⟩
  refine ⟨ad, e, by have := hg.size; omega, fun j u hu => ?_⟩
  exact hg.cell (hcell j u hu) (by rw [add_block]; exact hne)
theorem Blk.turn {w w' : World} {g B : Nat} {e : TypeId} {cs : List Value} (h : Blk w g e cs) (hm : ∃ es c, w.heap[B]? = some (.map es c)) (hg : w.grownBy w' (some B)) : Blk w' g e cs := by
  refine Blk.grown h hg ?_
  intro e2
  injection e2 with e2
  subst e2
  obtain ⟨es, c, hB⟩ := hm
  unfold Blk at h
  rw [hB] at h
  cases h
theorem editsOf_snoc (es : List Edt) (x : Edt) : editsOf (es ++ [x]) = upd (editsOf es) x.path x := by unfold editsOf; rw [List.foldl_append]; rfl
theorem everyE_step {last : ByteArray → Option Rev} {b : ByteArray} {e : Edt} {es : List Edt} (h : editE last b e = 0) : everyE last b (e :: es) = everyE last e.path es := by
  rw [everyE, h]; simp
theorem everyE_stop {last : ByteArray → Option Rev} {b : ByteArray} {e : Edt} {es : List Edt} {v : Int} (h : editE last b e = v) (hv : v ≠ 0) : everyE last b (e :: es) = v := by
  rw [everyE, h, if_pos hv]
theorem valid_is (p : ByteArray) (b : Bool) (h : validS p = b) (w : World) (hp : p.size ≤ 140737488355328) : Calls Try.prog 45 #[.string p] w fun e w' => e = .returned (.bool b) ∧ w = w' := by
  rw [← h]; exact valid_any p w hp

/-- What everyEdit leaves. -/
def EvRel (w : World) (be : Nat) (es : List Edt) (r : Int) (w' : World) : Prop := w.grownBy w' (some be) ∧ (r = 0 → EditMap w' be (editsOf es))

set_option maxRecDepth 100000 in
set_option maxHeartbeats 8000000 in
theorem everyEdit_any (f : ByteArray → Option Rev) (es : List Edt) (g : Nat) (dv dr ev rv : Value) (n : Int) (cl tx : ByteArray) (bl be bn : Nat) (w : World) (hk : Chk w g dv dr n cl tx ev rv bl be bn) (hL : LastMap w bl f) (hne : bl ≠ be) (hE : Edts w ev es) (hM : EditMap w be fun _ => none)
    (hl : es.length ≤ 1000000) (hsz : ∀ x ∈ es, x.path.size ≤ 140737488355328) :
    Calls Try.prog 35 #[.pointer (some ⟨g, 0, none⟩)] w fun e w' => e = .returned (.int .i64 (everyE f emptyS es)) ∧ EvRel w be es (everyE f emptyS es) w' := by
  obtain ⟨Ae, ce, rfl, hce, hme, -⟩ := id hE
  obtain ⟨-, -, -, k5, -, -, -, -⟩ := box10 hk
  have hobj := FMap.obj hM
  have HE := Lib.hid hE
  have HK := Lib.hid hk
  have HL := Lib.hid hL
  have HS := Lib.hid hsz
  have HM := Lib.hid hM
  clear hE hk hL hsz hM
  unfold maxLen at hme
  go_enter Try.func35, Try.ntmps35
  go_wp2_with fail
  go_loopw [3, 13] (fun b i wr => ∃ (k : Nat) (b0 : ByteArray), k ≤ es.length ∧ i = .int .i64 k ∧ b = .string b0 ∧ b0.size ≤ 200 ∧ Hid (everyE f emptyS es = everyE f b0 (es.drop k)) ∧ w.grownBy wr (some be) ∧ EditMap wr be (editsOf (es.take k))) (fun _ i _ => es.length - (intOf i).toNat)
  case atStart => exact ⟨0, emptyS, Nat.zero_le _, rfl, rfl, by decide, Lib.hid rfl, World.grownBy.refl _ _, HM.out⟩
  case round =>
    obtain ⟨k, b0, hk, rfl, rfl, hb0, HV, hg, hM⟩ := hrel
    have hKr := Blk.turn HK.out hobj hg
    have hLr := FMap.grown HL.out hg (by intro e; injection e with e; exact hne e)
    have hEr := Row.turn HE.out (by decide) hobj hg
    by_cases hlt : k < es.length
    · obtain ⟨ad, rfl, hab, hld⟩ := Edts.at_ hEr hlt
      have hxs := HS.out es[k] (List.getElem_mem _)
      have HT := Lib.hid (show es.take (k + 1) = es.take k ++ [es[k]] from List.take_succ_eq_append_getElem hlt)
      rw [List.drop_eq_getElem_cons hlt] at HV
      generalize es[k] = x at hld hxs HT HV
      obtain ⟨x0, x1, x2, x3, x4, x5, x6, x7, x8, x9, x10, x11⟩ := hld
      have hbx := (Below.refl wr.heap.size wr).alloc (Nat.le_refl _) (.cells #[.string x.path, .int .i64 x.act, .int .i64 x.ty.base, .bool x.ty.k, .bool x.ty.l, .bool x.ty.x, .int .u64 x.sum, .int .i64 x.size, .int .i64 x.base, .string x.frm, .int .i64 x.fnum, .int .i64 x.fence] 45)
      have hgx := hg.trans (grown_of_below hbx _)
      cases hv : validS x.path
      · have HO : Hid (everyE f emptyS es = 111) := Lib.hid (by rw [HV.out]; refine everyE_stop ?_ (by decide); unfold editE; rw [if_pos (.inl hv)])
        have HVA := Lib.hid (fun W => valid_is x.path false hv W hxs)
        clear hv HV
        go_wp2_with fail
        refine (HVA.out _).mono ?_
        rintro e w1 ⟨rfl, rfl⟩
        go_wp2_with fail
        go_ret
        exact ⟨ret_int HO.out.symm, hgx, fun h => absurd (HO.out.symm.trans h) (by decide)⟩
      · have HVA := Lib.hid (fun W => valid_is x.path true hv W hxs)
        by_cases h200 : 200 < x.path.size
        · have HO : Hid (everyE f emptyS es = 111) := Lib.hid (by rw [HV.out]; refine everyE_stop ?_ (by decide); unfold editE; rw [if_pos (.inr h200)])
          clear hv HV
          go_wp2_with fail
          refine (HVA.out _).mono ?_
          rintro e w1 ⟨rfl, rfl⟩
          go_wp2_with fail
          go_ret
          exact ⟨ret_int HO.out.symm, hgx, fun h => absurd (HO.out.symm.trans h) (by decide)⟩
        · have HE1 : Hid (editE f b0 x = if b0 ≠ emptyS ∧ 0 ≤ cmpP b0 x.path then 112 else oneE f x) := Lib.hid (by unfold editE; rw [if_neg (by simp [hv]; omega)])
          clear hv
          have hX := blk_new wr [.string x.path, .int .i64 x.act, .int .i64 x.ty.base, .bool x.ty.k, .bool x.ty.l, .bool x.ty.x, .int .u64 x.sum, .int .i64 x.size, .int .i64 x.base, .string x.frm, .int .i64 x.fnum, .int .i64 x.fence] 45
          have hKx := Blk.alloc hKr (.cells #[.string x.path, .int .i64 x.act, .int .i64 x.ty.base, .bool x.ty.k, .bool x.ty.l, .bool x.ty.x, .int .u64 x.sum, .int .i64 x.size, .int .i64 x.base, .string x.frm, .int .i64 x.fnum, .int .i64 x.fence] 45)
          have hLx := FMap.alloc hLr (.cells #[.string x.path, .int .i64 x.act, .int .i64 x.ty.base, .bool x.ty.k, .bool x.ty.l, .bool x.ty.x, .int .u64 x.sum, .int .i64 x.size, .int .i64 x.base, .string x.frm, .int .i64 x.fnum, .int .i64 x.fence] 45)
          have hMx := FMap.alloc hM (.cells #[.string x.path, .int .i64 x.act, .int .i64 x.ty.base, .bool x.ty.k, .bool x.ty.l, .bool x.ty.x, .int .u64 x.sum, .int .i64 x.size, .int .i64 x.base, .string x.frm, .int .i64 x.fnum, .int .i64 x.fence] 45)
          by_cases hbe : b0 = emptyS
          · have s1 := str_empty hbe
            have HNB : Hid (¬ (b0 ≠ emptyS ∧ 0 ≤ cmpP b0 x.path)) := Lib.hid (fun h => h.1 hbe)
            clear hbe
            go_wp2_with fail
            refine (HVA.out _).mono ?_
            rintro e w1 ⟨rfl, rfl⟩
            have HE2 : Hid (editE f b0 x = oneE f x) := Lib.hid (by rw [HE1.out, if_neg HNB.out])
            clear HNB HE1
            obtain ⟨v, hv⟩ : ∃ v, oneE f x = v := ⟨_, rfl⟩
            have HON := Lib.hid (show Calls Try.prog 46 #[.pointer (some ⟨g, 0, none⟩), .agg #[.string x.path, .int .i64 x.act, .int .i64 x.ty.base, .bool x.ty.k, .bool x.ty.l, .bool x.ty.x, .int .u64 x.sum, .int .i64 x.size, .int .i64 x.base, .string x.frm, .int .i64 x.fnum, .int .i64 x.fence]] (wr.alloc (.cells #[.string x.path, .int .i64 x.act, .int .i64 x.ty.base, .bool x.ty.k, .bool x.ty.l, .bool x.ty.x, .int .u64 x.sum, .int .i64 x.size, .int .i64 x.base, .string x.frm, .int .i64 x.fnum, .int .i64 x.fence] 45)) fun e w' => e = .returned (.int .i64 v) ∧ Below (World.heap (wr.alloc (.cells #[.string x.path, .int .i64 x.act, .int .i64 x.ty.base, .bool x.ty.k, .bool x.ty.l, .bool x.ty.x, .int .u64 x.sum, .int .i64 x.size, .int .i64 x.base, .string x.frm, .int .i64 x.fnum, .int .i64 x.fence] 45))).size (wr.alloc (.cells #[.string x.path, .int .i64 x.act, .int .i64 x.ty.base, .bool x.ty.k, .bool x.ty.l, .bool x.ty.x, .int .u64 x.sum, .int .i64 x.size, .int .i64 x.base, .string x.frm, .int .i64 x.fnum, .int .i64 x.fence] 45)) w' by rw [← hv]; exact oneEdit_any f x g _ dr _ rv n cl tx bl be bn _ hKx hLx)
            rw [hv] at HE2
            clear hv
            go_wp2_with fail
            refine HON.out.mono ?_
            rintro e w2 ⟨rfl, hb2⟩
            have hX2 := Blk.below hX hb2 (Blk.lt hX)
            have hg2 := hgx.trans (grown_of_below hb2 _)
            have hK2 := Blk.below hKx hb2 (Blk.lt hKx)
            have hM2 := FMap.below hMx hb2
            by_cases h0 : v = 0
            · subst h0
              have HST := Lib.hid (HV.out.trans (everyE_step HE2.out))
              have q : ((0 : Int) != 0) = false := rfl
              obtain ⟨w3, hup, hM3, hg3, hs3⟩ := FMap.update (w := w2.drew) hM2 keyOk_str Try.underlying79 x.path x
              have hup' : (Instr.mapUpdate 79 (.map (some be)) (.string x.path) (.agg #[.string x.path, .int .i64 x.act, .int .i64 x.ty.base, .bool x.ty.k, .bool x.ty.l, .bool x.ty.x, .int .u64 x.sum, .int .i64 x.size, .int .i64 x.base, .string x.frm, .int .i64 x.fnum, .int .i64 x.fence])).run Try.prog w2.drew = .ok () w3 := hup
              have hX3 := Blk.grown (w := w2.drew) hX2 hg3 (by intro e; injection e with e; subst e; obtain ⟨_, _, ho⟩ := FMap.obj hM2; unfold Blk at hX2; rw [ho] at hX2; cases hX2)
              have hgw3 : w.grownBy w3 (some be) := (hg2.trans (grown_of_below (Below.refl _ _).drew _)).trans hg3
              obtain ⟨-, -, -, -, -, -, k8, -⟩ := box10 hK2
              obtain ⟨c0, c1, c2, c3, c4, c5, c6, c7, c8, c9, c10, c11⟩ := box12 hX2
              clear hup
              go_wp2_with fail
              go_still_tail 7, (by kernel_rfl)
              change wpList _ _ _ _ _ w2.drew
              clear c0 c1 c2 c3 c4 c5 c6 c7 c8 c9 c10 c11
              obtain ⟨c0, c1, c2, c3, c4, c5, c6, c7, c8, c9, c10, c11⟩ := box12 hX3
              go_wp2_with fail
              go_roundw
              case rel => exact ⟨k + 1, x.path, by omega, by go_num, rfl, by omega, Lib.hid HST.out, hgw3, by rw [HT.out, editsOf_snoc]; exact hM3⟩
              case measure => simp [intOf]; omega
            · have q : (v != 0) = true := by simpa using h0
              have HO : Hid (everyE f emptyS es = v) := Lib.hid (HV.out.trans (everyE_stop HE2.out h0))
              have HN := Lib.hid h0
              clear h0
              go_wp2_with fail
              go_ret
              exact ⟨ret_int HO.out.symm, hg2, fun h => absurd (HO.out.symm.trans h) HN.out⟩
          · have s1 := str_ne hbe
            have s2 := str_isE hbe
            have HBE := Lib.hid hbe
            clear hbe
            have HCP := Lib.hid (comparePaths_any b0 x.path (wr.alloc (.cells #[.string x.path, .int .i64 x.act, .int .i64 x.ty.base, .bool x.ty.k, .bool x.ty.l, .bool x.ty.x, .int .u64 x.sum, .int .i64 x.size, .int .i64 x.base, .string x.frm, .int .i64 x.fnum, .int .i64 x.fence] 45)) (by omega) hxs)
            go_wp2_with fail
            refine (HVA.out _).mono ?_
            rintro e w1 ⟨rfl, rfl⟩
            go_wp2_with fail
            refine HCP.out.mono ?_
            rintro e w1 ⟨rfl, hq1⟩
            have hb1 := hq1.below (World.heap (wr.alloc (.cells #[.string x.path, .int .i64 x.act, .int .i64 x.ty.base, .bool x.ty.k, .bool x.ty.l, .bool x.ty.x, .int .u64 x.sum, .int .i64 x.size, .int .i64 x.base, .string x.frm, .int .i64 x.fnum, .int .i64 x.fence] 45))).size
            clear hq1
            have hX1 := hX.below hb1 hX.lt
            have hK1 := Blk.below hKx hb1 (Blk.lt hKx)
            have hL1 := FMap.below hLx hb1
            have hM1 := FMap.below hMx hb1
            have hg1 := hgx.trans (grown_of_below hb1 _)
            obtain ⟨c0, c1, c2, c3, c4, c5, c6, c7, c8, c9, c10, c11⟩ := box12 hX1
            clear hb1
            by_cases hcp : 0 ≤ cmpP b0 x.path
            · have HO : Hid (everyE f emptyS es = 112) := Lib.hid (by rw [HV.out]; exact everyE_stop (HE1.out.trans (if_pos ⟨HBE.out, hcp⟩)) (by decide))
              go_wp2_with fail
              go_ret
              exact ⟨ret_int HO.out.symm, hg1, fun h => absurd (HO.out.symm.trans h) (by decide)⟩
            · have HNB : Hid (¬ (b0 ≠ emptyS ∧ 0 ≤ cmpP b0 x.path)) := Lib.hid (fun h => hcp h.2)
              have HE2 : Hid (editE f b0 x = oneE f x) := Lib.hid (by rw [HE1.out, if_neg HNB.out])
              clear HNB HE1
              obtain ⟨v, hv⟩ : ∃ v, oneE f x = v := ⟨_, rfl⟩
              have HON := Lib.hid (show Calls Try.prog 46 #[.pointer (some ⟨g, 0, none⟩), .agg #[.string x.path, .int .i64 x.act, .int .i64 x.ty.base, .bool x.ty.k, .bool x.ty.l, .bool x.ty.x, .int .u64 x.sum, .int .i64 x.size, .int .i64 x.base, .string x.frm, .int .i64 x.fnum, .int .i64 x.fence]] w1 fun e w' => e = .returned (.int .i64 v) ∧ Below (World.heap w1).size w1 w' by rw [← hv]; exact oneEdit_any f x g _ dr _ rv n cl tx bl be bn _ hK1 hL1)
              rw [hv] at HE2
              clear hv
              go_wp2_with fail
              refine HON.out.mono ?_
              rintro e w2 ⟨rfl, hb2⟩
              have hX2 := Blk.below hX1 hb2 (Blk.lt hX1)
              have hg2 := hg1.trans (grown_of_below hb2 _)
              have hK2 := Blk.below hK1 hb2 (Blk.lt hK1)
              have hM2 := FMap.below hM1 hb2
              by_cases h0 : v = 0
              · subst h0
                have HST := Lib.hid (HV.out.trans (everyE_step HE2.out))
                have q : ((0 : Int) != 0) = false := rfl
                obtain ⟨w3, hup, hM3, hg3, hs3⟩ := FMap.update (w := w2.drew) hM2 keyOk_str Try.underlying79 x.path x
                have hup' : (Instr.mapUpdate 79 (.map (some be)) (.string x.path) (.agg #[.string x.path, .int .i64 x.act, .int .i64 x.ty.base, .bool x.ty.k, .bool x.ty.l, .bool x.ty.x, .int .u64 x.sum, .int .i64 x.size, .int .i64 x.base, .string x.frm, .int .i64 x.fnum, .int .i64 x.fence])).run Try.prog w2.drew = .ok () w3 := hup
                have hX3 := Blk.grown (w := w2.drew) hX2 hg3 (by intro e; injection e with e; subst e; obtain ⟨_, _, ho⟩ := FMap.obj hM2; unfold Blk at hX2; rw [ho] at hX2; cases hX2)
                have hgw3 : w.grownBy w3 (some be) := (hg2.trans (grown_of_below (Below.refl _ _).drew _)).trans hg3
                obtain ⟨-, -, -, -, -, -, k8, -⟩ := box10 hK2
                obtain ⟨c0, c1, c2, c3, c4, c5, c6, c7, c8, c9, c10, c11⟩ := box12 hX2
                clear hup
                go_wp2_with fail
                go_still_tail 7, (by kernel_rfl)
                change wpList _ _ _ _ _ w2.drew
                clear c0 c1 c2 c3 c4 c5 c6 c7 c8 c9 c10 c11
                obtain ⟨c0, c1, c2, c3, c4, c5, c6, c7, c8, c9, c10, c11⟩ := box12 hX3
                go_wp2_with fail
                go_roundw
                case rel => exact ⟨k + 1, x.path, by omega, by go_num, rfl, by omega, Lib.hid HST.out, hgw3, by rw [HT.out, editsOf_snoc]; exact hM3⟩
                case measure => simp [intOf]; omega
              · have q : (v != 0) = true := by simpa using h0
                have HO : Hid (everyE f emptyS es = v) := Lib.hid (HV.out.trans (everyE_stop HE2.out h0))
                have HN := Lib.hid h0
                clear h0
                go_wp2_with fail
                go_ret
                exact ⟨ret_int HO.out.symm, hg2, fun h => absurd (HO.out.symm.trans h) HN.out⟩
    · go_wp2_with fail
      have H0 : Hid (everyE f emptyS es = 0) := Lib.hid (by rw [HV.out, List.drop_of_length_le (by omega)]; rfl)
      go_ret
      exact ⟨ret_int H0.out.symm, hg, fun _ => by rwa [List.take_of_length_le (by omega)] at hM⟩
end Go.Proofs.Ytmhmnchdhacdbaa
/- moves. -/
namespace Go.Proofs.Ytmhmnchdhacdbaa
open Go.RowKit
set_option linter.unusedVariables false
set_option linter.unusedSimpArgs false

def natV (n : Nat) : Value := .int .i64 n
/-- A map that counts. -/
def CntMap (w : World) (B : Nat) (cnt : ByteArray → Nat) : Prop := ∃ f, FMap Value.string natV w B f ∧ ∀ p, (f p).getD 0 = cnt p
theorem zero_int (w : World) : (zeroValue 3).run Try.prog w = .ok (natV 0) w := by kernel_rfl
section
variable {w w' : World} {B : Nat} {cnt : ByteArray → Nat}
theorem CntMap.new (w : World) : CntMap (w.alloc (.map #[] 0)) w.heap.size (fun _ => 0) := ⟨_, FMap.new _ _ w, fun _ => rfl⟩
theorem CntMap.alloc (h : CntMap w B cnt) (o : Obj) : CntMap (w.alloc o) B cnt := by obtain ⟨f, h, r⟩ := h; exact ⟨f, h.alloc o, r⟩
theorem CntMap.lt (h : CntMap w B cnt) : B < w.heap.size := by obtain ⟨f, h, r⟩ := h; exact h.lt
theorem CntMap.look (h : CntMap w B cnt) (p : ByteArray) : (Instr.lookup 93 (.map (some B)) (.string p) false).run Try.prog w = .ok (.int .i64 (cnt p)) w := by
  obtain ⟨f, h, r⟩ := h
  rw [FMap.lookup h keyOk_str Try.underlying93 (zero_int w) p false, ← r p]
  unfold lookV
  cases f p <;> rfl
theorem CntMap.inc (h : CntMap w B cnt) (p : ByteArray) : ∃ w', (Instr.mapUpdate 93 (.map (some B)) (.string p) (.int .i64 ((cnt p : Int) + 1))).run Try.prog w = .ok () w' ∧ CntMap w' B (fun q => if q = p then cnt p + 1 else cnt q) ∧ w.grownBy w' (some B) ∧ w'.heap.size = w.heap.size := by
  obtain ⟨f, h, r⟩ := h
  obtain ⟨w', h1, h2, h3, h4⟩ := FMap.update h keyOk_str Try.underlying93 p (cnt p + 1)
  refine ⟨w', h1, ⟨_, h2, fun q => ?_⟩, h3, h4⟩
  unfold upd
  by_cases e : q = p
  · simp [e]
  · simp [e, r q]
end
theorem arrivals_snoc (es : List Edt) (x : Edt) : arrivals (es ++ [x]) = if x.act = 4 then (fun q => if q = x.frm then arrivals es x.frm + 1 else arrivals es q) else arrivals es := by
  funext q
  unfold arrivals
  rw [List.countP_append]
  by_cases h : x.act = 4
  · by_cases e : q = x.frm
    · simp [h, e]
    · have : ¬ x.frm = q := fun h => e h.symm
      simp [h, e, this]
  · simp [h]
theorem arrivals_le (es : List Edt) (p : ByteArray) : arrivals es p ≤ es.length := List.countP_le_length

theorem movesE_no {es : List Edt} {x : Edt} (hx : x ∈ es) (h : moveOk es (editsOf es) x = false) : movesE es = 117 := by
  unfold movesE
  rw [if_neg]
  rw [List.all_eq_true]
  intro hh
  rw [hh x hx] at h; cases h

set_option maxRecDepth 100000 in
set_option maxHeartbeats 8000000 in
theorem moves_any (es : List Edt) (g : Nat) (dv dr ev rv : Value) (n : Int) (cl tx : ByteArray) (bl be bn : Nat) (w : World) (hk : Chk w g dv dr n cl tx ev rv bl be bn) (hE : Edts w ev es) (hM : EditMap w be (editsOf es)) (hl : es.length ≤ 1000000) :
    Calls Try.prog 36 #[.pointer (some ⟨g, 0, none⟩)] w fun e w' => e = .returned (.int .i64 (movesE es)) ∧ Below w.heap.size w w' := by
  obtain ⟨Ae, ce, rfl, hce, hme, -⟩ := id hE
  have hb0 : Below w.heap.size w (w.alloc (.map #[] 0)) := (Below.refl _ _).alloc (Nat.le_refl _) _
  have hc0 := CntMap.new w
  have hgl := Blk.lt hk
  have HE := Lib.hid hE
  have HK := Lib.hid hk
  have HM := Lib.hid hM
  obtain ⟨-, -, -, k5, -, -, -, -⟩ := box10 (Blk.below hk hb0 (Blk.lt hk))
  clear hE hk hM
  unfold maxLen at hme
  have hmm := @run_makeMap Try.prog
  go_enter Try.func36, Try.ntmps36
  go_wp2_with fail
  clear hmm k5
  go_loopw [15] (fun i wr => ∃ (k : Nat), k ≤ es.length ∧ i = .int .i64 k ∧ Below w.heap.size w wr ∧ CntMap wr w.heap.size (arrivals (es.take k))) (fun i _ => es.length - (intOf i).toNat)
  case atStart => exact ⟨0, Nat.zero_le _, rfl, hb0, hc0⟩
  case round =>
    obtain ⟨k, hk, rfl, hbr, hcr⟩ := hrel
    by_cases hlt : k < es.length
    · obtain ⟨ad, rfl, hab, hld⟩ := Edts.at_ (HE.out.below hbr) hlt
      have HT := Lib.hid (show es.take (k + 1) = es.take k ++ [es[k]] from List.take_succ_eq_append_getElem hlt)
      have hle := arrivals_le (es.take k) es[k].frm
      rw [List.length_take, Nat.min_eq_left hk] at hle
      generalize es[k] = x at hld HT hle
      obtain ⟨x0, x1, x2, x3, x4, x5, x6, x7, x8, x9, x10, x11⟩ := hld
      have hbx := hbr.alloc hbr.size (.cells #[.string x.path, .int .i64 x.act, .int .i64 x.ty.base, .bool x.ty.k, .bool x.ty.l, .bool x.ty.x, .int .u64 x.sum, .int .i64 x.size, .int .i64 x.base, .string x.frm, .int .i64 x.fnum, .int .i64 x.fence] 45)
      have hcx := hcr.alloc (.cells #[.string x.path, .int .i64 x.act, .int .i64 x.ty.base, .bool x.ty.k, .bool x.ty.l, .bool x.ty.x, .int .u64 x.sum, .int .i64 x.size, .int .i64 x.base, .string x.frm, .int .i64 x.fnum, .int .i64 x.fence] 45)
      by_cases h4 : x.act = 4
      · have q4 : (x.act == 4) = true := by rw [h4]; rfl
        have hlk := hcx.look x.frm
        obtain ⟨w3, hup, hc3, hg3, hs3⟩ := hcx.inc x.frm
        have HS := Lib.hid (arrivals_snoc (es.take k) x)
        rw [if_pos h4] at HS
        clear h4
        generalize arrivals (es.take k) x.frm = m at hlk hup hc3 hle HS
        have hbw3 : Below w.heap.size w w3 := hbx.grown hg3 hbx.size (fun j e => by injection e with e; omega)
        go_wp2_with fail
        go_roundw
        case rel => exact ⟨k + 1, by omega, by go_num, hbw3, by rw [HT.out, HS.out]; exact hc3⟩
        case measure => simp [intOf]; omega
      · have q4 : (x.act == 4) = false := by simpa using h4
        have HS := Lib.hid (arrivals_snoc (es.take k) x)
        rw [if_neg h4] at HS
        clear h4
        go_wp2_with fail
        go_roundw
        case rel => exact ⟨k + 1, by omega, by go_num, hbx, by rw [HT.out, HS.out]; exact hcx⟩
        case measure => simp [intOf]; omega
    · obtain rfl : k = es.length := by omega
      rw [List.take_length] at hcr
      obtain ⟨-, -, -, k5, -, -, -, -⟩ := box10 (Blk.below HK.out hbr (Blk.lt HK.out))
      go_wp2_with fail
      clear k5 hk hlt
      obtain ⟨W, rfl⟩ : ∃ W, wr = W := ⟨_, rfl⟩
      go_loopw [34] (fun i wr => ∃ (k : Nat), k ≤ es.length ∧ i = .int .i64 k ∧ Below w.heap.size w wr ∧ CntMap wr w.heap.size (arrivals es) ∧ Hid ((es.take k).all (moveOk es (editsOf es)) = true)) (fun i _ => es.length - (intOf i).toNat)
      case atStart => exact ⟨0, Nat.zero_le _, rfl, hbr, hcr, Lib.hid rfl⟩
      case round =>
        clear hbr hcr
        obtain ⟨k, hk, rfl, hbr, hcr, HA⟩ := hrel
        by_cases hlt : k < es.length
        · obtain ⟨ad, rfl, hab, hld⟩ := Edts.at_ (HE.out.below hbr) hlt
          have HT := Lib.hid (show es.take (k + 1) = es.take k ++ [es[k]] from List.take_succ_eq_append_getElem hlt)
          have HX := Lib.hid (show es[k] ∈ es from List.getElem_mem _)
          generalize es[k] = x at hld HT HX
          obtain ⟨x0, x1, x2, x3, x4, x5, x6, x7, x8, x9, x10, x11⟩ := hld
          have hbx := hbr.alloc hbr.size (.cells #[.string x.path, .int .i64 x.act, .int .i64 x.ty.base, .bool x.ty.k, .bool x.ty.l, .bool x.ty.x, .int .u64 x.sum, .int .i64 x.size, .int .i64 x.base, .string x.frm, .int .i64 x.fnum, .int .i64 x.fence] 45)
          have hcx := hcr.alloc (.cells #[.string x.path, .int .i64 x.act, .int .i64 x.ty.base, .bool x.ty.k, .bool x.ty.l, .bool x.ty.x, .int .u64 x.sum, .int .i64 x.size, .int .i64 x.base, .string x.frm, .int .i64 x.fnum, .int .i64 x.fence] 45)
          by_cases h5 : x.act = 5
          · have q5 : (x.act == 5) = true := by rw [h5]; rfl
            have hlk := hcx.look x.path
            have HO : Hid (moveOk es (editsOf es) x = decide (arrivals es x.path = 1)) := Lib.hid (by unfold moveOk; rw [if_pos h5])
            clear h5
            generalize arrivals es x.path = m at hlk HO
            by_cases hm : m = 1
            · subst hm
              go_wp2_with fail
              go_roundw
              case rel => exact ⟨k + 1, by omega, by go_num, hbx, hcx, Lib.hid (by rw [HT.out, List.all_append, HA.out]; simp [HO.out])⟩
              case measure => simp [intOf]; omega
            · have q : ((m : Int) != 1) = true := by rw [bne_iff_ne]; omega
              have HF := Lib.hid (movesE_no HX.out (by rw [HO.out]; simp [hm]))
              clear hm
              go_wp2_with fail
              go_ret
              exact ⟨ret_int HF.out.symm, hbx⟩
          · have q5 : (x.act == 5) = false := by simpa using h5
            by_cases h4 : x.act = 4
            · have q4 : (x.act == 4) = true := by rw [h4]; rfl
              have HO : Hid (moveOk es (editsOf es) x = decide ((editR (editsOf es) x.frm).act = 5)) := Lib.hid (by unfold moveOk; rw [if_neg h5, if_pos h4]; rfl)
              have hX := blk_new wr [.string x.path, .int .i64 x.act, .int .i64 x.ty.base, .bool x.ty.k, .bool x.ty.l, .bool x.ty.x, .int .u64 x.sum, .int .i64 x.size, .int .i64 x.base, .string x.frm, .int .i64 x.fnum, .int .i64 x.fence] 45
              have hKx := Blk.below HK.out hbx (Blk.lt HK.out)
              have hMx := FMap.below HM.out hbx
              clear h4 h5
              have hlk := fun (m : Nat) => EditMap.look (w := (wr.alloc (.cells #[.string x.path, .int .i64 x.act, .int .i64 x.ty.base, .bool x.ty.k, .bool x.ty.l, .bool x.ty.x, .int .u64 x.sum, .int .i64 x.size, .int .i64 x.base, .string x.frm, .int .i64 x.fnum, .int .i64 x.fence] 45)).drewN m) (B := be) (FMap.below HM.out (below_drewN hbx m)) x.frm
              generalize editR (editsOf es) x.frm = y at hlk HO
              have hfl : ∀ w, (Instr.field 45 (.agg #[.string y.path, .int .i64 y.act, .int .i64 y.ty.base, .bool y.ty.k, .bool y.ty.l, .bool y.ty.x, .int .u64 y.sum, .int .i64 y.size, .int .i64 y.base, .string y.frm, .int .i64 y.fnum, .int .i64 y.fence]) 1).run Try.prog w = .ok (.int .i64 y.act) w := fun w => by kernel_rfl
              obtain ⟨-, -, -, -, -, -, k8, -⟩ := box10 hKx
              obtain ⟨c0, c1, c2, c3, c4, c5, c6, c7, c8, c9, c10, c11⟩ := box12 hX
              by_cases hy : y.act = 5
              · have qy : (y.act != 5) = false := by rw [bne_dec]; simp [hy]
                rw [hy] at HO
                clear hy
                go_wp2_with fail
                go_quiet (fail)
                go_wp2_with fail
                go_roundw
                case rel => exact ⟨k + 1, by omega, by go_num, below_drewN hbx _, hcx, Lib.hid (by rw [HT.out, List.all_append, HA.out]; simp [HO.out])⟩
                case measure => simp [intOf]; omega
              · have qy : (y.act != 5) = true := by rw [bne_dec]; simp [hy]
                have HF := Lib.hid (movesE_no HX.out (by rw [HO.out]; simp [hy]))
                clear hy
                go_wp2_with fail
                go_quiet (fail)
                go_wp2_with fail
                go_ret
                exact ⟨ret_int HF.out.symm, below_drewN hbx _⟩
            · have q4 : (x.act == 4) = false := by simpa using h4
              have HO : Hid (moveOk es (editsOf es) x = true) := Lib.hid (by unfold moveOk; rw [if_neg h5, if_neg h4])
              clear h4 h5
              go_wp2_with fail
              go_roundw
              case rel => exact ⟨k + 1, by omega, by go_num, hbx, hcx, Lib.hid (by rw [HT.out, List.all_append, HA.out]; simp [HO.out])⟩
              case measure => simp [intOf]; omega
        · have HF : Hid (movesE es = 0) := Lib.hid (by unfold movesE; rw [if_pos]; have := HA.out; rwa [List.take_of_length_le (by omega)] at this)
          go_wp2_with fail
          go_ret
          exact ⟨ret_int HF.out.symm, hbr⟩
end Go.Proofs.Ytmhmnchdhacdbaa
