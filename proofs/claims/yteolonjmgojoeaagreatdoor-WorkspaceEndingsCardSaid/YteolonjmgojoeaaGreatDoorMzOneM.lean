/- oneEdit at a move. -/
import Derived.Test.YteolonjmgojoeaaGreatDoorMzOneY
namespace Go.Proofs.YteolonjmgojoeaaGreatDoor
open Go.RowKit
set_option linter.unusedVariables false
set_option linter.unusedSimpArgs false

set_option maxRecDepth 100000 in
set_option maxHeartbeats 8000000 in
theorem oneEdit_move (f : ByteArray → Option Rev) (x : Edt) (g : Nat) (dv dr ev rv : Value) (n : Int) (cl tx : ByteArray) (bl be bn : Nat) (w : World) (hk : Chk w g dv dr n cl tx ev rv bl be bn) (hL : LastMap w bl f) (hA : actE f x = 0) (h4 : x.act = 4) :
    Calls Tryz.prog 57 #[.pointer (some ⟨g, 0, none⟩), .agg #[.string x.path, .int .i64 x.act, .int .i64 x.ty.base, .bool x.ty.k, .bool x.ty.l, .bool x.ty.x, .int .u64 x.sum, .int .i64 x.size, .int .i64 x.base, .string x.frm, .int .i64 x.fnum, .int .i64 x.fence]] w
      fun e w' => e = .returned (.int .i64 (oneE f x)) ∧ Below w.heap.size w w' := by
  have hbW : Below w.heap.size w (w.alloc (.cells #[.string x.path, .int .i64 x.act, .int .i64 x.ty.base, .bool x.ty.k, .bool x.ty.l, .bool x.ty.x, .int .u64 x.sum, .int .i64 x.size, .int .i64 x.base, .string x.frm, .int .i64 x.fnum, .int .i64 x.fence] 54)) := (Below.refl _ _).alloc (Nat.le_refl _) _
  have HLV := Lib.hid (fun r b hr hb => live_is f x.path r b hr hb g dv dr ev rv n cl tx bl be bn (w.alloc (.cells #[.string x.path, .int .i64 x.act, .int .i64 x.ty.base, .bool x.ty.k, .bool x.ty.l, .bool x.ty.x, .int .u64 x.sum, .int .i64 x.size, .int .i64 x.base, .string x.frm, .int .i64 x.fnum, .int .i64 x.fence] 54)) (Blk.below hk hbW (Blk.lt hk)) (FMap.below hL hbW))
  have hX0 := blk_new w [.string x.path, .int .i64 x.act, .int .i64 x.ty.base, .bool x.ty.k, .bool x.ty.l, .bool x.ty.x, .int .u64 x.sum, .int .i64 x.size, .int .i64 x.base, .string x.frm, .int .i64 x.fnum, .int .i64 x.fence] 54
  have hk0 := Blk.below hk hbW (Blk.lt hk)
  have hL0 := FMap.below hL hbW
  have HO0 := Lib.hid (oneE_of hA)
  rw [fromE_4 h4] at HO0
  obtain ⟨bt, hbt⟩ : ∃ b, b = decide (x.ty = (lastR f x.path).ty) := ⟨_, rfl⟩
  obtain ⟨bc, hbc⟩ : ∃ b, b = (decide (x.sum = 0) && decide (x.size = 0)) := ⟨_, rfl⟩
  have HTE : Hid (typeE f x = (x.ty.ok && decide (0 ≤ x.size) && (liveA x.act || (bt && bc)))) := Lib.hid (by rw [typeE_eq, ← hbt, ← hbc])
  have hty := run_neq_ty x.ty (lastR f x.path).ty
  have hcn := run_neq_con x.sum x.size 0 0
  rw [← hbt] at hty
  rw [← hbc] at hcn
  clear hbt hbc
  have hb : isLast f x.path = false := by
    unfold actE at hA
    rw [if_pos (.inr h4)] at hA
    cases hh : isLast f x.path
    · rfl
    · rw [hh] at hA; simp at hA
  have q1 : (x.act == 1) = false := by rw [h4]; rfl
  have q4 : (x.act == 4) = true := by rw [h4]; rfl
  have HC := Lib.hid (HLV.out _ false rfl hb)
  clear hb HLV hA h4
  generalize lastR f x.path = r at HC HO0 hty
  go_enter Tryz.func57, Tryz.ntmps57
  go_wp2_with fail
  refine HC.out.mono ?_
  rintro e w1 ⟨rfl, hb1⟩
  have hX1 := (hX0.below hb1 hX0.lt).alloc (.cells #[.string r.path, .int .i64 r.num, .int .i64 r.chg, .int .i64 r.act, .int .i64 r.ty.base, .bool r.ty.k, .bool r.ty.l, .bool r.ty.x, .int .u64 r.sum, .int .i64 r.size, .string r.frm, .int .i64 r.fnum] 74)
  have hR := blk_new w1 [.string r.path, .int .i64 r.num, .int .i64 r.chg, .int .i64 r.act, .int .i64 r.ty.base, .bool r.ty.k, .bool r.ty.l, .bool r.ty.x, .int .u64 r.sum, .int .i64 r.size, .string r.frm, .int .i64 r.fnum] 74
  have hbw1 : Below w.heap.size w (w1.alloc (.cells #[.string r.path, .int .i64 r.num, .int .i64 r.chg, .int .i64 r.act, .int .i64 r.ty.base, .bool r.ty.k, .bool r.ty.l, .bool r.ty.x, .int .u64 r.sum, .int .i64 r.size, .string r.frm, .int .i64 r.fnum] 74)) := (below_next hbW hb1).alloc (below_next hbW hb1).size _
  have hK1 := Blk.alloc (Blk.below hk0 hb1 (Blk.lt hk0)) (.cells #[.string r.path, .int .i64 r.num, .int .i64 r.chg, .int .i64 r.act, .int .i64 r.ty.base, .bool r.ty.k, .bool r.ty.l, .bool r.ty.x, .int .u64 r.sum, .int .i64 r.size, .string r.frm, .int .i64 r.fnum] 74)
  have hL1 := FMap.alloc (FMap.below hL0 hb1) (.cells #[.string r.path, .int .i64 r.num, .int .i64 r.chg, .int .i64 r.act, .int .i64 r.ty.base, .bool r.ty.k, .bool r.ty.l, .bool r.ty.x, .int .u64 r.sum, .int .i64 r.size, .string r.frm, .int .i64 r.fnum] 74)
  have hs0 : w.heap.size < w1.heap.size := (hX0.below hb1 hX0.lt).lt
  obtain ⟨c0, c1, c2, c3, c4, c5, c6, c7, c8, c9, c10, c11⟩ := box12 (hX0.below hb1 hX0.lt)
  clear hb1
  by_cases hbb : x.base = r.num
  · have qb : (x.base != r.num) = false := by rw [bne_dec]; simp [hbb]
    rw [if_neg (by simp [hbb])] at HO0
    clear hbb
    obtain ⟨bl2, hbl2⟩ : ∃ b, isLast f x.frm = b := ⟨_, rfl⟩
    obtain ⟨r2, hr2⟩ : ∃ r, lastR f x.frm = r := ⟨_, rfl⟩
    have HC2 := Lib.hid (live_is f x.frm r2 bl2 hr2 hbl2 g dv dr ev rv n cl tx bl be bn _ hK1 hL1)
    rw [hbl2, hr2] at HO0
    clear hbl2 hr2
    go_wp2_with fail
    refine HC2.out.mono ?_
    rintro e w2 ⟨rfl, hb2⟩
    have hX2 := hX1.below hb2 hX1.lt
    have hR2 := hR.below hb2 hR.lt
    have hX3 := hX2.alloc (.cells #[.string r2.path, .int .i64 r2.num, .int .i64 r2.chg, .int .i64 r2.act, .int .i64 r2.ty.base, .bool r2.ty.k, .bool r2.ty.l, .bool r2.ty.x, .int .u64 r2.sum, .int .i64 r2.size, .string r2.frm, .int .i64 r2.fnum] 74)
    have hR3 := hR2.alloc (.cells #[.string r2.path, .int .i64 r2.num, .int .i64 r2.chg, .int .i64 r2.act, .int .i64 r2.ty.base, .bool r2.ty.k, .bool r2.ty.l, .bool r2.ty.x, .int .u64 r2.sum, .int .i64 r2.size, .string r2.frm, .int .i64 r2.fnum] 74)
    have hbw2 := below_next hbw1 hb2
    have hbw3 := hbw2.alloc hbw2.size (.cells #[.string r2.path, .int .i64 r2.num, .int .i64 r2.chg, .int .i64 r2.act, .int .i64 r2.ty.base, .bool r2.ty.k, .bool r2.ty.l, .bool r2.ty.x, .int .u64 r2.sum, .int .i64 r2.size, .string r2.frm, .int .i64 r2.fnum] 74)
    have hs2 := hX2.lt
    clear c0 c1 c2 c3 c4 c5 c6 c7 c8 c9 c10 c11
    obtain ⟨c0, c1, c2, c3, c4, c5, c6, c7, c8, c9, c10, c11⟩ := box12 hX2
    cases bl2
    · have HO : Hid (oneE f x = 115) := Lib.hid (by rw [HO0.out]; rfl)
      go_wp2_with fail
      go_ret
      exact ⟨ret_int HO.out.symm, hbw3⟩
    · have sq := str_eqB x.frm x.path
      by_cases hfp : x.frm = x.path
      · rw [show decide (x.frm = x.path) = true by simpa using hfp] at sq
        have HO : Hid (oneE f x = 115) := Lib.hid (by rw [HO0.out]; simp [hfp])
        clear hfp
        go_wp2_with fail
        go_ret
        exact ⟨ret_int HO.out.symm, hbw3⟩
      · rw [show decide (x.frm = x.path) = false by simpa using hfp] at sq
        have HO1' : Hid (oneE f x = if decide (x.fnum = r2.num) = false then 115 else if typeE f x = false then 116 else 0) := Lib.hid (by rw [HO0.out]; simp [hfp])
        clear hfp
        by_cases hfn : x.fnum = r2.num
        · have qf : (x.fnum != r2.num) = false := by rw [bne_dec]; simp [hfn]
          have HO1 : Hid (oneE f x = if typeE f x = false then 116 else 0) := Lib.hid (by rw [HO1'.out]; simp [hfn])
          clear hfn HO1' HO0
          cases htk : x.ty.ok
          · have HO : Hid (oneE f x = 116) := Lib.hid (by rw [HO1.out, HTE.out, htk]; rfl)
            go_wp2_with fail
            refine (check_is _ _ _ _ 90 (by show errOf 90 x.ty.ok = 90; rw [htk]; rfl) _).mono ?_
            rintro e w5 ⟨rfl, hb5⟩
            clear htk
            go_wp2_with fail
            go_ret
            exact ⟨ret_int HO.out.symm, below_next hbw3 hb5⟩
          · have HK := Lib.hid (fun W => check_is x.ty.base x.ty.k x.ty.l x.ty.x 0 (by show errOf 90 x.ty.ok = 0; rw [htk]; rfl) W)
            have HO2 : Hid (oneE f x = if (decide (0 ≤ x.size) && (liveA x.act || (bt && bc))) = false then 116 else 0) := Lib.hid (by rw [HO1.out, HTE.out, htk]; rfl)
            clear htk
            go_wp2_with fail
            refine (HK.out _).mono ?_
            rintro e w5 ⟨rfl, hb5⟩
            have hbw5 := below_next hbw3 hb5
            have hX5 := hX3.below hb5 hX3.lt
            have hR5 := hR3.below hb5 hR3.lt
            clear c0 c1 c2 c3 c4 c5 c6 c7 c8 c9 c10 c11
            obtain ⟨c0, c1, c2, c3, c4, c5, c6, c7, c8, c9, c10, c11⟩ := box12 hX5
            by_cases hz : x.size < 0
            · have HO : Hid (oneE f x = 116) := Lib.hid (by rw [HO2.out, show decide (0 ≤ x.size) = false by simp; omega]; rfl)
              go_wp2_with fail
              go_ret
              exact ⟨ret_int HO.out.symm, hbw5⟩
            · have HO3 : Hid (oneE f x = if (liveA x.act || (bt && bc)) = false then 116 else 0) := Lib.hid (by rw [HO2.out, show decide (0 ≤ x.size) = true by simp; omega]; rfl)
              cases hlv : liveA x.act
              · rw [hlv] at HO3
                have HLI := Lib.hid (fun W => isLive_is x.act false hlv W)
                clear hlv
                obtain ⟨d0, d1, d2, d3, d4, d5, d6, d7, d8, d9, d10, d11⟩ := box12 hR5
                cases bt
                · go_wp2_with fail
                  refine (HLI.out _).mono ?_
                  rintro e w6 ⟨rfl, rfl⟩
                  go_wp2_with fail
                  go_ret
                  exact ⟨ret_int HO3.out.symm, hbw5⟩
                · cases bc
                  · go_wp2_with fail
                    refine (HLI.out _).mono ?_
                    rintro e w6 ⟨rfl, rfl⟩
                    go_wp2_with fail
                    go_ret
                    exact ⟨ret_int HO3.out.symm, hbw5⟩
                  · go_wp2_with fail
                    refine (HLI.out _).mono ?_
                    rintro e w6 ⟨rfl, rfl⟩
                    go_wp2_with fail
                    go_ret
                    exact ⟨ret_int HO3.out.symm, hbw5⟩
              · rw [hlv] at HO3
                have HLI := Lib.hid (fun W => isLive_is x.act true hlv W)
                clear hlv
                go_wp2_with fail
                refine (HLI.out _).mono ?_
                rintro e w6 ⟨rfl, rfl⟩
                go_wp2_with fail
                go_ret
                exact ⟨ret_int HO3.out.symm, hbw5⟩
        · have qf : (x.fnum != r2.num) = true := by rw [bne_dec]; simp [hfn]
          have HO : Hid (oneE f x = 115) := Lib.hid (by rw [HO1'.out]; simp [hfn])
          clear hfn HO1'
          go_wp2_with fail
          go_ret
          exact ⟨ret_int HO.out.symm, hbw3⟩
  · have qb : (x.base != r.num) = true := by rw [bne_dec]; simp [hbb]
    have HO : Hid (oneE f x = 114) := Lib.hid (by rw [HO0.out, if_pos hbb])
    clear hbb HO0
    go_wp2_with fail
    go_ret
    exact ⟨ret_int HO.out.symm, hbw1⟩

end Go.Proofs.YteolonjmgojoeaaGreatDoor
