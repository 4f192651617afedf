/- oneEdit, where the action fits. -/
import Derived.Test.YtnblfaagchflaaaGreatDoorMzChk2
import Derived.Test.YtnblfaagchflaaaGreatDoorMgw5
import Derived.Laws.EntriesVeiled
namespace Go.Proofs.YtnblfaagchflaaaGreatDoor
open Go.RowKit
set_option linter.unusedVariables false
set_option linter.unusedSimpArgs false

/-- What is left to test behind action and base. -/
theorem oneE_of {f : ByteArray → Option Rev} {x : Edt} (hA : actE f x = 0) : oneE f x = if x.base ≠ (lastR f x.path).num then 114 else if fromE f x = false then 115 else if typeE f x = false then 116 else 0 := by
  unfold oneE; rw [hA]; simp
theorem typeE_eq (f : ByteArray → Option Rev) (x : Edt) : typeE f x = (x.ty.ok && decide (0 ≤ x.size) && (liveA x.act || (decide (x.ty = (lastR f x.path).ty) && (decide (x.sum = 0) && decide (x.size = 0))))) := by
  unfold typeE; rw [Bool.and_assoc (decide (x.ty = _))]
theorem fromE_4 {f : ByteArray → Option Rev} {x : Edt} (h : x.act = 4) : fromE f x = (isLast f x.frm && !decide (x.frm = x.path) && decide (x.fnum = (lastR f x.frm).num)) := by unfold fromE; rw [if_pos h]
theorem fromE_o {f : ByteArray → Option Rev} {x : Edt} (h : x.act ≠ 4) : fromE f x = (decide (x.frm = emptyS) && decide (x.fnum = 0)) := by unfold fromE; rw [if_neg h]
theorem beq_dec (a b : Int) : (a == b) = decide (a = b) := by rw [Bool.eq_iff_iff]; simp
theorem bne_dec (a b : Int) : (a != b) = !decide (a = b) := by rw [Bool.eq_iff_iff]; simp

set_option maxRecDepth 100000 in
set_option maxHeartbeats 8000000 in
theorem oneEdit_plain (f : ByteArray → Option Rev) (x : Edt) (g : Nat) (dv dr ev rv : Value) (n : Int) (cl tx : ByteArray) (bl be bn : Nat) (w : World) (hk : Chk w g dv dr n cl tx ev rv bl be bn) (hL : LastMap w bl f) (hA : actE f x = 0) (h4 : x.act ≠ 4) :
    Calls Tryz.prog 105 #[.pointer (some ⟨g, 0, none⟩), .agg #[.string x.path, .int .i64 x.act, .int .i64 x.ty.base, .bool x.ty.k, .bool x.ty.l, .bool x.ty.x, .int .u64 x.sum, .int .i64 x.size, .int .i64 x.base, .string x.frm, .int .i64 x.fnum, .int .i64 x.fence]] w
      fun e w' => e = .returned (.int .i64 (oneE f x)) ∧ Below w.heap.size w w' := by
  have hbW : Below w.heap.size w (w.alloc (.cells #[.string x.path, .int .i64 x.act, .int .i64 x.ty.base, .bool x.ty.k, .bool x.ty.l, .bool x.ty.x, .int .u64 x.sum, .int .i64 x.size, .int .i64 x.base, .string x.frm, .int .i64 x.fnum, .int .i64 x.fence] 55)) := (Below.refl _ _).alloc (Nat.le_refl _) _
  have HLV := Lib.hid (fun r b hr hb => live_is f x.path r b hr hb g dv dr ev rv n cl tx bl be bn (w.alloc (.cells #[.string x.path, .int .i64 x.act, .int .i64 x.ty.base, .bool x.ty.k, .bool x.ty.l, .bool x.ty.x, .int .u64 x.sum, .int .i64 x.size, .int .i64 x.base, .string x.frm, .int .i64 x.fnum, .int .i64 x.fence] 55)) (Blk.below hk hbW (Blk.lt hk)) (FMap.below hL hbW))
  have hX0 := blk_new w [.string x.path, .int .i64 x.act, .int .i64 x.ty.base, .bool x.ty.k, .bool x.ty.l, .bool x.ty.x, .int .u64 x.sum, .int .i64 x.size, .int .i64 x.base, .string x.frm, .int .i64 x.fnum, .int .i64 x.fence] 55
  have hk0 := Blk.below hk hbW (Blk.lt hk)
  have hL0 := FMap.below hL hbW
  have HO0 := Lib.hid (oneE_of hA)
  rw [fromE_o h4] at HO0
  obtain ⟨bt, hbt⟩ : ∃ b, b = decide (x.ty = (lastR f x.path).ty) := ⟨_, rfl⟩
  obtain ⟨bc, hbc⟩ : ∃ b, b = (decide (x.sum = 0) && decide (x.size = 0)) := ⟨_, rfl⟩
  have HTE : Hid (typeE f x = (x.ty.ok && decide (0 ≤ x.size) && (liveA x.act || (bt && bc)))) := Lib.hid (by rw [typeE_eq, ← hbt, ← hbc])
  have hty := run_neq_ty x.ty (lastR f x.path).ty
  have hcn := run_neq_con x.sum x.size 0 0
  rw [← hbt] at hty
  rw [← hbc] at hcn
  clear hbt hbc
  have main : ∀ b1 b2 b3 b5 b, Acts x.act b1 b2 b3 false b5 → isLast f x.path = b → ((b1 = true ∧ b = false) ∨ (b1 = false ∧ (b2 = true ∨ b2 = false ∧ b3 = true ∨ b2 = false ∧ b3 = false ∧ b5 = true) ∧ b = true)) →
      Calls Tryz.prog 105 #[.pointer (some ⟨g, 0, none⟩), .agg #[.string x.path, .int .i64 x.act, .int .i64 x.ty.base, .bool x.ty.k, .bool x.ty.l, .bool x.ty.x, .int .u64 x.sum, .int .i64 x.size, .int .i64 x.base, .string x.frm, .int .i64 x.fnum, .int .i64 x.fence]] w fun e w' => e = .returned (.int .i64 (oneE f x)) ∧ Below w.heap.size w w' := by
    intro b1 b2 b3 b5 b hq hb hcase
    obtain ⟨q1, q2, q3, q4, q5⟩ := hq
    have HC := Lib.hid (HLV.out _ b rfl hb)
    clear hb HLV hA h4
    generalize lastR f x.path = r at HC HO0 hty
    rcases hcase with ⟨rfl, rfl⟩ | ⟨rfl, rfl | ⟨rfl, rfl⟩ | ⟨rfl, rfl, rfl⟩, rfl⟩
    all_goals
      go_enter Tryz.func105, Tryz.ntmps105
      go_wp2_with fail
      refine HC.out.mono ?_
      rintro e w1 ⟨rfl, hb1⟩
      have hX1 := (hX0.below hb1 hX0.lt).alloc (.cells #[.string r.path, .int .i64 r.num, .int .i64 r.chg, .int .i64 r.act, .int .i64 r.ty.base, .bool r.ty.k, .bool r.ty.l, .bool r.ty.x, .int .u64 r.sum, .int .i64 r.size, .string r.frm, .int .i64 r.fnum] 40)
      have hR := blk_new w1 [.string r.path, .int .i64 r.num, .int .i64 r.chg, .int .i64 r.act, .int .i64 r.ty.base, .bool r.ty.k, .bool r.ty.l, .bool r.ty.x, .int .u64 r.sum, .int .i64 r.size, .string r.frm, .int .i64 r.fnum] 40
      have hbw1 : Below w.heap.size w (w1.alloc (.cells #[.string r.path, .int .i64 r.num, .int .i64 r.chg, .int .i64 r.act, .int .i64 r.ty.base, .bool r.ty.k, .bool r.ty.l, .bool r.ty.x, .int .u64 r.sum, .int .i64 r.size, .string r.frm, .int .i64 r.fnum] 40)) := (below_next hbW hb1).alloc (below_next hbW hb1).size _
      have hK1 := Blk.alloc (Blk.below hk0 hb1 (Blk.lt hk0)) (.cells #[.string r.path, .int .i64 r.num, .int .i64 r.chg, .int .i64 r.act, .int .i64 r.ty.base, .bool r.ty.k, .bool r.ty.l, .bool r.ty.x, .int .u64 r.sum, .int .i64 r.size, .string r.frm, .int .i64 r.fnum] 40)
      have hL1 := FMap.alloc (FMap.below hL0 hb1) (.cells #[.string r.path, .int .i64 r.num, .int .i64 r.chg, .int .i64 r.act, .int .i64 r.ty.base, .bool r.ty.k, .bool r.ty.l, .bool r.ty.x, .int .u64 r.sum, .int .i64 r.size, .string r.frm, .int .i64 r.fnum] 40)
      have hs0 : w.heap.size < w1.heap.size := (hX0.below hb1 hX0.lt).lt
      obtain ⟨c0, c1, c2, c3, c4, c5, c6, c7, c8, c9, c10, c11⟩ := box12 (hX0.below hb1 hX0.lt)
      clear hb1
      by_cases hbb : x.base = r.num
      · have qb : (x.base != r.num) = false := by rw [bne_dec]; simp [hbb]
        rw [if_neg (by simp [hbb])] at HO0
        clear hbb
        by_cases hfr : x.frm = emptyS
        · have s1 := str_empty hfr
          by_cases hfn : x.fnum = 0
          · have qf : (x.fnum != 0) = false := by rw [bne_dec]; simp [hfn]
            have HO1 : Hid (oneE f x = if typeE f x = false then 116 else 0) := Lib.hid (by rw [HO0.out, hfr, hfn]; simp)
            clear hfr hfn HO0
            cases htk : x.ty.ok
            · have HO : Hid (oneE f x = 116) := Lib.hid (by rw [HO1.out, HTE.out, htk]; rfl)
              go_wp2_with fail
              refine (check_is _ _ _ _ 90 (by show errOf 90 x.ty.ok = 90; rw [htk]; rfl) _).mono ?_
              rintro e w5 ⟨rfl, hb5⟩
              clear htk
              go_wp2_with fail
              go_ret
              exact ⟨ret_int HO.out.symm, below_next hbw1 hb5⟩
            · have HK := Lib.hid (fun W => check_is x.ty.base x.ty.k x.ty.l x.ty.x 0 (by show errOf 90 x.ty.ok = 0; rw [htk]; rfl) W)
              have HO2 : Hid (oneE f x = if (decide (0 ≤ x.size) && (liveA x.act || (bt && bc))) = false then 116 else 0) := Lib.hid (by rw [HO1.out, HTE.out, htk]; rfl)
              clear htk
              go_wp2_with fail
              refine (HK.out _).mono ?_
              rintro e w5 ⟨rfl, hb5⟩
              have hbw5 := below_next hbw1 hb5
              have hX5 := hX1.below hb5 hX1.lt
              have hR5 := hR.below hb5 hR.lt
              clear c0 c1 c2 c3 c4 c5 c6 c7 c8 c9 c10 c11
              obtain ⟨c0, c1, c2, c3, c4, c5, c6, c7, c8, c9, c10, c11⟩ := box12 hX5
              by_cases hz : x.size < 0
              · have HO : Hid (oneE f x = 116) := Lib.hid (by rw [HO2.out, show decide (0 ≤ x.size) = false by simp; omega]; rfl)
                go_wp2_with fail
                go_ret
                exact ⟨ret_int HO.out.symm, hbw5⟩
              · have HO3 : Hid (oneE f x = if (liveA x.act || (bt && bc)) = false then 116 else 0) := Lib.hid (by rw [HO2.out, show decide (0 ≤ x.size) = true by simp; omega]; rfl)
                cases hlv : liveA x.act
                · rw [hlv] at HO3
                  have HLI := Lib.hid (fun W => isLive_is x.act false hlv W)
                  clear hlv
                  obtain ⟨d0, d1, d2, d3, d4, d5, d6, d7, d8, d9, d10, d11⟩ := box12 hR5
                  cases bt
                  · go_wp2_with fail
                    refine (HLI.out _).mono ?_
                    rintro e w6 ⟨rfl, rfl⟩
                    go_wp2_with fail
                    go_ret
                    exact ⟨ret_int HO3.out.symm, hbw5⟩
                  · cases bc
                    · go_wp2_with fail
                      refine (HLI.out _).mono ?_
                      rintro e w6 ⟨rfl, rfl⟩
                      go_wp2_with fail
                      go_ret
                      exact ⟨ret_int HO3.out.symm, hbw5⟩
                    · go_wp2_with fail
                      refine (HLI.out _).mono ?_
                      rintro e w6 ⟨rfl, rfl⟩
                      go_wp2_with fail
                      go_ret
                      exact ⟨ret_int HO3.out.symm, hbw5⟩
                · rw [hlv] at HO3
                  have HLI := Lib.hid (fun W => isLive_is x.act true hlv W)
                  clear hlv
                  go_wp2_with fail
                  refine (HLI.out _).mono ?_
                  rintro e w6 ⟨rfl, rfl⟩
                  go_wp2_with fail
                  go_ret
                  exact ⟨ret_int HO3.out.symm, hbw5⟩
          · have qf : (x.fnum != 0) = true := by rw [bne_dec]; simp [hfn]
            have HO : Hid (oneE f x = 115) := Lib.hid (by rw [HO0.out]; simp [hfn])
            clear hfr hfn HO0
            go_wp2_with fail
            go_ret
            exact ⟨ret_int HO.out.symm, hbw1⟩
        · have s1 := str_ne hfr
          have s2 := str_isE hfr
          have HO : Hid (oneE f x = 115) := Lib.hid (by rw [HO0.out]; simp [hfr])
          clear hfr HO0
          go_wp2_with fail
          go_ret
          exact ⟨ret_int HO.out.symm, hbw1⟩
      · have qb : (x.base != r.num) = true := by rw [bne_dec]; simp [hbb]
        have HO : Hid (oneE f x = 114) := Lib.hid (by rw [HO0.out, if_pos hbb])
        clear hbb HO0
        go_wp2_with fail
        go_ret
        exact ⟨ret_int HO.out.symm, hbw1⟩
  have h4' : decide (x.act = 4) = false := by simpa using h4
  have ha := acts_of x.act
  rw [h4'] at ha
  refine main _ _ _ _ _ ha rfl ?_
  unfold actE at hA
  by_cases h1 : x.act = 1
  · rw [if_pos (.inl h1)] at hA
    left
    refine ⟨by simp [h1], ?_⟩
    cases hh : isLast f x.path
    · rfl
    · rw [hh] at hA; simp at hA
  · rw [if_neg (by omega)] at hA
    by_cases h2 : x.act = 2 ∨ x.act = 3 ∨ x.act = 5
    · rw [if_pos h2] at hA
      right
      refine ⟨by simp; omega, by rcases h2 with h | h | h <;> simp [h], ?_⟩
      cases hh : isLast f x.path
      · rw [hh] at hA; simp at hA
      · rfl
    · rw [if_neg h2] at hA; omega
end Go.Proofs.YtnblfaagchflaaaGreatDoor
/- moves. -/
namespace Go.Proofs.YtnblfaagchflaaaGreatDoor
open Go.RowKit
set_option linter.unusedVariables false
set_option linter.unusedSimpArgs false

def natV (n : Nat) : Value := .int .i64 n
/-- A map that counts. -/
def CntMap (w : World) (B : Nat) (cnt : ByteArray → Nat) : Prop := ∃ f, FMap Value.string natV w B f ∧ ∀ p, (f p).getD 0 = cnt p
theorem zero_int (w : World) : (zeroValue 3).run Tryz.prog w = .ok (natV 0) w := by kernel_rfl
section
variable {w w' : World} {B : Nat} {cnt : ByteArray → Nat}
theorem CntMap.new (w : World) : CntMap (w.alloc (.map #[] 0)) w.heap.size (fun _ => 0) := ⟨_, FMap.new _ _ w, fun _ => rfl⟩
theorem CntMap.alloc (h : CntMap w B cnt) (o : Obj) : CntMap (w.alloc o) B cnt := by obtain ⟨f, h, r⟩ := h; exact ⟨f, h.alloc o, r⟩
theorem CntMap.lt (h : CntMap w B cnt) : B < w.heap.size := by obtain ⟨f, h, r⟩ := h; exact h.lt
theorem CntMap.look (h : CntMap w B cnt) (p : ByteArray) : (Instr.lookup 147 (.map (some B)) (.string p) false).run Tryz.prog w = .ok (.int .i64 (cnt p)) w := by
  obtain ⟨f, h, r⟩ := h
  rw [FMap.lookup h keyOk_str Tryz.underlying147 (zero_int w) p false, ← r p]
  unfold lookV
  cases f p <;> rfl
theorem CntMap.inc (h : CntMap w B cnt) (p : ByteArray) : ∃ w', (Instr.mapUpdate 147 (.map (some B)) (.string p) (.int .i64 ((cnt p : Int) + 1))).run Tryz.prog w = .ok () w' ∧ CntMap w' B (fun q => if q = p then cnt p + 1 else cnt q) ∧ w.grownBy w' (some B) ∧ w'.heap.size = w.heap.size := by
  obtain ⟨f, h, r⟩ := h
  obtain ⟨w', h1, h2, h3, h4⟩ := FMap.update h keyOk_str Tryz.underlying147 p (cnt p + 1)
  refine ⟨w', h1, ⟨_, h2, fun q => ?_⟩, h3, h4⟩
  unfold upd
  by_cases e : q = p
  · simp [e]
  · simp [e, r q]
end
theorem arrivals_snoc (es : List Edt) (x : Edt) : arrivals (es ++ [x]) = if x.act = 4 then (fun q => if q = x.frm then arrivals es x.frm + 1 else arrivals es q) else arrivals es := by
  funext q
  unfold arrivals
  rw [List.countP_append]
  by_cases h : x.act = 4
  · by_cases e : q = x.frm
    · simp [h, e]
    · have : ¬ x.frm = q := fun h => e h.symm
      simp [h, e, this]
  · simp [h]
theorem arrivals_le (es : List Edt) (p : ByteArray) : arrivals es p ≤ es.length := List.countP_le_length

theorem movesE_no {es : List Edt} {x : Edt} (hx : x ∈ es) (h : moveOk es (editsOf es) x = false) : movesE es = 117 := by
  unfold movesE
  rw [if_neg]
  rw [List.all_eq_true]
  intro hh
  rw [hh x hx] at h; cases h

set_option maxRecDepth 100000 in
set_option maxHeartbeats 8000000 in
theorem moves_any (es : List Edt) (g : Nat) (dv dr ev rv : Value) (n : Int) (cl tx : ByteArray) (bl be bn : Nat) (w : World) (hk : Chk w g dv dr n cl tx ev rv bl be bn) (hE : Edts w ev es) (hM : EditMap w be (editsOf es)) (hl : es.length ≤ 1000000) :
    Calls Tryz.prog 72 #[.pointer (some ⟨g, 0, none⟩)] w fun e w' => e = .returned (.int .i64 (movesE es)) ∧ Below w.heap.size w w' := by
  obtain ⟨Ae, ce, rfl, hce, hme, -⟩ := id hE
  have hb0 : Below w.heap.size w (w.alloc (.map #[] 0)) := (Below.refl _ _).alloc (Nat.le_refl _) _
  have hc0 := CntMap.new w
  have hgl := Blk.lt hk
  have HE := Lib.hid hE
  have HK := Lib.hid hk
  have HM := Lib.hid hM
  obtain ⟨-, -, -, k5, -, -, -, -⟩ := box10 (Blk.below hk hb0 (Blk.lt hk))
  clear hE hk hM
  unfold maxLen at hme
  have hmm := @run_makeMap Tryz.prog
  go_enter Tryz.func72, Tryz.ntmps72
  go_wp2_with fail
  clear hmm k5
  go_loopw [15] (fun i wr => ∃ (k : Nat), k ≤ es.length ∧ i = .int .i64 k ∧ Below w.heap.size w wr ∧ CntMap wr w.heap.size (arrivals (es.take k))) (fun i _ => es.length - (intOf i).toNat)
  case atStart => exact ⟨0, Nat.zero_le _, rfl, hb0, hc0⟩
  case round =>
    obtain ⟨k, hk, rfl, hbr, hcr⟩ := hrel
    by_cases hlt : k < es.length
    · obtain ⟨ad, rfl, hab, hld⟩ := Edts.at_ (HE.out.below hbr) hlt
      have HT := Lib.hid (show es.take (k + 1) = es.take k ++ [es[k]] from List.take_succ_eq_append_getElem hlt)
      have hle := arrivals_le (es.take k) es[k].frm
      rw [List.length_take, Nat.min_eq_left hk] at hle
      generalize es[k] = x at hld HT hle
      obtain ⟨x0, x1, x2, x3, x4, x5, x6, x7, x8, x9, x10, x11⟩ := hld
      have hbx := hbr.alloc hbr.size (.cells #[.string x.path, .int .i64 x.act, .int .i64 x.ty.base, .bool x.ty.k, .bool x.ty.l, .bool x.ty.x, .int .u64 x.sum, .int .i64 x.size, .int .i64 x.base, .string x.frm, .int .i64 x.fnum, .int .i64 x.fence] 55)
      have hcx := hcr.alloc (.cells #[.string x.path, .int .i64 x.act, .int .i64 x.ty.base, .bool x.ty.k, .bool x.ty.l, .bool x.ty.x, .int .u64 x.sum, .int .i64 x.size, .int .i64 x.base, .string x.frm, .int .i64 x.fnum, .int .i64 x.fence] 55)
      by_cases h4 : x.act = 4
      · have q4 : (x.act == 4) = true := by rw [h4]; rfl
        have hlk := hcx.look x.frm
        obtain ⟨w3, hup, hc3, hg3, hs3⟩ := hcx.inc x.frm
        have HS := Lib.hid (arrivals_snoc (es.take k) x)
        rw [if_pos h4] at HS
        clear h4
        generalize arrivals (es.take k) x.frm = m at hlk hup hc3 hle HS
        have hbw3 : Below w.heap.size w w3 := hbx.grown hg3 hbx.size (fun j e => by injection e with e; omega)
        go_wp2_with fail
        go_roundw
        case rel => exact ⟨k + 1, by omega, by go_num, hbw3, by rw [HT.out, HS.out]; exact hc3⟩
        case measure => simp [intOf]; omega
      · have q4 : (x.act == 4) = false := by simpa using h4
        have HS := Lib.hid (arrivals_snoc (es.take k) x)
        rw [if_neg h4] at HS
        clear h4
        go_wp2_with fail
        go_roundw
        case rel => exact ⟨k + 1, by omega, by go_num, hbx, by rw [HT.out, HS.out]; exact hcx⟩
        case measure => simp [intOf]; omega
    · obtain rfl : k = es.length := by omega
      rw [List.take_length] at hcr
      obtain ⟨-, -, -, k5, -, -, -, -⟩ := box10 (Blk.below HK.out hbr (Blk.lt HK.out))
      go_wp2_with fail
      clear k5 hk hlt
      obtain ⟨W, rfl⟩ : ∃ W, wr = W := ⟨_, rfl⟩
      go_loopw [34] (fun i wr => ∃ (k : Nat), k ≤ es.length ∧ i = .int .i64 k ∧ Below w.heap.size w wr ∧ CntMap wr w.heap.size (arrivals es) ∧ Hid ((es.take k).all (moveOk es (editsOf es)) = true)) (fun i _ => es.length - (intOf i).toNat)
      case atStart => exact ⟨0, Nat.zero_le _, rfl, hbr, hcr, Lib.hid rfl⟩
      case round =>
        clear hbr hcr
        obtain ⟨k, hk, rfl, hbr, hcr, HA⟩ := hrel
        by_cases hlt : k < es.length
        · obtain ⟨ad, rfl, hab, hld⟩ := Edts.at_ (HE.out.below hbr) hlt
          have HT := Lib.hid (show es.take (k + 1) = es.take k ++ [es[k]] from List.take_succ_eq_append_getElem hlt)
          have HX := Lib.hid (show es[k] ∈ es from List.getElem_mem _)
          generalize es[k] = x at hld HT HX
          obtain ⟨x0, x1, x2, x3, x4, x5, x6, x7, x8, x9, x10, x11⟩ := hld
          have hbx := hbr.alloc hbr.size (.cells #[.string x.path, .int .i64 x.act, .int .i64 x.ty.base, .bool x.ty.k, .bool x.ty.l, .bool x.ty.x, .int .u64 x.sum, .int .i64 x.size, .int .i64 x.base, .string x.frm, .int .i64 x.fnum, .int .i64 x.fence] 55)
          have hcx := hcr.alloc (.cells #[.string x.path, .int .i64 x.act, .int .i64 x.ty.base, .bool x.ty.k, .bool x.ty.l, .bool x.ty.x, .int .u64 x.sum, .int .i64 x.size, .int .i64 x.base, .string x.frm, .int .i64 x.fnum, .int .i64 x.fence] 55)
          by_cases h5 : x.act = 5
          · have q5 : (x.act == 5) = true := by rw [h5]; rfl
            have hlk := hcx.look x.path
            have HO : Hid (moveOk es (editsOf es) x = decide (arrivals es x.path = 1)) := Lib.hid (by unfold moveOk; rw [if_pos h5])
            clear h5
            generalize arrivals es x.path = m at hlk HO
            by_cases hm : m = 1
            · subst hm
              go_wp2_with fail
              go_roundw
              case rel => exact ⟨k + 1, by omega, by go_num, hbx, hcx, Lib.hid (by rw [HT.out, List.all_append, HA.out]; simp [HO.out])⟩
              case measure => simp [intOf]; omega
            · have q : ((m : Int) != 1) = true := by rw [bne_iff_ne]; omega
              have HF := Lib.hid (movesE_no HX.out (by rw [HO.out]; simp [hm]))
              clear hm
              go_wp2_with fail
              go_ret
              exact ⟨ret_int HF.out.symm, hbx⟩
          · have q5 : (x.act == 5) = false := by simpa using h5
            by_cases h4 : x.act = 4
            · have q4 : (x.act == 4) = true := by rw [h4]; rfl
              have HO : Hid (moveOk es (editsOf es) x = decide ((editR (editsOf es) x.frm).act = 5)) := Lib.hid (by unfold moveOk; rw [if_neg h5, if_pos h4]; rfl)
              have hX := blk_new wr [.string x.path, .int .i64 x.act, .int .i64 x.ty.base, .bool x.ty.k, .bool x.ty.l, .bool x.ty.x, .int .u64 x.sum, .int .i64 x.size, .int .i64 x.base, .string x.frm, .int .i64 x.fnum, .int .i64 x.fence] 55
              have hKx := Blk.below HK.out hbx (Blk.lt HK.out)
              have hMx := FMap.below HM.out hbx
              clear h4 h5
              have hlk := fun (m : Nat) => EditMap.look (w := (wr.alloc (.cells #[.string x.path, .int .i64 x.act, .int .i64 x.ty.base, .bool x.ty.k, .bool x.ty.l, .bool x.ty.x, .int .u64 x.sum, .int .i64 x.size, .int .i64 x.base, .string x.frm, .int .i64 x.fnum, .int .i64 x.fence] 55)).drewN m) (B := be) (FMap.below HM.out (below_drewN hbx m)) x.frm
              generalize editR (editsOf es) x.frm = y at hlk HO
              have hfl : ∀ w, (Instr.field 55 (.agg #[.string y.path, .int .i64 y.act, .int .i64 y.ty.base, .bool y.ty.k, .bool y.ty.l, .bool y.ty.x, .int .u64 y.sum, .int .i64 y.size, .int .i64 y.base, .string y.frm, .int .i64 y.fnum, .int .i64 y.fence]) 1).run Tryz.prog w = .ok (.int .i64 y.act) w := fun w => by kernel_rfl
              obtain ⟨-, -, -, -, -, -, k8, -⟩ := box10 hKx
              obtain ⟨c0, c1, c2, c3, c4, c5, c6, c7, c8, c9, c10, c11⟩ := box12 hX
              by_cases hy : y.act = 5
              · have qy : (y.act != 5) = false := by rw [bne_dec]; simp [hy]
                rw [hy] at HO
                clear hy
                go_wp2_with fail
                go_quiet (fail)
                go_wp2_with fail
                go_roundw
                case rel => exact ⟨k + 1, by omega, by go_num, below_drewN hbx _, hcx, Lib.hid (by rw [HT.out, List.all_append, HA.out]; simp [HO.out])⟩
                case measure => simp [intOf]; omega
              · have qy : (y.act != 5) = true := by rw [bne_dec]; simp [hy]
                have HF := Lib.hid (movesE_no HX.out (by rw [HO.out]; simp [hy]))
                clear hy
                go_wp2_with fail
                go_quiet (fail)
                go_wp2_with fail
                go_ret
                exact ⟨ret_int HF.out.symm, below_drewN hbx _⟩
            · have q4 : (x.act == 4) = false := by simpa using h4
              have HO : Hid (moveOk es (editsOf es) x = true) := Lib.hid (by unfold moveOk; rw [if_neg h5, if_neg h4])
              clear h4 h5
              go_wp2_with fail
              go_roundw
              case rel => exact ⟨k + 1, by omega, by go_num, hbx, hcx, Lib.hid (by rw [HT.out, List.all_append, HA.out]; simp [HO.out])⟩
              case measure => simp [intOf]; omega
        · have HF : Hid (movesE es = 0) := Lib.hid (by unfold movesE; rw [if_pos]; have := HA.out; rwa [List.take_of_length_le (by omega)] at this)
          go_wp2_with fail
          go_ret
          exact ⟨ret_int HF.out.symm, hbr⟩
end Go.Proofs.YtnblfaagchflaaaGreatDoor
/- greatest, Get, At, Last. -/
namespace Go.Proofs.YtnblfaagchflaaaGreatDoor
open Go.RowKit
set_option linter.unusedVariables false
set_option linter.unusedSimpArgs false

def gStep (q : ByteArray) (p : Rev → Bool) (o : Option Rev) (r : Rev) : Option Rev :=
  if r.path = q ∧ p r = true then (match o with
    | none => some r
    | some b => if b.num < r.num then some r else some b) else o
theorem greatest_eq (revs : List Rev) (q : ByteArray) (p : Rev → Bool) : greatest revs q p = revs.foldl (gStep q p) none := rfl
def someR (o : Option Rev) : Rev := o.getD zeroRev

theorem far12 {w : World} {g g' : Nat} {e : TypeId} {cs : List Value} (h : Blk w g' e cs) (hg : g ≠ g') (r : Rev) : Blk ((((((((((((w.setCell ⟨g, 0, none⟩ (.string r.path)).setCell ⟨g, 1, none⟩ (.int .i64 r.num)).setCell ⟨g, 2, none⟩ (.int .i64 r.chg)).setCell ⟨g, 3, none⟩ (.int .i64 r.act)).setCell ⟨g, 4, none⟩ (.int .i64 r.ty.base)).setCell ⟨g, 5, none⟩ (.bool r.ty.k)).setCell ⟨g, 6, none⟩ (.bool r.ty.l)).setCell ⟨g, 7, none⟩ (.bool r.ty.x)).setCell ⟨g, 8, none⟩ (.int .u64 r.sum)).setCell ⟨g, 9, none⟩ (.int .i64 r.size)).setCell ⟨g, 10, none⟩ (.string r.frm)).setCell ⟨g, 11, none⟩ (.int .i64 r.fnum)) g' e cs :=
  ((((((((((((h.far (p := ⟨g, 0, none⟩) hg _).far (p := ⟨g, 1, none⟩) hg _).far (p := ⟨g, 2, none⟩) hg _).far (p := ⟨g, 3, none⟩) hg _).far (p := ⟨g, 4, none⟩) hg _).far (p := ⟨g, 5, none⟩) hg _).far (p := ⟨g, 6, none⟩) hg _).far (p := ⟨g, 7, none⟩) hg _).far (p := ⟨g, 8, none⟩) hg _).far (p := ⟨g, 9, none⟩) hg _).far (p := ⟨g, 10, none⟩) hg _).far (p := ⟨g, 11, none⟩) hg _)

set_option maxRecDepth 100000 in
set_option maxHeartbeats 1000000 in
theorem get_fn (m : Int) (B : Nat) (r : Rev) (w : World) (hB : w.cell? ⟨B, 0, none⟩ = some (.int .i64 m)) : Calls Tryz.prog 142 #[.agg #[.string r.path, .int .i64 r.num, .int .i64 r.chg, .int .i64 r.act, .int .i64 r.ty.base, .bool r.ty.k, .bool r.ty.l, .bool r.ty.x, .int .u64 r.sum, .int .i64 r.size, .string r.frm, .int .i64 r.fnum], .pointer (some ⟨B, 0, none⟩)] w fun e w' => e = .returned (.bool ((fun v : Rev => decide (v.num = m)) r)) ∧ Below w.heap.size w w' := by
  have hBl := cell_lt hB
  go_enter Tryz.func142, Tryz.ntmps142
  go_wp2_with fail
  go_ret
  exact ⟨ret_bool (beq_dec _ _), (Below.refl _ _).alloc (Nat.le_refl _) _⟩

set_option maxRecDepth 100000 in
set_option maxHeartbeats 8000000 in
theorem greatest_get (revs : List Rev) (q : ByteArray) (m : Int) (B : Nat) (dv dr : Value) (w : World) (hR : Revs w dv revs) (hB : w.cell? ⟨B, 0, none⟩ = some (.int .i64 m)) (hl : revs.length ≤ 1000000) :
    Calls Tryz.prog 26 #[.agg #[dv, dr], .string q, .func (.func 142) #[] #[.pointer (some ⟨B, 0, none⟩)]] w
      fun e w' => e = .returned (.tuple #[.agg #[.string (someR (greatest revs q (fun v : Rev => decide (v.num = m)))).path, .int .i64 (someR (greatest revs q (fun v : Rev => decide (v.num = m)))).num, .int .i64 (someR (greatest revs q (fun v : Rev => decide (v.num = m)))).chg, .int .i64 (someR (greatest revs q (fun v : Rev => decide (v.num = m)))).act, .int .i64 (someR (greatest revs q (fun v : Rev => decide (v.num = m)))).ty.base, .bool (someR (greatest revs q (fun v : Rev => decide (v.num = m)))).ty.k, .bool (someR (greatest revs q (fun v : Rev => decide (v.num = m)))).ty.l, .bool (someR (greatest revs q (fun v : Rev => decide (v.num = m)))).ty.x, .int .u64 (someR (greatest revs q (fun v : Rev => decide (v.num = m)))).sum, .int .i64 (someR (greatest revs q (fun v : Rev => decide (v.num = m)))).size, .string (someR (greatest revs q (fun v : Rev => decide (v.num = m)))).frm, .int .i64 (someR (greatest revs q (fun v : Rev => decide (v.num = m)))).fnum], .bool (greatest revs q (fun v : Rev => decide (v.num = m))).isSome]) ∧ Below w.heap.size w w' := by
  obtain ⟨Ar, cr, rfl, hcr, hmr, -⟩ := id hR
  have HR := Lib.hid hR
  clear hR
  unfold maxLen at hmr
  rw [greatest_eq]
  have HF := Lib.hid (fun (r : Rev) (W : World) (hb : Below w.heap.size w W) => get_fn m B r W (cell_below hB hb (cell_lt hB)))
  have hb0 : Below w.heap.size w (((w.alloc (.cells #[.slice Ar revs.length cr, dr] 31)).alloc (.cells #[.string ⟨#[]⟩, .int .i64 0, .int .i64 0, .int .i64 0, .int .i64 0, .bool false, .bool false, .bool false, .int .u64 0, .int .i64 0, .string ⟨#[]⟩, .int .i64 0] 40)).alloc (.cells #[.string ⟨#[]⟩, .int .i64 0, .int .i64 0, .int .i64 0, .int .i64 0, .bool false, .bool false, .bool false, .int .u64 0, .int .i64 0, .string ⟨#[]⟩, .int .i64 0] 40)) := (((Below.refl _ _).alloc (Nat.le_refl _) _).alloc (by simp) _).alloc (by simp; omega) _
  generalize (fun v : Rev => decide (v.num = m)) = p at HF ⊢
  go_enter Tryz.func26, Tryz.ntmps26
  go_wp2_with fail
  go_loopw [9, 15] (fun o i wr => ∃ (k : Nat), k ≤ revs.length ∧ i = .int .i64 k ∧ Below w.heap.size w wr ∧ o = .bool ((revs.take k).foldl (gStep q p) none).isSome ∧ Blk wr (w.heap.size + 1) 40 [.string ⟨#[]⟩, .int .i64 0, .int .i64 0, .int .i64 0, .int .i64 0, .bool false, .bool false, .bool false, .int .u64 0, .int .i64 0, .string ⟨#[]⟩, .int .i64 0] ∧ Blk wr (w.heap.size + 1 + 1) 40 [.string (someR ((revs.take k).foldl (gStep q p) none)).path, .int .i64 (someR ((revs.take k).foldl (gStep q p) none)).num, .int .i64 (someR ((revs.take k).foldl (gStep q p) none)).chg, .int .i64 (someR ((revs.take k).foldl (gStep q p) none)).act, .int .i64 (someR ((revs.take k).foldl (gStep q p) none)).ty.base, .bool (someR ((revs.take k).foldl (gStep q p) none)).ty.k, .bool (someR ((revs.take k).foldl (gStep q p) none)).ty.l, .bool (someR ((revs.take k).foldl (gStep q p) none)).ty.x, .int .u64 (someR ((revs.take k).foldl (gStep q p) none)).sum, .int .i64 (someR ((revs.take k).foldl (gStep q p) none)).size, .string (someR ((revs.take k).foldl (gStep q p) none)).frm, .int .i64 (someR ((revs.take k).foldl (gStep q p) none)).fnum]) (fun _ i _ => revs.length - (intOf i).toNat)
  case atStart =>
    refine ⟨0, Nat.zero_le _, rfl, hb0, rfl, ?_, ?_⟩
    · have := blk_new (w.alloc (.cells #[.slice Ar revs.length cr, dr] 31)) [.string ⟨#[]⟩, .int .i64 0, .int .i64 0, .int .i64 0, .int .i64 0, .bool false, .bool false, .bool false, .int .u64 0, .int .i64 0, .string ⟨#[]⟩, .int .i64 0] 40
      have := this.alloc (.cells #[.string ⟨#[]⟩, .int .i64 0, .int .i64 0, .int .i64 0, .int .i64 0, .bool false, .bool false, .bool false, .int .u64 0, .int .i64 0, .string ⟨#[]⟩, .int .i64 0] 40)
      simpa using this
    · have := blk_new ((w.alloc (.cells #[.slice Ar revs.length cr, dr] 31)).alloc (.cells #[.string ⟨#[]⟩, .int .i64 0, .int .i64 0, .int .i64 0, .int .i64 0, .bool false, .bool false, .bool false, .int .u64 0, .int .i64 0, .string ⟨#[]⟩, .int .i64 0] 40)) [.string ⟨#[]⟩, .int .i64 0, .int .i64 0, .int .i64 0, .int .i64 0, .bool false, .bool false, .bool false, .int .u64 0, .int .i64 0, .string ⟨#[]⟩, .int .i64 0] 40
      simp only [World.size_alloc] at this
      exact this
  case round =>
    obtain ⟨k, hk, rfl, hbr, rfl, hZ, hF⟩ := hrel
    by_cases hlt : k < revs.length
    · obtain ⟨ad, rfl, hab, hld⟩ := Revs.at_ (HR.out.below hbr) hlt
      have HT := Lib.hid (show revs.take (k + 1) = revs.take k ++ [revs[k]] from List.take_succ_eq_append_getElem hlt)
      have HG : Hid ((revs.take (k + 1)).foldl (gStep q p) none = gStep q p ((revs.take k).foldl (gStep q p) none) revs[k]) := Lib.hid (by rw [HT.out, List.foldl_append]; rfl)
      generalize revs[k] = r at hld HT HG
      generalize (revs.take k).foldl (gStep q p) none = o at hF HG
      obtain ⟨x0, x1, x2, x3, x4, x5, x6, x7, x8, x9, x10, x11⟩ := hld
      have hbx := hbr.alloc hbr.size (.cells #[.string r.path, .int .i64 r.num, .int .i64 r.chg, .int .i64 r.act, .int .i64 r.ty.base, .bool r.ty.k, .bool r.ty.l, .bool r.ty.x, .int .u64 r.sum, .int .i64 r.size, .string r.frm, .int .i64 r.fnum] 40)
      have hZx := hZ.alloc (.cells #[.string r.path, .int .i64 r.num, .int .i64 r.chg, .int .i64 r.act, .int .i64 r.ty.base, .bool r.ty.k, .bool r.ty.l, .bool r.ty.x, .int .u64 r.sum, .int .i64 r.size, .string r.frm, .int .i64 r.fnum] 40)
      have hFx := hF.alloc (.cells #[.string r.path, .int .i64 r.num, .int .i64 r.chg, .int .i64 r.act, .int .i64 r.ty.base, .bool r.ty.k, .bool r.ty.l, .bool r.ty.x, .int .u64 r.sum, .int .i64 r.size, .string r.frm, .int .i64 r.fnum] 40)
      have hX := blk_new wr [.string r.path, .int .i64 r.num, .int .i64 r.chg, .int .i64 r.act, .int .i64 r.ty.base, .bool r.ty.k, .bool r.ty.l, .bool r.ty.x, .int .u64 r.sum, .int .i64 r.size, .string r.frm, .int .i64 r.fnum] 40
      by_cases hp : r.path = q
      · have HC := Lib.hid (HF.out r (wr.alloc (.cells #[.string r.path, .int .i64 r.num, .int .i64 r.chg, .int .i64 r.act, .int .i64 r.ty.base, .bool r.ty.k, .bool r.ty.l, .bool r.ty.x, .int .u64 r.sum, .int .i64 r.size, .string r.frm, .int .i64 r.fnum] 40)) hbx)
        cases hpr : p r
        · rw [hpr] at HC
          have HS : Hid (gStep q p o r = o) := Lib.hid (by unfold gStep; rw [hpr]; simp)
          clear hpr
          subst hp
          go_wp2_with fail
          refine HC.out.mono ?_
          rintro e w2 ⟨rfl, hb2⟩
          go_wp2_with fail
          go_roundw
          case rel => exact ⟨k + 1, by omega, by go_num, below_next hbx hb2, by rw [HG.out, HS.out], hZx.below hb2 hZx.lt, by rw [HG.out, HS.out]; exact hFx.below hb2 hFx.lt⟩
          case measure => simp [intOf]; omega
        · rw [hpr] at HC
          have hnew : ∀ b : Bool, o.isSome = false ∨ (someR o).num < r.num → gStep q p o r = some r := by
            intro b h
            unfold gStep
            rw [if_pos ⟨hp, hpr⟩]
            cases o with
            | none => rfl
            | some x => rcases h with h | h
                        · cases h
                        · exact if_pos h
          have hold : o.isSome = true → ¬ (someR o).num < r.num → gStep q p o r = o := by
            intro h1 h2
            unfold gStep
            rw [if_pos ⟨hp, hpr⟩]
            cases o with
            | none => cases h1
            | some x => exact if_neg h2
          clear hpr
          subst hp
          by_cases hn : o.isSome = false ∨ (someR o).num < r.num
          · have HS := Lib.hid (hnew true hn)
            clear hnew hold
            cases hos : o.isSome
            · clear hn
              go_wp2_with fail
              refine HC.out.mono ?_
              rintro e w2 ⟨rfl, hb2⟩
              have hX2 := hX.below hb2 hX.lt
              have hF2 := hFx.below hb2 hFx.lt
              have hZ2 := hZx.below hb2 hZx.lt
              have hbw2 := below_next hbx hb2
              obtain ⟨c0, c1, c2, c3, c4, c5, c6, c7, c8, c9, c10, c11⟩ := box12 hX2
              obtain ⟨f0, f1, f2, f3, f4, f5, f6, f7, f8, f9, f10, f11⟩ := box12 hF2
              obtain ⟨y0, y1, y2, y3, y4, y5, y6, y7, y8, y9, y10, y11⟩ := frz12 hF2
              clear hb2
              have hF3 := set12 hF2 r
              have hB3 := below12 hbw2 (show w.heap.size ≤ w.heap.size + 1 + 1 by omega) r
              have hZ3 := far12 hZ2 (show w.heap.size + 1 + 1 ≠ w.heap.size + 1 by omega) r
              go_wp2_with fail
              go_roundw
              case rel => exact ⟨k + 1, by omega, by go_num, hB3, by rw [HG.out, HS.out]; rfl, hZ3, by rw [HG.out, HS.out]; exact hF3⟩
              case measure => simp [intOf]; omega
            · have hn2 : (someR o).num < r.num := by rcases hn with h | h; (rw [hos] at h; cases h); exact h
              clear hn
              go_wp2_with fail
              refine HC.out.mono ?_
              rintro e w2 ⟨rfl, hb2⟩
              have hX2 := hX.below hb2 hX.lt
              have hF2 := hFx.below hb2 hFx.lt
              have hZ2 := hZx.below hb2 hZx.lt
              have hbw2 := below_next hbx hb2
              obtain ⟨c0, c1, c2, c3, c4, c5, c6, c7, c8, c9, c10, c11⟩ := box12 hX2
              obtain ⟨f0, f1, f2, f3, f4, f5, f6, f7, f8, f9, f10, f11⟩ := box12 hF2
              obtain ⟨y0, y1, y2, y3, y4, y5, y6, y7, y8, y9, y10, y11⟩ := frz12 hF2
              clear hb2
              have hF3 := set12 hF2 r
              have hB3 := below12 hbw2 (show w.heap.size ≤ w.heap.size + 1 + 1 by omega) r
              have hZ3 := far12 hZ2 (show w.heap.size + 1 + 1 ≠ w.heap.size + 1 by omega) r
              go_wp2_with fail
              go_roundw
              case rel => exact ⟨k + 1, by omega, by go_num, hB3, by rw [HG.out, HS.out]; rfl, hZ3, by rw [HG.out, HS.out]; exact hF3⟩
              case measure => simp [intOf]; omega
          · rw [not_or] at hn
            have hos : o.isSome = true := by
              cases h : o.isSome
              · exact absurd h hn.1
              · rfl
            have hn2 : ¬ (someR o).num < r.num := hn.2
            have HS := Lib.hid (hold hos hn2)
            clear hnew hold hn
            go_wp2_with fail
            refine HC.out.mono ?_
            rintro e w2 ⟨rfl, hb2⟩
            have hX2 := hX.below hb2 hX.lt
            have hF2 := hFx.below hb2 hFx.lt
            have hZ2 := hZx.below hb2 hZx.lt
            have hbw2 := below_next hbx hb2
            obtain ⟨c0, c1, c2, c3, c4, c5, c6, c7, c8, c9, c10, c11⟩ := box12 hX2
            obtain ⟨f0, f1, f2, f3, f4, f5, f6, f7, f8, f9, f10, f11⟩ := box12 hF2
            clear hb2
            go_wp2_with fail
            go_roundw
            case rel => exact ⟨k + 1, by omega, by go_num, hbw2, by rw [HG.out, HS.out, hos], hZ2, by rw [HG.out, HS.out]; exact hF2⟩
            case measure => simp [intOf]; omega
      · have HS : Hid (gStep q p o r = o) := Lib.hid (by unfold gStep; rw [if_neg (fun h => hp h.1)])
        have sq := str_eqB r.path q
        rw [show decide (r.path = q) = false by simpa using hp] at sq
        clear hp
        go_wp2_with fail
        go_roundw
        case rel => exact ⟨k + 1, by omega, by go_num, hbx, by rw [HG.out, HS.out], hZx, by rw [HG.out, HS.out]; exact hFx⟩
        case measure => simp [intOf]; omega
    · rw [List.take_of_length_le (by omega)] at hF ⊢
      obtain ⟨o, ho⟩ : ∃ o, revs.foldl (gStep q p) none = o := ⟨_, rfl⟩
      rw [ho] at hF ⊢
      obtain ⟨r, hr⟩ : ∃ r, someR o = r := ⟨_, rfl⟩
      rw [hr] at hF
      have HO := Lib.hid ho
      have HR2 := Lib.hid hr
      clear ho hr
      obtain ⟨f0, f1, f2, f3, f4, f5, f6, f7, f8, f9, f10, f11⟩ := box12 hF
      obtain ⟨z0, z1, z2, z3, z4, z5, z6, z7, z8, z9, z10, z11⟩ := box12 hZ
      obtain ⟨y0, y1, y2, y3, y4, y5, y6, y7, y8, y9, y10, y11⟩ := frz12 hZ
      go_wp2_with fail
      have hZ3 := set12 hZ r
      have hB3 := below12 hbr (show w.heap.size ≤ w.heap.size + 1 by omega) r
      generalize ((((((((((((wr.setCell ⟨w.heap.size + 1, 0, none⟩ (.string r.path)).setCell ⟨w.heap.size + 1, 1, none⟩ (.int .i64 r.num)).setCell ⟨w.heap.size + 1, 2, none⟩ (.int .i64 r.chg)).setCell ⟨w.heap.size + 1, 3, none⟩ (.int .i64 r.act)).setCell ⟨w.heap.size + 1, 4, none⟩ (.int .i64 r.ty.base)).setCell ⟨w.heap.size + 1, 5, none⟩ (.bool r.ty.k)).setCell ⟨w.heap.size + 1, 6, none⟩ (.bool r.ty.l)).setCell ⟨w.heap.size + 1, 7, none⟩ (.bool r.ty.x)).setCell ⟨w.heap.size + 1, 8, none⟩ (.int .u64 r.sum)).setCell ⟨w.heap.size + 1, 9, none⟩ (.int .i64 r.size)).setCell ⟨w.heap.size + 1, 10, none⟩ (.string r.frm)).setCell ⟨w.heap.size + 1, 11, none⟩ (.int .i64 r.fnum)) = W3 at hZ3 hB3 ⊢
      obtain ⟨e0, e1, e2, e3, e4, e5, e6, e7, e8, e9, e10, e11⟩ := box12 hZ3
      exact bodyPost_ret (v := .tuple #[.agg #[.string r.path, .int .i64 r.num, .int .i64 r.chg, .int .i64 r.act, .int .i64 r.ty.base, .bool r.ty.k, .bool r.ty.l, .bool r.ty.x, .int .u64 r.sum, .int .i64 r.size, .string r.frm, .int .i64 r.fnum], .bool o.isSome]) (by simp [results, Tryz.results26, go_sem, e0, e1, e2, e3, e4, e5, e6, e7, e8, e9, e10, e11]) rfl ⟨by rw [HO.out, HR2.out], hB3⟩
end Go.Proofs.YtnblfaagchflaaaGreatDoor
/- Get. -/
namespace Go.Proofs.YtnblfaagchflaaaGreatDoor
open Go.RowKit
set_option linter.unusedVariables false
set_option linter.unusedSimpArgs false

set_option maxRecDepth 100000 in
set_option maxHeartbeats 4000000 in
theorem get_any (revs : List Rev) (q : ByteArray) (m : Int) (dv dr : Value) (w : World) (hR : Revs w dv revs) (hl : revs.length ≤ 1000000) :
    Calls Tryz.prog 137 #[.agg #[dv, dr], .string q, .int .i64 m] w
      fun e w' => e = .returned (.tuple #[.agg #[.string (someR (greatest revs q (fun v : Rev => decide (v.num = m)))).path, .int .i64 (someR (greatest revs q (fun v : Rev => decide (v.num = m)))).num, .int .i64 (someR (greatest revs q (fun v : Rev => decide (v.num = m)))).chg, .int .i64 (someR (greatest revs q (fun v : Rev => decide (v.num = m)))).act, .int .i64 (someR (greatest revs q (fun v : Rev => decide (v.num = m)))).ty.base, .bool (someR (greatest revs q (fun v : Rev => decide (v.num = m)))).ty.k, .bool (someR (greatest revs q (fun v : Rev => decide (v.num = m)))).ty.l, .bool (someR (greatest revs q (fun v : Rev => decide (v.num = m)))).ty.x, .int .u64 (someR (greatest revs q (fun v : Rev => decide (v.num = m)))).sum, .int .i64 (someR (greatest revs q (fun v : Rev => decide (v.num = m)))).size, .string (someR (greatest revs q (fun v : Rev => decide (v.num = m)))).frm, .int .i64 (someR (greatest revs q (fun v : Rev => decide (v.num = m)))).fnum], .bool (greatest revs q (fun v : Rev => decide (v.num = m))).isSome]) ∧ Below w.heap.size w w' := by
  have HR := Lib.hid hR
  obtain ⟨Ar, cr, rfl, -⟩ := hR
  obtain ⟨dv, hdv⟩ : ∃ v, Value.slice Ar revs.length cr = v := ⟨_, rfl⟩
  have hb0 : Below w.heap.size w (((w.alloc (.cells #[(.slice Ar revs.length cr), dr] 31)).alloc (.cells #[.int .i64 m] 3)).alloc (.cells #[.string ⟨#[]⟩, .int .i64 0, .int .i64 0, .int .i64 0, .int .i64 0, .bool false, .bool false, .bool false, .int .u64 0, .int .i64 0, .string ⟨#[]⟩, .int .i64 0] 40)) := ((((Below.refl _ _).alloc (Nat.le_refl _) _).alloc (by simp) _).alloc (by simp; omega) _)
  have hZ : Blk (((w.alloc (.cells #[(.slice Ar revs.length cr), dr] 31)).alloc (.cells #[.int .i64 m] 3)).alloc (.cells #[.string ⟨#[]⟩, .int .i64 0, .int .i64 0, .int .i64 0, .int .i64 0, .bool false, .bool false, .bool false, .int .u64 0, .int .i64 0, .string ⟨#[]⟩, .int .i64 0] 40)) (w.heap.size + 1 + 1) 40 [.string ⟨#[]⟩, .int .i64 0, .int .i64 0, .int .i64 0, .int .i64 0, .bool false, .bool false, .bool false, .int .u64 0, .int .i64 0, .string ⟨#[]⟩, .int .i64 0] := by
    have h1 := blk_new ((w.alloc (.cells #[(.slice Ar revs.length cr), dr] 31)).alloc (.cells #[.int .i64 m] 3)) [.string ⟨#[]⟩, .int .i64 0, .int .i64 0, .int .i64 0, .int .i64 0, .bool false, .bool false, .bool false, .int .u64 0, .int .i64 0, .string ⟨#[]⟩, .int .i64 0] 40
    simp only [World.size_alloc] at h1
    exact h1
  have hcell : (((w.alloc (.cells #[(.slice Ar revs.length cr), dr] 31)).alloc (.cells #[.int .i64 m] 3)).alloc (.cells #[.string ⟨#[]⟩, .int .i64 0, .int .i64 0, .int .i64 0, .int .i64 0, .bool false, .bool false, .bool false, .int .u64 0, .int .i64 0, .string ⟨#[]⟩, .int .i64 0] 40)).cell? ⟨w.heap.size + 1, 0, none⟩ = some (.int .i64 m) := by
    have h1 := (blk_new (w.alloc (.cells #[(.slice Ar revs.length cr), dr] 31)) [.int .i64 m] 3).alloc (.cells #[.string ⟨#[]⟩, .int .i64 0, .int .i64 0, .int .i64 0, .int .i64 0, .bool false, .bool false, .bool false, .int .u64 0, .int .i64 0, .string ⟨#[]⟩, .int .i64 0] 40)
    simp only [World.size_alloc] at h1
    exact h1.cell 0
  have HC := Lib.hid (greatest_get revs q m (w.heap.size + 1) (.slice Ar revs.length cr) dr _ (HR.out.below hb0) hcell hl)
  clear hdv dv hcell
  generalize greatest revs q (fun v : Rev => decide (v.num = m)) = o at HC ⊢
  generalize someR o = r at HC ⊢
  go_enter Tryz.func137, Tryz.ntmps137
  go_wp2_with fail
  refine HC.out.mono ?_
  rintro e w1 ⟨rfl, hb1⟩
  have hZ1 := hZ.below hb1 hZ.lt
  have hbw1 := below_next hb0 hb1
  obtain ⟨z0, z1, z2, z3, z4, z5, z6, z7, z8, z9, z10, z11⟩ := box12 hZ1
  obtain ⟨y0, y1, y2, y3, y4, y5, y6, y7, y8, y9, y10, y11⟩ := frz12 hZ1
  clear hb1
  go_wp2_with fail
  have hZ3 := set12 hZ1 r
  have hB3 := below12 hbw1 (show w.heap.size ≤ w.heap.size + 1 + 1 by omega) r
  generalize ((((((((((((w1.setCell ⟨w.heap.size + 1 + 1, 0, none⟩ (.string r.path)).setCell ⟨w.heap.size + 1 + 1, 1, none⟩ (.int .i64 r.num)).setCell ⟨w.heap.size + 1 + 1, 2, none⟩ (.int .i64 r.chg)).setCell ⟨w.heap.size + 1 + 1, 3, none⟩ (.int .i64 r.act)).setCell ⟨w.heap.size + 1 + 1, 4, none⟩ (.int .i64 r.ty.base)).setCell ⟨w.heap.size + 1 + 1, 5, none⟩ (.bool r.ty.k)).setCell ⟨w.heap.size + 1 + 1, 6, none⟩ (.bool r.ty.l)).setCell ⟨w.heap.size + 1 + 1, 7, none⟩ (.bool r.ty.x)).setCell ⟨w.heap.size + 1 + 1, 8, none⟩ (.int .u64 r.sum)).setCell ⟨w.heap.size + 1 + 1, 9, none⟩ (.int .i64 r.size)).setCell ⟨w.heap.size + 1 + 1, 10, none⟩ (.string r.frm)).setCell ⟨w.heap.size + 1 + 1, 11, none⟩ (.int .i64 r.fnum)) = W3 at hZ3 hB3 ⊢
  obtain ⟨e0, e1, e2, e3, e4, e5, e6, e7, e8, e9, e10, e11⟩ := box12 hZ3
  exact bodyPost_ret (v := .tuple #[.agg #[.string r.path, .int .i64 r.num, .int .i64 r.chg, .int .i64 r.act, .int .i64 r.ty.base, .bool r.ty.k, .bool r.ty.l, .bool r.ty.x, .int .u64 r.sum, .int .i64 r.size, .string r.frm, .int .i64 r.fnum], .bool o.isSome]) (by simp [results, Tryz.results137, go_sem, e0, e1, e2, e3, e4, e5, e6, e7, e8, e9, e10, e11]) rfl ⟨rfl, hB3⟩
end Go.Proofs.YtnblfaagchflaaaGreatDoor
