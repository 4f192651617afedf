/- moves. -/
import Derived.Test.YteolonjmgojoeaaGreatDoorMzOneY
namespace Go.Proofs.YteolonjmgojoeaaGreatDoor
open Go.RowKit
set_option linter.unusedVariables false
set_option linter.unusedSimpArgs false

def natV (n : Nat) : Value := .int .i64 n
/-- A map that counts. -/
def CntMap (w : World) (B : Nat) (cnt : ByteArray → Nat) : Prop := ∃ f, FMap Value.string natV w B f ∧ ∀ p, (f p).getD 0 = cnt p
theorem zero_int (w : World) : (zeroValue 3).run Tryz.prog w = .ok (natV 0) w := by kernel_rfl
section
variable {w w' : World} {B : Nat} {cnt : ByteArray → Nat}
theorem CntMap.new (w : World) : CntMap (w.alloc (.map #[] 0)) w.heap.size (fun _ => 0) := ⟨_, FMap.new _ _ w, fun _ => rfl⟩
theorem CntMap.alloc (h : CntMap w B cnt) (o : Obj) : CntMap (w.alloc o) B cnt := by obtain ⟨f, h, r⟩ := h; exact ⟨f, h.alloc o, r⟩
theorem CntMap.lt (h : CntMap w B cnt) : B < w.heap.size := by obtain ⟨f, h, r⟩ := h; exact h.lt
theorem CntMap.look (h : CntMap w B cnt) (p : ByteArray) : (Instr.lookup 131 (.map (some B)) (.string p) false).run Tryz.prog w = .ok (.int .i64 (cnt p)) w := by
  obtain ⟨f, h, r⟩ := h
  rw [FMap.lookup h keyOk_str Tryz.underlying131 (zero_int w) p false, ← r p]
  unfold lookV
  cases f p <;> rfl
theorem CntMap.inc (h : CntMap w B cnt) (p : ByteArray) : ∃ w', (Instr.mapUpdate 131 (.map (some B)) (.string p) (.int .i64 ((cnt p : Int) + 1))).run Tryz.prog w = .ok () w' ∧ CntMap w' B (fun q => if q = p then cnt p + 1 else cnt q) ∧ w.grownBy w' (some B) ∧ w'.heap.size = w.heap.size := by
  obtain ⟨f, h, r⟩ := h
  obtain ⟨w', h1, h2, h3, h4⟩ := FMap.update h keyOk_str Tryz.underlying131 p (cnt p + 1)
  refine ⟨w', h1, ⟨_, h2, fun q => ?_⟩, h3, h4⟩
  unfold upd
  by_cases e : q = p
  · simp [e]
  · simp [e, r q]
end
theorem arrivals_snoc (es : List Edt) (x : Edt) : arrivals (es ++ [x]) = if x.act = 4 then (fun q => if q = x.frm then arrivals es x.frm + 1 else arrivals es q) else arrivals es := by
  funext q
  unfold arrivals
  rw [List.countP_append]
  by_cases h : x.act = 4
  · by_cases e : q = x.frm
    · simp [h, e]
    · have : ¬ x.frm = q := fun h => e h.symm
      simp [h, e, this]
  · simp [h]
theorem arrivals_le (es : List Edt) (p : ByteArray) : arrivals es p ≤ es.length := List.countP_le_length

theorem movesE_no {es : List Edt} {x : Edt} (hx : x ∈ es) (h : moveOk es (editsOf es) x = false) : movesE es = 117 := by
  unfold movesE
  rw [if_neg]
  rw [List.all_eq_true]
  intro hh
  rw [hh x hx] at h; cases h

set_option maxRecDepth 100000 in
set_option maxHeartbeats 8000000 in
theorem moves_any (es : List Edt) (g : Nat) (dv dr ev rv : Value) (n : Int) (cl tx : ByteArray) (bl be bn : Nat) (w : World) (hk : Chk w g dv dr n cl tx ev rv bl be bn) (hE : Edts w ev es) (hM : EditMap w be (editsOf es)) (hl : es.length ≤ 1000000) :
    Calls Tryz.prog 34 #[.pointer (some ⟨g, 0, none⟩)] w fun e w' => e = .returned (.int .i64 (movesE es)) ∧ Below w.heap.size w w' := by
  obtain ⟨Ae, ce, rfl, hce, hme, -⟩ := id hE
  have hb0 : Below w.heap.size w (w.alloc (.map #[] 0)) := (Below.refl _ _).alloc (Nat.le_refl _) _
  have hc0 := CntMap.new w
  have hgl := Blk.lt hk
  have HE := Lib.hid hE
  have HK := Lib.hid hk
  have HM := Lib.hid hM
  obtain ⟨-, -, -, k5, -, -, -, -⟩ := box10 (Blk.below hk hb0 (Blk.lt hk))
  clear hE hk hM
  unfold maxLen at hme
  have hmm := @run_makeMap Tryz.prog
  go_enter Tryz.func34, Tryz.ntmps34
  go_wp2_with fail
  clear hmm k5
  go_loopw [15] (fun i wr => ∃ (k : Nat), k ≤ es.length ∧ i = .int .i64 k ∧ Below w.heap.size w wr ∧ CntMap wr w.heap.size (arrivals (es.take k))) (fun i _ => es.length - (intOf i).toNat)
  case atStart => exact ⟨0, Nat.zero_le _, rfl, hb0, hc0⟩
  case round =>
    obtain ⟨k, hk, rfl, hbr, hcr⟩ := hrel
    by_cases hlt : k < es.length
    · obtain ⟨ad, rfl, hab, hld⟩ := Edts.at_ (HE.out.below hbr) hlt
      have HT := Lib.hid (show es.take (k + 1) = es.take k ++ [es[k]] from List.take_succ_eq_append_getElem hlt)
      have hle := arrivals_le (es.take k) es[k].frm
      rw [List.length_take, Nat.min_eq_left hk] at hle
      generalize es[k] = x at hld HT hle
      obtain ⟨x0, x1, x2, x3, x4, x5, x6, x7, x8, x9, x10, x11⟩ := hld
      have hbx := hbr.alloc hbr.size (.cells #[.string x.path, .int .i64 x.act, .int .i64 x.ty.base, .bool x.ty.k, .bool x.ty.l, .bool x.ty.x, .int .u64 x.sum, .int .i64 x.size, .int .i64 x.base, .string x.frm, .int .i64 x.fnum, .int .i64 x.fence] 54)
      have hcx := hcr.alloc (.cells #[.string x.path, .int .i64 x.act, .int .i64 x.ty.base, .bool x.ty.k, .bool x.ty.l, .bool x.ty.x, .int .u64 x.sum, .int .i64 x.size, .int .i64 x.base, .string x.frm, .int .i64 x.fnum, .int .i64 x.fence] 54)
      by_cases h4 : x.act = 4
      · have q4 : (x.act == 4) = true := by rw [h4]; rfl
        have hlk := hcx.look x.frm
        obtain ⟨w3, hup, hc3, hg3, hs3⟩ := hcx.inc x.frm
        have HS := Lib.hid (arrivals_snoc (es.take k) x)
        rw [if_pos h4] at HS
        clear h4
        generalize arrivals (es.take k) x.frm = m at hlk hup hc3 hle HS
        have hbw3 : Below w.heap.size w w3 := hbx.grown hg3 hbx.size (fun j e => by injection e with e; omega)
        go_wp2_with fail
        go_roundw
        case rel => exact ⟨k + 1, by omega, by go_num, hbw3, by rw [HT.out, HS.out]; exact hc3⟩
        case measure => simp [intOf]; omega
      · have q4 : (x.act == 4) = false := by simpa using h4
        have HS := Lib.hid (arrivals_snoc (es.take k) x)
        rw [if_neg h4] at HS
        clear h4
        go_wp2_with fail
        go_roundw
        case rel => exact ⟨k + 1, by omega, by go_num, hbx, by rw [HT.out, HS.out]; exact hcx⟩
        case measure => simp [intOf]; omega
    · obtain rfl : k = es.length := by omega
      rw [List.take_length] at hcr
      obtain ⟨-, -, -, k5, -, -, -, -⟩ := box10 (Blk.below HK.out hbr (Blk.lt HK.out))
      go_wp2_with fail
      clear k5 hk hlt
      obtain ⟨W, rfl⟩ : ∃ W, wr = W := ⟨_, rfl⟩
      go_loopw [34] (fun i wr => ∃ (k : Nat), k ≤ es.length ∧ i = .int .i64 k ∧ Below w.heap.size w wr ∧ CntMap wr w.heap.size (arrivals es) ∧ Hid ((es.take k).all (moveOk es (editsOf es)) = true)) (fun i _ => es.length - (intOf i).toNat)
      case atStart => exact ⟨0, Nat.zero_le _, rfl, hbr, hcr, Lib.hid rfl⟩
      case round =>
        clear hbr hcr
        obtain ⟨k, hk, rfl, hbr, hcr, HA⟩ := hrel
        by_cases hlt : k < es.length
        · obtain ⟨ad, rfl, hab, hld⟩ := Edts.at_ (HE.out.below hbr) hlt
          have HT := Lib.hid (show es.take (k + 1) = es.take k ++ [es[k]] from List.take_succ_eq_append_getElem hlt)
          have HX := Lib.hid (show es[k] ∈ es from List.getElem_mem _)
          generalize es[k] = x at hld HT HX
          obtain ⟨x0, x1, x2, x3, x4, x5, x6, x7, x8, x9, x10, x11⟩ := hld
          have hbx := hbr.alloc hbr.size (.cells #[.string x.path, .int .i64 x.act, .int .i64 x.ty.base, .bool x.ty.k, .bool x.ty.l, .bool x.ty.x, .int .u64 x.sum, .int .i64 x.size, .int .i64 x.base, .string x.frm, .int .i64 x.fnum, .int .i64 x.fence] 54)
          have hcx := hcr.alloc (.cells #[.string x.path, .int .i64 x.act, .int .i64 x.ty.base, .bool x.ty.k, .bool x.ty.l, .bool x.ty.x, .int .u64 x.sum, .int .i64 x.size, .int .i64 x.base, .string x.frm, .int .i64 x.fnum, .int .i64 x.fence] 54)
          by_cases h5 : x.act = 5
          · have q5 : (x.act == 5) = true := by rw [h5]; rfl
            have hlk := hcx.look x.path
            have HO : Hid (moveOk es (editsOf es) x = decide (arrivals es x.path = 1)) := Lib.hid (by unfold moveOk; rw [if_pos h5])
            clear h5
            generalize arrivals es x.path = m at hlk HO
            by_cases hm : m = 1
            · subst hm
              go_wp2_with fail
              go_roundw
              case rel => exact ⟨k + 1, by omega, by go_num, hbx, hcx, Lib.hid (by rw [HT.out, List.all_append, HA.out]; simp [HO.out])⟩
              case measure => simp [intOf]; omega
            · have q : ((m : Int) != 1) = true := by rw [bne_iff_ne]; omega
              have HF := Lib.hid (movesE_no HX.out (by rw [HO.out]; simp [hm]))
              clear hm
              go_wp2_with fail
              go_ret
              exact ⟨ret_int HF.out.symm, hbx⟩
          · have q5 : (x.act == 5) = false := by simpa using h5
            by_cases h4 : x.act = 4
            · have q4 : (x.act == 4) = true := by rw [h4]; rfl
              have HO : Hid (moveOk es (editsOf es) x = decide ((editR (editsOf es) x.frm).act = 5)) := Lib.hid (by unfold moveOk; rw [if_neg h5, if_pos h4]; rfl)
              have hX := blk_new wr [.string x.path, .int .i64 x.act, .int .i64 x.ty.base, .bool x.ty.k, .bool x.ty.l, .bool x.ty.x, .int .u64 x.sum, .int .i64 x.size, .int .i64 x.base, .string x.frm, .int .i64 x.fnum, .int .i64 x.fence] 54
              have hKx := Blk.below HK.out hbx (Blk.lt HK.out)
              have hMx := FMap.below HM.out hbx
              clear h4 h5
              have hlk := fun (m : Nat) => EditMap.look (w := (wr.alloc (.cells #[.string x.path, .int .i64 x.act, .int .i64 x.ty.base, .bool x.ty.k, .bool x.ty.l, .bool x.ty.x, .int .u64 x.sum, .int .i64 x.size, .int .i64 x.base, .string x.frm, .int .i64 x.fnum, .int .i64 x.fence] 54)).drewN m) (B := be) (FMap.below HM.out (below_drewN hbx m)) x.frm
              generalize editR (editsOf es) x.frm = y at hlk HO
              have hfl : ∀ w, (Instr.field 54 (.agg #[.string y.path, .int .i64 y.act, .int .i64 y.ty.base, .bool y.ty.k, .bool y.ty.l, .bool y.ty.x, .int .u64 y.sum, .int .i64 y.size, .int .i64 y.base, .string y.frm, .int .i64 y.fnum, .int .i64 y.fence]) 1).run Tryz.prog w = .ok (.int .i64 y.act) w := fun w => by kernel_rfl
              obtain ⟨-, -, -, -, -, -, k8, -⟩ := box10 hKx
              obtain ⟨c0, c1, c2, c3, c4, c5, c6, c7, c8, c9, c10, c11⟩ := box12 hX
              by_cases hy : y.act = 5
              · have qy : (y.act != 5) = false := by rw [bne_dec]; simp [hy]
                rw [hy] at HO
                clear hy
                go_wp2_with fail
                go_quiet (fail)
                go_wp2_with fail
                go_roundw
                case rel => exact ⟨k + 1, by omega, by go_num, below_drewN hbx _, hcx, Lib.hid (by rw [HT.out, List.all_append, HA.out]; simp [HO.out])⟩
                case measure => simp [intOf]; omega
              · have qy : (y.act != 5) = true := by rw [bne_dec]; simp [hy]
                have HF := Lib.hid (movesE_no HX.out (by rw [HO.out]; simp [hy]))
                clear hy
                go_wp2_with fail
                go_quiet (fail)
                go_wp2_with fail
                go_ret
                exact ⟨ret_int HF.out.symm, below_drewN hbx _⟩
            · have q4 : (x.act == 4) = false := by simpa using h4
              have HO : Hid (moveOk es (editsOf es) x = true) := Lib.hid (by unfold moveOk; rw [if_neg h5, if_neg h4])
              clear h4 h5
              go_wp2_with fail
              go_roundw
              case rel => exact ⟨k + 1, by omega, by go_num, hbx, hcx, Lib.hid (by rw [HT.out, List.all_append, HA.out]; simp [HO.out])⟩
              case measure => simp [intOf]; omega
        · have HF : Hid (movesE es = 0) := Lib.hid (by unfold movesE; rw [if_pos]; have := HA.out; rwa [List.take_of_length_le (by omega)] at this)
          go_wp2_with fail
          go_ret
          exact ⟨ret_int HF.out.symm, hbr⟩
end Go.Proofs.YteolonjmgojoeaaGreatDoor
