/- The reference's moved: the walk. -/
import Derived.Test.YtnblfaagchflaaaGreatDoorMgw18
import Derived.Test.YtnblfaagchflaaaGreatDoorMgw11
namespace Go.Proofs.YtnblfaagchflaaaGreatDoor
open Go.RowKit
set_option linter.unusedVariables false
set_option linter.unusedSimpArgs false

def mvB (x y : Edt) : Bool := (decide (x.act = 5) && decide (y.act = 4) && decide (y.frm = x.path)) || (decide (x.act = 4) && decide (y.act = 5) && decide (y.path = x.frm))
set_option maxRecDepth 100000 in
set_option maxHeartbeats 4000000 in
theorem movedR5 (ops : Array Oper) (hops : Tryz.f95.body.bind (regAt 5) = some ops) (Q : Exit → Act → World → Prop) (g3 g7 : Nat) (x y : Edt) (V : World)
    (h3 : Blk V g3 55 [.string x.path, .int .i64 x.act, .int .i64 x.ty.base, .bool x.ty.k, .bool x.ty.l, .bool x.ty.x, .int .u64 x.sum, .int .i64 x.size, .int .i64 x.base, .string x.frm, .int .i64 x.fnum, .int .i64 x.fence]) (h7 : Blk V g7 55 [.string y.path, .int .i64 y.act, .int .i64 y.ty.base, .bool y.ty.k, .bool y.ty.l, .bool y.ty.x, .int .u64 y.sum, .int .i64 y.size, .int .i64 y.base, .string y.frm, .int .i64 y.fnum, .int .i64 y.fence])
    (u0 u1 u2 u4 u5 u6 u8 u9 u10 u11 u12 u13 u14 u15 u16 u17 u18 u19 u20 u21 u22 u23 u24 u25 u26 u27 u28 u29 u30 u31 u32 u33 u34 u35 u36 u37 u38 u39 u40 u41 u42 u43 u44 u45 u46 u47 u48 u49 u50 u51 u52 u53 u54 u55 u56 u57 u58 u59 u60 u61 : Value)
    (hQ : ∀ (t15 t16 t17 t18 t19 t20 t21 t22 t23 t24 t25 t26 t27 t28 t29 t30 t31 t32 t33 t34 t35 t36 t37 t38 t39 t40 t41 t42 t43 t44 t45 : Value), Q .normal ⟨#[u0, u1, u2, .pointer (some ⟨g3, 0, none⟩), u4, u5, u6, .pointer (some ⟨g7, 0, none⟩), u8, u9, u10, u11, u12, u13, u14, t15, t16, t17, t18, t19, t20, t21, t22, t23, t24, t25, t26, t27, t28, t29, t30, t31, t32, t33, t34, t35, t36, t37, t38, t39, t40, t41, t42, t43, t44, t45, .bool (mvB x y), u47, u48, u49, u50, u51, u52, u53, u54, u55, u56, u57, u58, u59, u60, u61], []⟩ V) :
    (Code.region 5 ops false).wp Tryz.prog Q ⟨#[u0, u1, u2, .pointer (some ⟨g3, 0, none⟩), u4, u5, u6, .pointer (some ⟨g7, 0, none⟩), u8, u9, u10, u11, u12, u13, u14, u15, u16, u17, u18, u19, u20, u21, u22, u23, u24, u25, u26, u27, u28, u29, u30, u31, u32, u33, u34, u35, u36, u37, u38, u39, u40, u41, u42, u43, u44, u45, u46, u47, u48, u49, u50, u51, u52, u53, u54, u55, u56, u57, u58, u59, u60, u61], []⟩ V := by
  simp only [Tryz.f95, Option.bind_some, regAt] at hops
  simp at hops
  subst hops
  have HQ := Lib.hid hQ
  clear hQ
  obtain ⟨a0, a1, a2, a3, a4, a5, a6, a7, a8, a9, a10, a11⟩ := box12 h3
  obtain ⟨b0, b1, b2, b3, b4, b5, b6, b7, b8, b9, b10, b11⟩ := box12 h7
  have HE : Hid (mvB x y = ((decide (x.act = 5) && decide (y.act = 4) && decide (y.frm = x.path)) || (decide (x.act = 4) && decide (y.act = 5) && decide (y.path = x.frm)))) := Lib.hid rfl
  by_cases c5 : x.act = 5
  · have q5 : (x.act == 5) = true := by simpa using c5
    have q4 : (x.act == 4) = false := by rw [c5]; rfl
    by_cases y4 : y.act = 4
    · have r4 : (y.act == 4) = true := by simpa using y4
      have sq := str_eqB y.frm x.path
      by_cases yp : y.frm = x.path
      · rw [decide_eq_true yp] at sq
        have e : mvB x y = true := by rw [HE.out]; simp [c5, y4, yp]
        rw [e] at HQ
        clear c5 y4 yp e
        go_wp2_with fail
        exact HQ.out ..
      · rw [decide_eq_false yp] at sq
        have e : mvB x y = false := by rw [HE.out]; simp [c5, y4, yp]
        rw [e] at HQ
        clear c5 y4 yp e
        go_wp2_with fail
        exact HQ.out ..
    · have r4 : (y.act == 4) = false := by simpa using y4
      have e : mvB x y = false := by rw [HE.out]; simp [c5, y4]
      rw [e] at HQ
      clear c5 y4 e
      go_wp2_with fail
      exact HQ.out ..
  · have q5 : (x.act == 5) = false := by simpa using c5
    by_cases c4 : x.act = 4
    · have q4 : (x.act == 4) = true := by simpa using c4
      by_cases y5 : y.act = 5
      · have r5 : (y.act == 5) = true := by simpa using y5
        have sq := str_eqB y.path x.frm
        by_cases yp : y.path = x.frm
        · rw [decide_eq_true yp] at sq
          have e : mvB x y = true := by rw [HE.out]; simp [c5, c4, y5, yp]
          rw [e] at HQ
          clear c5 c4 y5 yp e
          go_wp2_with fail
          exact HQ.out ..
        · rw [decide_eq_false yp] at sq
          have e : mvB x y = false := by rw [HE.out]; simp [c5, c4, y5, yp]
          rw [e] at HQ
          clear c5 c4 y5 yp e
          go_wp2_with fail
          exact HQ.out ..
      · have r5 : (y.act == 5) = false := by simpa using y5
        have e : mvB x y = false := by rw [HE.out]; simp [c5, c4, y5]
        rw [e] at HQ
        clear c5 c4 y5 e
        go_wp2_with fail
        exact HQ.out ..
    · have q4 : (x.act == 4) = false := by simpa using c4
      have e : mvB x y = false := by rw [HE.out]; simp [c5, c4]
      rw [e] at HQ
      clear c5 c4 e
      go_wp2_with fail
      exact HQ.out ..
theorem movedN_next (es : List Edt) (x : Edt) (k : Nat) (h : k < es.length) : movedN (es.take (k + 1)) x = movedN (es.take k) x + (if mvB x es[k] then 1 else 0) := by
  unfold movedN
  rw [List.take_succ_eq_append_getElem h, List.countP_append, List.countP_cons, List.countP_nil, Nat.zero_add]
  rfl
theorem movedN_le (es : List Edt) (x : Edt) (k : Nat) : movedN (es.take k) x ≤ k := by
  unfold movedN
  have := List.countP_le_length (p := fun y : Edt => (decide (x.act = 5) && decide (y.act = 4) && decide (y.frm = x.path)) || (decide (x.act = 4) && decide (y.act = 5) && decide (y.path = x.frm))) (l := es.take k)
  rw [List.length_take] at this
  omega
set_option maxRecDepth 100000 in
set_option maxHeartbeats 4000000 in
theorem refMoved_any (es : List Edt) (num : Int) (cl tx : ByteArray) (Ae Ac : Option Addr) (nc ce cc : Nat) (x : Edt) (w : World) (hE : Edts w (.slice Ae es.length ce) es) (hl : es.length ≤ 100000) :
    Calls Tryz.prog 95 #[.agg #[.int .i64 num, .string cl, .string tx, .slice Ae es.length ce, .slice Ac nc cc], .agg #[.string x.path, .int .i64 x.act, .int .i64 x.ty.base, .bool x.ty.k, .bool x.ty.l, .bool x.ty.x, .int .u64 x.sum, .int .i64 x.size, .int .i64 x.base, .string x.frm, .int .i64 x.fnum, .int .i64 x.fence]] w fun e w' => e = .returned (.bool (movedB es x)) ∧ Below w.heap.size w w' := by
  have HE := Lib.hid hE
  clear hE
  have hb0 : Below w.heap.size w ((w.alloc (.cells #[.int .i64 num, .string cl, .string tx, .slice Ae es.length ce, .slice Ac nc cc] 53)).alloc (.cells #[.string x.path, .int .i64 x.act, .int .i64 x.ty.base, .bool x.ty.k, .bool x.ty.l, .bool x.ty.x, .int .u64 x.sum, .int .i64 x.size, .int .i64 x.base, .string x.frm, .int .i64 x.fnum, .int .i64 x.fence] 55)) := ((Below.refl _ _).alloc (Nat.le_refl _) _).alloc (by simp) _
  have hV : Blk ((w.alloc (.cells #[.int .i64 num, .string cl, .string tx, .slice Ae es.length ce, .slice Ac nc cc] 53)).alloc (.cells #[.string x.path, .int .i64 x.act, .int .i64 x.ty.base, .bool x.ty.k, .bool x.ty.l, .bool x.ty.x, .int .u64 x.sum, .int .i64 x.size, .int .i64 x.base, .string x.frm, .int .i64 x.fnum, .int .i64 x.fence] 55)) (w.heap.size + 1) 55 [.string x.path, .int .i64 x.act, .int .i64 x.ty.base, .bool x.ty.k, .bool x.ty.l, .bool x.ty.x, .int .u64 x.sum, .int .i64 x.size, .int .i64 x.base, .string x.frm, .int .i64 x.fnum, .int .i64 x.fence] := by
    have h1 := blk_new (w.alloc (.cells #[.int .i64 num, .string cl, .string tx, .slice Ae es.length ce, .slice Ac nc cc] 53)) [.string x.path, .int .i64 x.act, .int .i64 x.ty.base, .bool x.ty.k, .bool x.ty.l, .bool x.ty.x, .int .u64 x.sum, .int .i64 x.size, .int .i64 x.base, .string x.frm, .int .i64 x.fnum, .int .i64 x.fence] 55
    simp only [World.size_alloc] at h1
    exact h1
  have hB : Blk ((w.alloc (.cells #[.int .i64 num, .string cl, .string tx, .slice Ae es.length ce, .slice Ac nc cc] 53)).alloc (.cells #[.string x.path, .int .i64 x.act, .int .i64 x.ty.base, .bool x.ty.k, .bool x.ty.l, .bool x.ty.x, .int .u64 x.sum, .int .i64 x.size, .int .i64 x.base, .string x.frm, .int .i64 x.fnum, .int .i64 x.fence] 55)) w.heap.size 53 [.int .i64 num, .string cl, .string tx, .slice Ae es.length ce, .slice Ac nc cc] := (blk_new w _ _).alloc _
  go_enter Tryz.func95, Tryz.ntmps95
  go_upto_region 1 with fail
  generalize (w.alloc (.cells #[.int .i64 num, .string cl, .string tx, .slice Ae es.length ce, .slice Ac nc cc] 53)).alloc (.cells #[.string x.path, .int .i64 x.act, .int .i64 x.ty.base, .bool x.ty.k, .bool x.ty.l, .bool x.ty.x, .int .u64 x.sum, .int .i64 x.size, .int .i64 x.base, .string x.frm, .int .i64 x.fnum, .int .i64 x.fence] 55) = W1 at hb0 hV hB ⊢
  obtain ⟨d0, d1, d2, d3, d4⟩ := box5 hB
  have HV := Lib.hid hV
  have Hb0 := Lib.hid hb0
  clear hb0 hV hB
  go_wp2_with fail
  clear d0 d1 d2 d3 d4
  go_loopw [5, 11] (fun n s wr => ∃ k : Nat, s = .int .i64 k ∧ n = .int .i64 (movedN (es.take k) x) ∧ k ≤ es.length ∧ Hid (Below W1.heap.size W1 wr)) (fun _ s _ => es.length - (intOf s).toNat)
  case atStart => exact ⟨0, rfl, by rw [List.take_zero]; rfl, Nat.zero_le _, Below.refl _ _⟩
  case round =>
    obtain ⟨k, rfl, rfl, hk, HI⟩ := hrel
    by_cases hlt : k < es.length
    · obtain ⟨ad, rfl, hab, hld⟩ := Edts.at_ (HE.out.below (below_next Hb0.out HI.out)) hlt
      have HN := Lib.hid (movedN_next es x k hlt)
      have hle := movedN_le es x k
      generalize es[k] = y at hld HN
      obtain ⟨x0, x1, x2, x3, x4, x5, x6, x7, x8, x9, x10, x11⟩ := hld
      have hY := blk_new wr [.string y.path, .int .i64 y.act, .int .i64 y.ty.base, .bool y.ty.k, .bool y.ty.l, .bool y.ty.x, .int .u64 y.sum, .int .i64 y.size, .int .i64 y.base, .string y.frm, .int .i64 y.fnum, .int .i64 y.fence] 55
      have hA1 := HI.out.alloc HI.out.size (.cells #[.string y.path, .int .i64 y.act, .int .i64 y.ty.base, .bool y.ty.k, .bool y.ty.l, .bool y.ty.x, .int .u64 y.sum, .int .i64 y.size, .int .i64 y.base, .string y.frm, .int .i64 y.fnum, .int .i64 y.fence] 55)
      go_upto_region 5 with fail
      clear x0 x1 x2 x3 x4 x5 x6 x7 x8 x9 x10 x11
      generalize wr.alloc (.cells #[.string y.path, .int .i64 y.act, .int .i64 y.ty.base, .bool y.ty.k, .bool y.ty.l, .bool y.ty.x, .int .u64 y.sum, .int .i64 y.size, .int .i64 y.base, .string y.frm, .int .i64 y.fnum, .int .i64 y.fence] 55) = V1 at hY hA1 ⊢
      generalize wr.heap.size = g7 at hY ⊢
      have HA1 := Lib.hid hA1
      have HY := Lib.hid hY
      clear hY hA1
      refine movedR5 _ (by kernel_rfl) _ (w.heap.size + 1) g7 x y V1 (HV.out.below HA1.out HV.out.lt) HY.out _ _ _ _ _ _ _ _ _ _ _ _ _ _ _ _ _ _ _ _ _ _ _ _ _ _ _ _ _ _ _ _ _ _ _ _ _ _ _ _ _ _ _ _ _ _ _ _ _ _ _ _ _ _ _ _ _ _ _ _ ?_
      intro t15 t16 t17 t18 t19 t20 t21 t22 t23 t24 t25 t26 t27 t28 t29 t30 t31 t32 t33 t34 t35 t36 t37 t38 t39 t40 t41 t42 t43 t44 t45
      cases hm : mvB x y
      · rw [hm] at HN
        clear hm
        go_wp2_with fail
        go_roundw
        case rel => exact ⟨k + 1, by go_num, by rw [HN.out]; simp, by omega, HA1.out⟩
        case measure => simp [intOf]; omega
      · rw [hm] at HN
        clear hm
        go_wp2_with fail
        go_roundw
        case rel => exact ⟨k + 1, by go_num, by rw [HN.out]; simp, by omega, HA1.out⟩
        case measure => simp [intOf]; omega
    · have hke : k = es.length := by omega
      subst hke
      obtain ⟨a0, a1, a2, a3, a4, a5, a6, a7, a8, a9, a10, a11⟩ := box12 (HV.out.below HI.out HV.out.lt)
      have HMB : Hid (movedB es x = (decide (movedN es x = 1) || (decide (x.act ≠ 5) && decide (x.act ≠ 4)))) := Lib.hid rfl
      have HB := Lib.hid (below_next Hb0.out HI.out)
      rw [List.take_length]
      generalize movedN es x = m at HMB ⊢
      by_cases h1 : m = 1
      · have HV : Hid (movedB es x = true) := Lib.hid (by rw [HMB.out]; simp [h1])
        subst h1
        go_wp2_with fail
        go_ret
        exact ⟨ret_bool HV.out.symm, HB.out⟩
      · have q1 : ((m : Int) == 1) = false := by simp; omega
        by_cases h5 : x.act = 5
        · have q5 : (x.act != 5) = false := by simpa using h5
          have HV : Hid (movedB es x = false) := Lib.hid (by rw [HMB.out]; simp [h1, h5])
          clear h1 h5
          go_wp2_with fail
          go_ret
          exact ⟨ret_bool HV.out.symm, HB.out⟩
        · have q5 : (x.act != 5) = true := by simpa using h5
          by_cases h4 : x.act = 4
          · have q4 : (x.act != 4) = false := by simpa using h4
            have HV : Hid (movedB es x = false) := Lib.hid (by rw [HMB.out]; simp [h1, h5, h4])
            clear h1 h5 h4
            go_wp2_with fail
            go_ret
            exact ⟨ret_bool HV.out.symm, HB.out⟩
          · have q4 : (x.act != 4) = true := by simpa using h4
            have HV : Hid (movedB es x = true) := Lib.hid (by rw [HMB.out]; simp [h1, h5, h4])
            clear h1 h5 h4
            go_wp2_with fail
            go_ret
            exact ⟨ret_bool HV.out.symm, HB.out⟩
end Go.Proofs.YtnblfaagchflaaaGreatDoor
/- The statements' Small, with what its no says. -/
namespace Go.Proofs.YtnblfaagchflaaaGreatDoor
open Go.RowKit
set_option linter.unusedVariables false
set_option linter.unusedSimpArgs false

def SmPost2 (w : World) (l : List Chg) (e : Ending) (w' : World) : Prop := ∃ b, e = .returned (.bool b) ∧ Below w.heap.size w w' ∧ (b = true → smallL l) ∧ (b = false → ¬ smallL l)
set_option maxRecDepth 100000 in
set_option maxHeartbeats 8000000 in
theorem small_both (ps : List ChV) (v : Value) (w : World) (hP : Chgs w v ps) (hl : ps.length ≤ 10000000000000) (hs : ∀ p ∈ ps, chgLen p.1 ≤ 10000000000000) (hz : ∀ p ∈ ps, (∀ x ∈ p.1.edits, x.path.size ≤ 140737488355328 ∧ x.frm.size ≤ 140737488355328) ∧ ∀ x ∈ p.1.recs, x.frm.size ≤ 140737488355328 ∧ x.to.size ≤ 140737488355328) :
    Calls Tryz.prog 5 #[v] w (SmPost2 w (ps.map (·.1))) := by
  obtain ⟨A, c, rfl, hc, hm, -⟩ := id hP.1
  have HP := Lib.hid hP
  have HS := Lib.hid hs
  have HZ := Lib.hid hz
  unfold maxLen at hm
  clear hP hs hz
  go_enter Tryz.func5, Tryz.ntmps5
  go_wp2_with fail
  go_loopw [3, 12] (fun s t wr => ∃ (k : Nat) (tot : Int), s = .int .i64 tot ∧ t = .int .i64 k ∧ k ≤ ps.length ∧ Hid ((k ≤ 40 → tot = lenSum ((ps.take k).map (·.1)) ∧ 0 ≤ tot ∧ tot ≤ k * 10000000000000) ∧ (∀ p ∈ ps.take k, chgSm p.1) ∧ Below w.heap.size w wr)) (fun _ t _ => ps.length - (intOf t).toNat)
  case atStart => exact ⟨0, 0, rfl, rfl, Nat.zero_le _, fun _ => ⟨rfl, by omega, by omega⟩, fun p hp => by simp at hp, Below.refl _ _⟩
  case round =>
    obtain ⟨k, tot, rfl, rfl, hk, HI⟩ := hrel
    by_cases hlt : k < ps.length
    · have hPr := HP.out.below HI.out.2.2
      obtain ⟨ad, rfl, hab, hld⟩ := Chgs.at_ hPr hlt
      have HT := Lib.hid (show ps.take (k + 1) = ps.take k ++ [ps[k]] from List.take_succ_eq_append_getElem hlt)
      have hpm : ps[k] ∈ ps := List.getElem_mem _
      have hok := hPr.2 ps[k] hpm
      have hcl := HS.out ps[k] hpm
      have HPM := Lib.hid (HZ.out ps[k] hpm)
      have HNOT := Lib.hid (fun (h : ¬ chgSm ps[k].1) (hs : smallL (ps.map (·.1))) => h (hs.1 _ (List.mem_map_of_mem hpm)))
      generalize ps[k] = p at hld HT hok hcl HPM HNOT
      clear hpm hPr
      obtain ⟨ch, ev, rv⟩ := p
      obtain ⟨Ae, ce, he, -⟩ := id hok.1
      obtain ⟨Ac, cc, hc2, -⟩ := id hok.2
      change ev = .slice Ae ch.edits.length ce at he
      change rv = .slice Ac ch.recs.length cc at hc2
      subst he hc2
      obtain ⟨x0, x1, x2, x3, x4⟩ := hld
      change wr.cell? (ad.add (k * 5)) = some (.int .i64 ch.num) at x0
      change wr.cell? ⟨(ad.add (k * 5)).block, (ad.add (k * 5)).off + 1, none⟩ = some (.string ch.client) at x1
      change wr.cell? ⟨(ad.add (k * 5)).block, (ad.add (k * 5)).off + 2, none⟩ = some (.string ch.text) at x2
      change wr.cell? ⟨(ad.add (k * 5)).block, (ad.add (k * 5)).off + 3, none⟩ = some (.slice Ae ch.edits.length ce) at x3
      change wr.cell? ⟨(ad.add (k * 5)).block, (ad.add (k * 5)).off + 4, none⟩ = some (.slice Ac ch.recs.length cc) at x4
      unfold chgLen at hcl
      change ch.edits.length + ch.recs.length ≤ 10000000000000 at hcl
      have HOK : Hid (Edts wr (.slice Ae ch.edits.length ce) ch.edits ∧ Rcds wr (.slice Ac ch.recs.length cc) ch.recs) := Lib.hid hok
      clear hok
      have hX1 := blk_new wr [.int .i64 ch.num, .string ch.client, .string ch.text, .slice Ae ch.edits.length ce, .slice Ac ch.recs.length cc] 53
      have hA1 : Below wr.heap.size wr (wr.alloc (.cells #[.int .i64 ch.num, .string ch.client, .string ch.text, .slice Ae ch.edits.length ce, .slice Ac ch.recs.length cc] 53)) := (Below.refl _ _).alloc (Nat.le_refl _) _
      go_upto_region 5 with fail
      clear x0 x1 x2 x3 x4
      generalize wr.alloc (.cells #[.int .i64 ch.num, .string ch.client, .string ch.text, .slice Ae ch.edits.length ce, .slice Ac ch.recs.length cc] 53) = V1 at hX1 hA1 ⊢
      generalize wr = wq at hX1 hA1 HOK HI hab ⊢
      obtain ⟨-, -, -, y3, y4⟩ := box5 hX1
      go_wp2_with fail
      clear y3 y4
      have HX1 := Lib.hid hX1
      have HA1 := Lib.hid hA1
      clear hX1 hA1
      go_loopw [28] (fun s wy => ∃ j : Nat, s = .int .i64 j ∧ j ≤ ch.edits.length ∧ Hid ((∀ x ∈ ch.edits.take j, edtSm x) ∧ Below V1.heap.size V1 wy)) (fun s _ => ch.edits.length - (intOf s).toNat)
      case atStart => exact ⟨0, rfl, Nat.zero_le _, fun x hx => by simp at hx, Below.refl _ _⟩
      case round =>
        obtain ⟨j, rfl, hj, HJ⟩ := hrel
        by_cases hjl : j < ch.edits.length
        · have hEd := (HOK.out.1.below HA1.out).below HJ.out.2
          obtain ⟨ad2, rfl, hab2, hld2⟩ := Edts.at_ hEd hjl
          have HTJ := Lib.hid (show ch.edits.take (j + 1) = ch.edits.take j ++ [ch.edits[j]] from List.take_succ_eq_append_getElem hjl)
          have hzz := HPM.out.1 ch.edits[j] (List.getElem_mem _)
          have HNE := Lib.hid (fun (h : ¬ edtSm ch.edits[j]) (hs : chgSm ch) => h (hs.1 _ (List.getElem_mem _)))
          generalize ch.edits[j] = x at hld2 HTJ hzz HNE
          obtain ⟨x0, x1, x2, x3, x4, x5, x6, x7, x8, x9, x10, x11⟩ := hld2
          have hX2 := blk_new wr [.string x.path, .int .i64 x.act, .int .i64 x.ty.base, .bool x.ty.k, .bool x.ty.l, .bool x.ty.x, .int .u64 x.sum, .int .i64 x.size, .int .i64 x.base, .string x.frm, .int .i64 x.fnum, .int .i64 x.fence] 55
          have hb2 : Below V1.heap.size V1 (wr.alloc (.cells #[.string x.path, .int .i64 x.act, .int .i64 x.ty.base, .bool x.ty.k, .bool x.ty.l, .bool x.ty.x, .int .u64 x.sum, .int .i64 x.size, .int .i64 x.base, .string x.frm, .int .i64 x.fnum, .int .i64 x.fence] 55)) := HJ.out.2.alloc HJ.out.2.size _
          clear hEd
          go_upto_region 9 with fail
          clear x0 x1 x2 x3 x4 x5 x6 x7 x8 x9 x10 x11
          generalize wr.alloc (.cells #[.string x.path, .int .i64 x.act, .int .i64 x.ty.base, .bool x.ty.k, .bool x.ty.l, .bool x.ty.x, .int .u64 x.sum, .int .i64 x.size, .int .i64 x.base, .string x.frm, .int .i64 x.fnum, .int .i64 x.fence] 55) = V2 at hX2 hb2 ⊢
          obtain ⟨y0, -, -, -, -, -, -, -, -, y9, -, -⟩ := box12 hX2
          have HB2 := Lib.hid hb2
          clear hX2 hb2
          by_cases hq : x.path.size + x.frm.size ≤ 500
          · have q : decide ((500 : Int) < (x.path.size : Int) + (x.frm.size : Int)) = false := by simp; omega
            have HQ : Hid (edtSm x) := Lib.hid hq
            clear hq
            go_wp2_with fail
            go_roundw
            case rel => exact ⟨j + 1, by go_num, by omega, fun y hy => by
              rw [HTJ.out] at hy
              rcases List.mem_append.1 hy with hy | hy
              · exact HJ.out.1 y hy
              · rw [List.mem_singleton] at hy; subst hy; exact HQ.out, HB2.out⟩
            case measure => simp [intOf]; omega
          · have q : decide ((500 : Int) < (x.path.size : Int) + (x.frm.size : Int)) = true := by simp; omega
            have HQ : Hid (¬ edtSm x) := Lib.hid hq
            clear hq
            go_wp2_with fail
            go_ret
            exact ⟨false, rfl, below_next HI.out.2.2 (below_next HA1.out HB2.out), fun h => (by cases h), fun _ => HNOT.out (HNE.out HQ.out)⟩
        · have hje : j = ch.edits.length := by omega
          subst hje
          have HES : Hid (∀ x ∈ ch.edits, edtSm x) := Lib.hid (by have := HJ.out.1; rwa [List.take_length] at this)
          have y4 : wr.cell? ⟨wq.heap.size, 4, none⟩ = some (.slice Ac ch.recs.length cc) := (HX1.out.below HJ.out.2 HX1.out.lt).cell 4
          have HJB := Lib.hid HJ.out.2
          clear HJ
          go_wp2_with fail
          clear y4
          generalize wr = V3 at HJB ⊢
          go_loopw [44] (fun s wy => ∃ j : Nat, s = .int .i64 j ∧ j ≤ ch.recs.length ∧ Hid ((∀ x ∈ ch.recs.take j, rcdSm x) ∧ Below V3.heap.size V3 wy)) (fun s _ => ch.recs.length - (intOf s).toNat)
          case atStart => exact ⟨0, rfl, Nat.zero_le _, fun x hx => by simp at hx, Below.refl _ _⟩
          case round =>
            obtain ⟨j, rfl, hj, HJ⟩ := hrel
            by_cases hjl : j < ch.recs.length
            · have hEd := ((HOK.out.2.below HA1.out).below HJB.out).below HJ.out.2
              obtain ⟨ad2, rfl, hab2, hld2⟩ := Rcds.at_ hEd hjl
              have HTJ := Lib.hid (show ch.recs.take (j + 1) = ch.recs.take j ++ [ch.recs[j]] from List.take_succ_eq_append_getElem hjl)
              have hzz := HPM.out.2 ch.recs[j] (List.getElem_mem _)
              have HNE := Lib.hid (fun (h : ¬ rcdSm ch.recs[j]) (hs : chgSm ch) => h (hs.2 _ (List.getElem_mem _)))
              generalize ch.recs[j] = x at hld2 HTJ hzz HNE
              obtain ⟨x0, x1, x2, x3, x4, x5⟩ := hld2
              have hX2 := blk_new wr [.string x.frm, .int .i64 x.first, .int .i64 x.last, .string x.to, .int .i64 x.num, .int .i64 x.how] 57
              have hb2 : Below V3.heap.size V3 (wr.alloc (.cells #[.string x.frm, .int .i64 x.first, .int .i64 x.last, .string x.to, .int .i64 x.num, .int .i64 x.how] 57)) := HJ.out.2.alloc HJ.out.2.size _
              clear hEd
              go_upto_region 15 with fail
              clear x0 x1 x2 x3 x4 x5
              generalize wr.alloc (.cells #[.string x.frm, .int .i64 x.first, .int .i64 x.last, .string x.to, .int .i64 x.num, .int .i64 x.how] 57) = V2 at hX2 hb2 ⊢
              obtain ⟨y0, -, -, y3, -, -⟩ := box6 hX2
              have HB2 := Lib.hid hb2
              clear hX2 hb2
              by_cases hq : x.frm.size + x.to.size ≤ 500
              · have q : decide ((500 : Int) < (x.frm.size : Int) + (x.to.size : Int)) = false := by simp; omega
                have HQ : Hid (rcdSm x) := Lib.hid hq
                clear hq
                go_wp2_with fail
                go_roundw
                case rel => exact ⟨j + 1, by go_num, by omega, fun y hy => by
                  rw [HTJ.out] at hy
                  rcases List.mem_append.1 hy with hy | hy
                  · exact HJ.out.1 y hy
                  · rw [List.mem_singleton] at hy; subst hy; exact HQ.out, HB2.out⟩
                case measure => simp [intOf]; omega
              · have q : decide ((500 : Int) < (x.frm.size : Int) + (x.to.size : Int)) = true := by simp; omega
                have HQ : Hid (¬ rcdSm x) := Lib.hid hq
                clear hq
                go_wp2_with fail
                go_ret
                exact ⟨false, rfl, below_next HI.out.2.2 (below_next HA1.out (below_next HJB.out HB2.out)), fun h => (by cases h), fun _ => HNOT.out (HNE.out HQ.out)⟩
            · have hje : j = ch.recs.length := by omega
              subst hje
              have HRS : Hid (∀ x ∈ ch.recs, rcdSm x) := Lib.hid (by have := HJ.out.1; rwa [List.take_length] at this)
              go_wp2_with fail
              go_roundw
              case rel =>
                refine ⟨k + 1, wrap64 (tot + ((ch.edits.length : Int) + (ch.recs.length : Int))), rfl, by go_num, by omega, ?_, ?_, below_next HI.out.2.2 (below_next HA1.out (below_next HJB.out HJ.out.2))⟩
                · intro h40
                  obtain ⟨i1, i2, i3⟩ := HI.out.1 (by omega)
                  have hwr : wrap64 (tot + ((ch.edits.length : Int) + (ch.recs.length : Int))) = tot + ((ch.edits.length : Int) + (ch.recs.length : Int)) := by unfold wrap64; omega
                  rw [hwr, HT.out, List.map_append, List.map_cons, List.map_nil, lenSum_snoc]
                  refine ⟨?_, by omega, by omega⟩
                  rw [i1]; unfold chgLen; dsimp only; omega
                · intro p hp
                  rw [HT.out] at hp
                  rcases List.mem_append.1 hp with hp | hp
                  · exact HI.out.2.1 p hp
                  · rw [List.mem_singleton] at hp; subst hp; exact ⟨HES.out, HRS.out⟩
              case measure => simp [intOf]; omega
    · have hkk : k = ps.length := by omega
      subst hkk
      have HI2 : Hid ((ps.length ≤ 40 → tot = lenSum (ps.map (·.1)) ∧ 0 ≤ tot ∧ tot ≤ ps.length * 10000000000000) ∧ (∀ c ∈ ps.map (·.1), chgSm c)) := Lib.hid (by
        have h1 := HI.out.1
        have h2 := HI.out.2.1
        rw [List.take_length] at h1 h2
        exact ⟨h1, fun c hc => by obtain ⟨p, hp, rfl⟩ := List.mem_map.1 hc; exact h2 p hp⟩)
      by_cases h40 : ps.length ≤ 40
      · have d1 : decide (ps.length ≤ 40) = true := by simp; omega
        by_cases h200 : tot ≤ 200
        · have d1' : decide ((ps.length : Int) ≤ 40) = true := by simp; omega
          have d2' : decide (tot ≤ 200) = true := by simp; omega
          go_wp2_with fail
          go_ret
          exact ⟨true, rfl, HI.out.2.2, fun _ => ⟨HI2.out.2, by rw [List.length_map]; exact h40, by have := (HI2.out.1 h40).1; omega⟩, fun h => by cases h⟩
        · have d1' : decide ((ps.length : Int) ≤ 40) = true := by simp; omega
          have d2' : decide (tot ≤ 200) = false := by simp; omega
          go_wp2_with fail
          go_ret
          exact ⟨false, rfl, HI.out.2.2, fun h => (by cases h), fun _ hs => by have h1 := (HI2.out.1 h40).1; have h2 := hs.2.2; omega⟩
      · have d1' : decide ((ps.length : Int) ≤ 40) = false := by simp; omega
        go_wp2_with fail
        go_ret
        exact ⟨false, rfl, HI.out.2.2, fun h => (by cases h), fun _ hs => h40 (by have := hs.2.1; rwa [List.length_map] at this)⟩
end Go.Proofs.YtnblfaagchflaaaGreatDoor
