/- The reference's Check: the walk. -/
import Derived.Test.YtmhmnchdhacdbaaDoorMgv8
import Derived.Test.YtmhmnchdhacdbaaDoorMgv2
import Derived.Test.YtmhmnchdhacdbaaDoorSrt
import Derived.Test.YtmhmnchdhacdbaaDoorMgv0
import Derived.Deep.CutBlock
namespace Go.Proofs.YtmhmnchdhacdbaaDoor
open Go.RowKit
set_option linter.unusedVariables false
set_option linter.unusedSimpArgs false

set_option maxRecDepth 100000 in
set_option maxHeartbeats 8000000 in
theorem ckT5 (T : Code) (hT : Tryd.f23.body.bind (tailAt 5) = some T) (R : Ending → World → Prop) (d : Dep) (c : Chg) (Ar Aq Ae Ac : Option Addr) (cr cq ce cc g2 g3 : Nat) (w : World) (hb : CkB d c)
    (he : Env w) (hR : Revs w (.slice Ar d.revs.length cr) d.revs) (hP : Edts w (.slice Ae c.edits.length ce) c.edits) (hQ : Rcds w (.slice Ac c.recs.length cc) c.recs)
    (hD : Blk w g2 31 [.slice Ar d.revs.length cr, .slice Aq d.recs.length cq])
    (hC : Blk w g3 26 [.int .i64 c.num, .string c.client, .string c.text, .slice Ae c.edits.length ce, .slice Ac c.recs.length cc]) 
    (hRR : ∀ (n : Int) (w' : World), n = (if d.revs.any (fun r => decide (c.num ≤ r.chg)) then 112 else (if everyE (lastOf d.revs) emptyS c.edits ≠ 0 then everyE (lastOf d.revs) emptyS c.edits else if movesE c.edits ≠ 0 then movesE c.edits else if recsE d.revs c ≠ 0 then recsE d.revs c else roomE d c)) → Below w.heap.size w w' → R (.returned (.int .i64 n)) w')
    (u0 u1 u4 u5 u6 u7 u8 u9 u10 u11 u12 u13 u14 u15 u16 u17 u18 u19 u20 u21 u22 u23 u24 u25 u26 u27 u28 u29 u30 u31 u32 u33 u34 u35 u36 u37 u38 u39 u40 u41 u42 u43 u44 u45 u46 u47 u48 u49 u50 u51 u52 u53 u54 u55 u56 u57 u58 u59 u60 u61 u62 u63 u64 u65 u66 u67 u68 u69 u70 u71 u72 u73 u74 u75 u76 u77 u78 u79 u80 u81 u82 u83 u84 u85 u86 u87 u88 u89 u90 u91 u92 u93 u94 u95 u96 u97 u98 u99 u100 u101 u102 u103 u104 : Value) :
    T.wp Tryd.prog (bodyPost Tryd.prog Tryd.f23 R) ⟨#[u0, u1, .pointer (some ⟨g2, 0, none⟩), .pointer (some ⟨g3, 0, none⟩), u4, u5, u6, u7, u8, u9, u10, u11, u12, u13, u14, u15, u16, u17, u18, u19, u20, u21, u22, u23, u24, u25, u26, u27, u28, u29, u30, u31, u32, u33, u34, u35, u36, u37, u38, u39, u40, u41, u42, u43, u44, u45, u46, u47, u48, u49, u50, u51, u52, u53, u54, u55, u56, u57, u58, u59, u60, u61, u62, u63, u64, u65, u66, u67, u68, u69, u70, u71, u72, u73, u74, u75, u76, u77, u78, u79, u80, u81, u82, u83, u84, u85, u86, u87, u88, u89, u90, u91, u92, u93, u94, u95, u96, u97, u98, u99, u100, u101, u102, u103, u104], []⟩ w := by
  simp only [Tryd.f23, Option.bind_some, tailAt, hasReg] at hT
  simp at hT
  subst hT
  have HRR := Lib.hid hRR
  have HEN := Lib.hid he
  have HR := Lib.hid hR
  have HP := Lib.hid hP
  have HQ := Lib.hid hQ
  have HD := Lib.hid hD
  have HC := Lib.hid hC
  have HB := Lib.hid hb
  clear hRR he hR hP hQ hD hC hb
  have bl1 := HB.out.el
  have bl2 := HB.out.rl
  have bl3 : d.revs.length ≤ 100000 := by have := HB.out.dw.len; omega
  have HNO := Lib.hid (fun r (hr : r ∈ d.revs) (h : c.num ≤ r.chg) => (show d.revs.any (fun r => decide (c.num ≤ r.chg)) = true from List.any_eq_true.2 ⟨r, hr, decide_eq_true h⟩))
  have HYES : Hid ((∀ j (hj : j < d.revs.length), (d.revs[j]).chg < c.num) → (∀ r ∈ d.revs, r.chg < c.num) ∧ d.revs.any (fun r => decide (c.num ≤ r.chg)) = false) := Lib.hid (fun h => by
    have h2 : ∀ r ∈ d.revs, r.chg < c.num := fun r hr => by obtain ⟨j, hj, rfl⟩ := List.mem_iff_getElem.1 hr; exact h j hj
    refine ⟨h2, ?_⟩
    rw [List.any_eq_false]
    intro r hr hh
    have := h2 r hr
    have := of_decide_eq_true hh
    omega)
  have HT := Lib.hid (fun T hT R W hs he hR hP hQ hD hC hRR => ckT11 T hT R d c Ar Aq Ae Ac cr cq ce cc g2 g3 W HB.out he hR hP hQ hD hC hs hRR)
  generalize (if everyE (lastOf d.revs) emptyS c.edits ≠ 0 then everyE (lastOf d.revs) emptyS c.edits else if movesE c.edits ≠ 0 then movesE c.edits else if recsE d.revs c ≠ 0 then recsE d.revs c else roomE d c) = VR at HRR HT
  generalize d.revs.any (fun r => decide (c.num ≤ r.chg)) = V at HRR HNO HYES
  obtain ⟨d0, d1, -, -⟩ := box2 HD.out
  go_upto_block 0 with fail
  clear d0 d1
  go_cut [] (fun wx => Hid (Below w.heap.size w wx ∧ V = false ∧ ∀ r ∈ d.revs, r.chg < c.num))
  case first =>
    go_wp2_with fail
    go_loopw [39] (fun s wr => ∃ k : Nat, s = .int .i64 k ∧ k ≤ d.revs.length ∧ Hid (Below w.heap.size w wr ∧ ∀ j (hj : j < d.revs.length), j < k → (d.revs[j]).chg < c.num)) (fun s _ => d.revs.length - (intOf s).toNat)
    case atStart => exact ⟨0, rfl, Nat.zero_le _, Below.refl _ _, fun j _ hj => by omega⟩
    case round =>
      obtain ⟨k, rfl, hk, HI⟩ := hrel
      by_cases hlt : k < d.revs.length
      · have qlt : decide ((k : Int) < (d.revs.length : Int)) = true := by simp; omega
        obtain ⟨ad, rfl, hab, hld⟩ := Revs.at_ (HR.out.below HI.out.1) hlt
        have HN1 := Lib.hid (HNO.out d.revs[k] (List.getElem_mem hlt))
        have HJ : Hid ((d.revs[k]).chg < c.num → ∀ j (hj : j < d.revs.length), j < k + 1 → (d.revs[j]).chg < c.num) := Lib.hid (fun h j hj hjk => by
            by_cases e : j = k
            · subst e; exact h
            · exact HI.out.2 j hj (by omega))
        generalize d.revs[k] = x at hld HN1 HJ
        obtain ⟨x0, x1, x2, x3, x4, x5, x6, x7, x8, x9, x10, x11⟩ := hld
        have hX := blk_new wr [.string x.path, .int .i64 x.num, .int .i64 x.chg, .int .i64 x.act, .int .i64 x.ty.base, .bool x.ty.k, .bool x.ty.l, .bool x.ty.x, .int .u64 x.sum, .int .i64 x.size, .string x.frm, .int .i64 x.fnum] 45
        have hA1 := HI.out.1.alloc HI.out.1.size (.cells #[.string x.path, .int .i64 x.num, .int .i64 x.chg, .int .i64 x.act, .int .i64 x.ty.base, .bool x.ty.k, .bool x.ty.l, .bool x.ty.x, .int .u64 x.sum, .int .i64 x.size, .string x.frm, .int .i64 x.fnum] 45)
        go_upto_region 8 with fail
        clear x0 x1 x2 x3 x4 x5 x6 x7 x8 x9 x10 x11
        generalize wr.alloc (.cells #[.string x.path, .int .i64 x.num, .int .i64 x.chg, .int .i64 x.act, .int .i64 x.ty.base, .bool x.ty.k, .bool x.ty.l, .bool x.ty.x, .int .u64 x.sum, .int .i64 x.size, .string x.frm, .int .i64 x.fnum] 45) = V1 at hX hA1 ⊢
        generalize wr.heap.size = g6 at hX ⊢
        have HA1 := Lib.hid hA1
        obtain ⟨x0, x1, x2, x3, x4, x5, x6, x7, x8, x9, x10, x11⟩ := box12 hX
        obtain ⟨k0, k1, k2, k3, k4⟩ := box5 (HC.out.below HA1.out HC.out.lt)
        clear hX hA1
        by_cases h1 : c.num ≤ x.chg
        · have q1 : decide (c.num ≤ x.chg) = true := by simpa using h1
          have HF := Lib.hid (HN1.out h1)
          clear h1
          go_wp2_with fail
          exact HRR.out _ _ (by rw [HF.out]; rfl) HA1.out
        · have q1 : decide (c.num ≤ x.chg) = false := by simpa using h1
          have HJ2 := Lib.hid (HJ.out (by omega))
          clear h1
          go_wp2_with fail
          go_roundw
          case rel => exact ⟨k + 1, by go_num, by omega, HA1.out, HJ2.out⟩
          case measure => simp [intOf]; omega
      · have hke : k = d.revs.length := by omega
        have q : decide ((k : Int) < (d.revs.length : Int)) = false := by simp; omega
        have q' : decide (k < d.revs.length) = false := by simp; omega
        have HZ := Lib.hid (HYES.out fun j hj => HI.out.2 j hj (by omega))
        have HW := Lib.hid HI.out.1
        clear hke
        go_wp2_with fail
        go_meet
        exact ⟨HW.out, HZ.out.2, HZ.out.1⟩
  case rest =>
    have HV := Lib.hid hcut.out
    clear hcut
    have hk := ‹∀ (a : Act) (w : World), Code.wp _ _ _ a w → _›
    exact hk _ _ (HT.out _ (by kernel_rfl) _ _ HV.out.2.2 (HEN.out.below HV.out.1) (HR.out.below HV.out.1) (HP.out.below HV.out.1) (HQ.out.below HV.out.1) (HD.out.below HV.out.1 HD.out.lt) (HC.out.below HV.out.1 HC.out.lt) (fun n w' hn hw => HRR.out n w' (by rw [HV.out.2.1, hn]; rfl) (below_next HV.out.1 hw)) _ _ _ _ _ _ _ _ _ _ _ _ _ _ _ _ _ _ _ _ _ _ _ _ _ _ _ _ _ _ _ _ _ _ _ _ _ _ _ _ _ _ _ _ _ _ _ _ _ _ _ _ _ _ _ _ _ _ _ _ _ _ _ _ _ _ _ _ _ _ _ _ _ _ _ _ _ _ _ _ _ _ _ _ _ _ _ _ _ _ _ _ _ _ _ _ _ _ _ _ _ _ _)
set_option maxRecDepth 100000 in
set_option maxHeartbeats 8000000 in
theorem refCheckD_any (d : Dep) (c : Chg) (Ar Aq Ae Ac : Option Addr) (cr cq ce cc : Nat) (w : World) (hb : CkB d c) (he : Env w) (hR : Revs w (.slice Ar d.revs.length cr) d.revs) (hP : Edts w (.slice Ae c.edits.length ce) c.edits) (hQ : Rcds w (.slice Ac c.recs.length cc) c.recs) :
    Calls Tryd.prog 23 #[.agg #[.slice Ar d.revs.length cr, .slice Aq d.recs.length cq], .agg #[.int .i64 c.num, .string c.client, .string c.text, .slice Ae c.edits.length ce, .slice Ac c.recs.length cc]] w
      fun e w' => e = .returned (.int .i64 (appE d c)) ∧ Below w.heap.size w w' := by
  have HEN := Lib.hid he
  have HR := Lib.hid hR
  have HP := Lib.hid hP
  have HQ := Lib.hid hQ
  have HB := Lib.hid hb
  have b3 := hb.el
  have b4 := hb.rl
  have hb0 : Below w.heap.size w ((w.alloc (.cells #[.slice Ar d.revs.length cr, .slice Aq d.recs.length cq] 31)).alloc (.cells #[.int .i64 c.num, .string c.client, .string c.text, .slice Ae c.edits.length ce, .slice Ac c.recs.length cc] 26)) := ((Below.refl _ _).alloc (Nat.le_refl _) _).alloc (by simp) _
  have hC : Blk ((w.alloc (.cells #[.slice Ar d.revs.length cr, .slice Aq d.recs.length cq] 31)).alloc (.cells #[.int .i64 c.num, .string c.client, .string c.text, .slice Ae c.edits.length ce, .slice Ac c.recs.length cc] 26)) (w.heap.size + 1) 26 [.int .i64 c.num, .string c.client, .string c.text, .slice Ae c.edits.length ce, .slice Ac c.recs.length cc] := by
    have h1 := blk_new (w.alloc (.cells #[.slice Ar d.revs.length cr, .slice Aq d.recs.length cq] 31)) [.int .i64 c.num, .string c.client, .string c.text, .slice Ae c.edits.length ce, .slice Ac c.recs.length cc] 26
    simp only [World.size_alloc] at h1
    exact h1
  have hD : Blk ((w.alloc (.cells #[.slice Ar d.revs.length cr, .slice Aq d.recs.length cq] 31)).alloc (.cells #[.int .i64 c.num, .string c.client, .string c.text, .slice Ae c.edits.length ce, .slice Ac c.recs.length cc] 26)) w.heap.size 31 [.slice Ar d.revs.length cr, .slice Aq d.recs.length cq] := (blk_new w _ _).alloc _
  have HT := Lib.hid (fun T hT R g2 g3 W he hR hP hQ hD hC hRR => ckT5 T hT R d c Ar Aq Ae Ac cr cq ce cc g2 g3 W hb he hR hP hQ hD hC hRR)
  obtain ⟨V5, hV5⟩ : ∃ V5, V5 = (if d.revs.any (fun r => decide (c.num ≤ r.chg)) then 112 else (if everyE (lastOf d.revs) emptyS c.edits ≠ 0 then everyE (lastOf d.revs) emptyS c.edits else if movesE c.edits ≠ 0 then movesE c.edits else if recsE d.revs c ≠ 0 then recsE d.revs c else roomE d c)) := ⟨_, rfl⟩
  rw [← hV5] at HT
  have HA : Hid (appE d c = if c.edits.length = 0 ∨ 64 < c.edits.length ∨ 64 < c.recs.length then 110 else if c.num < 1 ∨ 1073741824 < c.num then 112 else V5) := Lib.hid (by
    rw [hV5]
    unfold appE firstE sizeE
    split
    · rfl
    · split
      · rfl
      · split
        · rfl
        · rw [if_neg (by simp)]
          show firstE _ = _
          by_cases h1 : everyE (lastOf d.revs) emptyS c.edits = 0
          · simp only [firstE, h1]
            by_cases h2 : movesE c.edits = 0
            · simp only [h2]
              by_cases h3 : recsE d.revs c = 0
              · simp only [h3]
                by_cases h4 : roomE d c = 0 <;> simp [h4]
              · simp [h3]
            · simp [h2]
          · simp [firstE, h1])
  generalize appE d c = VA at HA ⊢
  clear hb he hR hP hQ hV5
  go_enter Tryd.func23, Tryd.ntmps23
  go_upto_region 1 with fail
  generalize (w.alloc (.cells #[.slice Ar d.revs.length cr, .slice Aq d.recs.length cq] 31)).alloc (.cells #[.int .i64 c.num, .string c.client, .string c.text, .slice Ae c.edits.length ce, .slice Ac c.recs.length cc] 26) = W1 at hb0 hC hD ⊢
  have HC1 := Lib.hid hC
  have HD1 := Lib.hid hD
  have HW1 := Lib.hid hb0
  obtain ⟨k0, k1, k2, k3, k4⟩ := box5 hC
  clear hb0 hC hD
  go_cut [27] (fun v wx => ∃ bb, v = .bool bb ∧ Hid (wx = W1 ∧ bb = decide (c.edits.length = 0 ∨ 64 < c.edits.length ∨ 64 < c.recs.length)))
  case first =>
    by_cases h1 : c.edits.length = 0
    · have q1 : ((c.edits.length : Int) == 0) = true := by rw [beq_iff_eq]; omega
      have HF : Hid (true = decide (c.edits.length = 0 ∨ 64 < c.edits.length ∨ 64 < c.recs.length)) := Lib.hid (by simp [h1])
      have HZ := Lib.hid h1
      clear h1
      go_wp2_with fail
      go_meet
      exact ⟨true, by first | rfl | simp [HZ.out], rfl, HF.out⟩
    · have q1 : ((c.edits.length : Int) == 0) = false := by rw [beq_eq_false_iff_ne]; omega
      by_cases h2 : 64 < c.edits.length
      · have q2 : decide ((64 : Int) < (c.edits.length : Int)) = true := by simp; omega
        have HF : Hid (true = decide (c.edits.length = 0 ∨ 64 < c.edits.length ∨ 64 < c.recs.length)) := Lib.hid (by simp [h2])
        clear h1 h2
        go_wp2_with fail
        go_meet
        exact ⟨true, rfl, rfl, HF.out⟩
      · have q2 : decide ((64 : Int) < (c.edits.length : Int)) = false := by simp; omega
        by_cases h3 : 64 < c.recs.length
        · have q3 : decide ((64 : Int) < (c.recs.length : Int)) = true := by simp; omega
          have HF : Hid (true = decide (c.edits.length = 0 ∨ 64 < c.edits.length ∨ 64 < c.recs.length)) := Lib.hid (by simp [h3])
          clear h1 h2 h3
          go_wp2_with fail
          go_meet
          exact ⟨true, rfl, rfl, HF.out⟩
        · have q3 : decide ((64 : Int) < (c.recs.length : Int)) = false := by simp; omega
          have HF : Hid (false = decide (c.edits.length = 0 ∨ 64 < c.edits.length ∨ 64 < c.recs.length)) := Lib.hid (by rw [decide_eq_false (by omega)])
          clear h1 h2 h3
          go_wp2_with fail
          go_meet
          exact ⟨false, rfl, rfl, HF.out⟩
  case rest =>
    obtain ⟨bb, rfl, HV⟩ := hcut
    obtain rfl : wc = W1 := HV.out.1
    have HBB := Lib.hid HV.out.2
    clear HV
    cases bb with
    | true =>
      have HF : Hid (110 = VA) := Lib.hid (by rw [HA.out, if_pos (of_decide_eq_true HBB.out.symm)])
      go_wp2_with fail
      go_ret
      exact ⟨ret_int HF.out, HW1.out⟩
    | false =>
      have HA2 : Hid (VA = if c.num < 1 ∨ 1073741824 < c.num then 112 else V5) := Lib.hid (by rw [HA.out, if_neg (of_decide_eq_false HBB.out.symm)])
      clear HBB HA
      by_cases h1 : c.num ≤ 0
      · have q1 : decide (c.num ≤ 0) = true := by simpa using h1
        have HF : Hid (112 = VA) := Lib.hid (by rw [HA2.out, if_pos (by omega)])
        clear h1
        go_wp2_with fail
        go_ret
        exact ⟨ret_int HF.out, HW1.out⟩
      · have q1 : decide (c.num ≤ 0) = false := by simpa using h1
        by_cases h2 : 1073741824 < c.num
        · have q2 : decide (1073741824 < c.num) = true := by simpa using h2
          have HF : Hid (112 = VA) := Lib.hid (by rw [HA2.out, if_pos (by omega)])
          clear h1 h2
          go_wp2_with fail
          go_ret
          exact ⟨ret_int HF.out, HW1.out⟩
        · have q2 : decide (1073741824 < c.num) = false := by simpa using h2
          have HF : Hid (V5 = VA) := Lib.hid (by rw [HA2.out, if_neg (by omega)])
          clear h1 h2
          go_upto_if 35 with fail
          refine wp_cond_false rfl ?_
          refine wp_skip ?_
          have hk := ‹∀ (a : Act) (w : World), Code.wp _ _ _ a w → _›
          exact hk _ _ (HT.out _ (by kernel_rfl) _ _ _ _ (HEN.out.below HW1.out) (HR.out.below HW1.out) (HP.out.below HW1.out) (HQ.out.below HW1.out) HD1.out HC1.out (fun n w' hn hw => ⟨by rw [hn, HF.out], below_next HW1.out hw⟩) _ _ _ _ _ _ _ _ _ _ _ _ _ _ _ _ _ _ _ _ _ _ _ _ _ _ _ _ _ _ _ _ _ _ _ _ _ _ _ _ _ _ _ _ _ _ _ _ _ _ _ _ _ _ _ _ _ _ _ _ _ _ _ _ _ _ _ _ _ _ _ _ _ _ _ _ _ _ _ _ _ _ _ _ _ _ _ _ _ _ _ _ _ _ _ _ _ _ _ _ _ _ _)
end Go.Proofs.YtmhmnchdhacdbaaDoor
/- The reference's Sorted: the walk. -/
namespace Go.Proofs.YtmhmnchdhacdbaaDoor
open Go.RowKit Go.Lib
open Go.Sort hiding Below
set_option linter.unusedVariables false
set_option linter.unusedSimpArgs false

/-- A record whose paths are paths, of a length that the reference's order takes. -/
def Rcd.fine (r : Rcd) : Prop := r.val_ ∧ r.frm.size ≤ 2000000 ∧ r.to.size ≤ 2000000
abbrev FnRcd := { r : Rcd // r.fine }
instance : Inhabited FnRcd := ⟨⟨⟨somePath, 0, 0, somePath, 0, 0⟩, ⟨somePath_ok, somePath_ok⟩, by unfold somePath; decide, by unfold somePath; decide⟩⟩
def FnRcd.enc (r : FnRcd) : List Value := r.1.cells
def FnRcd.cmp (a b : FnRcd) : Int := cmpR a.1 b.1
theorem fnRcd_tot : TotC FnRcd.cmp := TotC.or (totP (f := fun r : FnRcd => r.1.to) fun r => r.2.1.2) (TotC.or (totI (f := fun r : FnRcd => r.1.num)) (TotC.or (totP (f := fun r : FnRcd => r.1.frm) fun r => r.2.1.1) (totI (f := fun r : FnRcd => r.1.first))))
theorem fnRcd_len (x : FnRcd) : x.enc.length = 6 := rfl
theorem fnRcd_one (x : FnRcd) : ∀ v ∈ x.enc, v.oneCell' = true := by
  intro v hv
  simp only [FnRcd.enc, Rcd.cells, List.mem_cons, List.not_mem_nil, or_false] at hv
  rcases hv with rfl | rfl | rfl | rfl | rfl | rfl <;> rfl
theorem before_at (x y : FnRcd) (W : World) (he : Env W) (d : Nat) (os : Array Obj) :
    Calls Tryd.prog 46 #[.agg x.enc.toArray, .agg y.enc.toArray] (grow (redrawn W d) os) fun e w'' => e = .returned (.bool (decide (FnRcd.cmp x y < 0))) ∧ ∃ p : Regrown, w'' = grow (redrawn W p.d) p.os :=
  Calls.regrown_of ((refBefore_any x.1 y.1 _ (he.below (below_regrown W d os)) x.2.2.2 y.2.2.2 x.2.2.1 y.2.2.1).mono fun e w' ⟨v, h1, h2, h3⟩ => ⟨by rw [h1, h3 x.2.1 y.2.1]; rfl, h2⟩)

theorem env_sb {w0 W : World} {blk off C : Nat} {d : Array FnRcd} (h : SB FnRcd.enc 6 50 w0 blk off C d W) (he : Env w0) (hb : 0 < blk) : Env W := by
  obtain ⟨m, hm⟩ := he
  refine ⟨m, ?_⟩
  rw [← hm]
  exact World.cell?_of_block (h.gr.block _ (cell_lt hm) (fun e => by injection e with e; have e' : 0 = blk := e; omega))

section
variable {P : Program} {α : Type} [Inhabited α]
set_option maxHeartbeats 4000000 in
set_option maxRecDepth 100000 in
theorem sorted_over {k : Nat} (L : SFacts P 24 50 62 k) (F : P.funcs[25]? = some Tryd.f25)
    (enc : α → List Value) (hk : ∀ x, (enc x).length = k) (h1 : ∀ x, ∀ v ∈ enc x, v.oneCell' = true) (cf : α → α → Int) (w0 W : World) (blk off C cap : Nat) (d : Array α) (h : SB enc k 50 w0 blk off C d W)
    (hC : ∀ dd X, SB enc k 50 w0 blk off C dd X → ∀ x y q os, Calls P 46 #[.agg (enc x).toArray, .agg (enc y).toArray] (grow (redrawn X q) os) fun e w'' => e = .returned (.bool (decide (cf x y < 0))) ∧ ∃ p : Regrown, w'' = grow (redrawn X p.d) p.os)
    (eg : ∀ args w, (callFunc 46 args).run P w = .ok (.enter 46 args) w) (hsz : d.size ≤ 100000) :
    Calls P 25 #[.slice (some ⟨blk, off, none⟩) d.size cap] W fun e w' => e = .returned (.slice (some ⟨blk, off, none⟩) d.size cap) ∧ SB enc k 50 w0 blk off C (insOuter (ltOf cf) 0 d.size 0 d) w' := by
  have mixed := L.mixed; have t0 := L.t0; have a0 := L.a0; have z0 := L.z0; have ti := L.ti; have ai := L.ai; have zi := L.zi; have vi := L.vi; have tb := L.tb; have ab := L.ab; have zb := L.zb; have tu := L.tu; have au := L.au; have zu := L.zu; have tS := L.tS; have aS := L.aS; have zS := L.zS; have aE := L.aE; have zE := L.zE; have tF := L.tF; have aF := L.aF; have zF := L.zF
  have HS := Lib.hid h
  have HK := Lib.hid hk
  have H1 := Lib.hid h1
  have HCC := Lib.hid hC
  clear h hk h1 hC
  go_enter F, Tryd.ntmps25
  go_wp2
  go_loopw [7] (fun s wr => ∃ (i : Nat) (dk : Array α), s = .int .i64 i ∧ i ≤ d.size ∧ dk.size = d.size ∧ Hid (insOuter (ltOf cf) 0 d.size i dk = insOuter (ltOf cf) 0 d.size 0 d ∧ SB enc k 50 w0 blk off C dk wr)) (fun s _ => d.size - (intOf s).toNat)
  case atStart => exact ⟨0, d, rfl, Nat.zero_le _, rfl, rfl, HS.out⟩
  case round =>
    obtain ⟨i, dk, rfl, hib, hsk, HO⟩ := hrel
    by_cases hlt : i < d.size
    · have hltz : (i : Int) < (d.size : Int) := by omega
      go_wp2
      go_loopw [4] (fun s wr => ∃ (j : Nat) (dj : Array α), s = .int .i64 j ∧ j ≤ i ∧ dj.size = d.size ∧ Hid (insInner (ltOf cf) 0 j dj = insInner (ltOf cf) 0 i dk ∧ SB enc k 50 w0 blk off C dj wr)) (fun s _ => (intOf s).toNat)
      case atStart => exact ⟨i, dk, rfl, Nat.le_refl _, hsk, rfl, HO.out.2⟩
      case round =>
        obtain ⟨j, dj, rfl, hji, hsj, HI⟩ := hrel
        have OUT : Hid ((j ≤ 0 ∨ ltOf cf dj[j]! dj[j - 1]! = false) → insOuter (ltOf cf) 0 d.size (i + 1) dj = insOuter (ltOf cf) 0 d.size 0 d) := fun hs => by
          rw [← HO.out.1, insOuter_go _ _ _ _ _ hlt, ← HI.out.1, insInner_stop _ _ _ _ hs]
        by_cases hja : 0 < j
        · obtain ⟨jp, rfl⟩ : ∃ jp, j = jp + 1 := ⟨j - 1, by omega⟩
          have hjaz' : (0 : Int) < (jp : Int) + 1 := by omega
          have dja : decide ((0 : Int) < (jp : Int) + 1) = true := decide_eq_true (by omega)
          have hwp : IntKind.i64.wrap (jp : Int) = (jp : Int) := by rw [IntKind.wrap_i64]; omega
          have jz : (jp : Int) + 1 < (d.size : Int) := by omega
          have jz1 : (jp : Int) < (d.size : Int) := by omega
          have p0 : (0 : Int) ≤ (jp : Int) + 1 := by omega
          have e0 : ((jp : Int) + 1).toNat = jp + 1 := by omega
          have lj := HI.out.2.lds HK.out P (i := jp + 1) (by omega)
          have lp := HI.out.2.lds HK.out P (i := jp) (by omega)
          obtain ⟨xj, hxj⟩ : ∃ x, dj[jp + 1]! = x := ⟨_, rfl⟩
          obtain ⟨xp, hxp⟩ : ∃ x, dj[jp]! = x := ⟨_, rfl⟩
          rw [hxj] at lj
          rw [hxp] at lp
          have HCG := Lib.hid (HCC.out _ _ HI.out.2 xj xp)
          have HXJ := Lib.hid hxj
          have HXP := Lib.hid hxp
          clear hxj hxp
          by_cases hlv : cf xj xp < 0
          · have dlv : decide (cf xj xp < 0) = true := by simp; omega
            go_wp2_with fail
            refine wp_region_quiet_below (by assumption) (by kernel_rfl) ?_
            repeat (first | go_big_quiet_step (exact HCG.out _ _) | quiet_step (exact HCG.out _ _))
            refine wpQuiet_nil ?_
            intro _ hw'
            obtain ⟨⟨dq, osq⟩, hw''⟩ := hw'
            subst hw''
            have hB5 := HI.out.2.below (below_regrown wr dq osq)
            clear lj lp
            generalize grow (redrawn wr dq) osq = W5 at hB5 ⊢
            have hB6 := hB5.drew
            have lj := hB6.load HK.out P (i := jp + 1) (by omega)
            have lp := hB6.load HK.out P (i := jp) (by omega)
            have s1 := hB6.st1 HK.out H1.out P (i := jp + 1) (by omega) dj[jp]!
            have s2 := hB6.st2 HK.out H1.out P (i := jp + 1) (j := jp) (by omega) (by omega) dj[jp]! dj[jp + 1]!
            have HN : Hid _ := hB6.swap HK.out (i := jp + 1) (j := jp) (by omega) (by omega)
            have q1 : (enc dj[jp + 1]!).length = k := HK.out _
            have q2 : (enc dj[jp]!).length = k := HK.out _
            clear hB6 hB5
            generalize enc dj[jp + 1]! = cj at lj lp s1 s2 HN q1 q2
            generalize enc dj[jp]! = cp at lj lp s1 s2 HN q1 q2
            go_wp2_with fail
            go_big_region_o
            all_goals go_wp2
            go_roundw
            case rel =>
              refine ⟨jp, swp dj (jp + 1) jp, by first | rfl | go_num | (congr 1; omega), by omega, by rw [size_swp]; exact hsj, ?_, HN.out⟩
              have := insInner_go (ltOf cf) 0 (jp + 1) dj hja (by simp only [Nat.add_sub_cancel]; rw [HXJ.out, HXP.out]; exact dlv)
              simp only [Nat.add_sub_cancel] at this
              rw [← HI.out.1, this]
            case measure => simp [intOf]
          · have dlv : decide (cf xj xp < 0) = false := by simp; omega
            go_wp2_with fail
            refine wp_region_quiet_below (by assumption) (by kernel_rfl) ?_
            repeat (first | go_big_quiet_step (exact HCG.out _ _) | quiet_step (exact HCG.out _ _))
            refine wpQuiet_nil ?_
            intro _ hw'
            obtain ⟨⟨dq, osq⟩, hw''⟩ := hw'
            subst hw''
            have HB5 := Lib.hid (HI.out.2.below (below_regrown wr dq osq))
            generalize grow (redrawn wr dq) osq = W5 at HB5 ⊢
            go_wp2
            go_roundw
            case rel => exact ⟨i + 1, dj, by go_num, by omega, hsj, OUT.out (Or.inr (by simp only [Nat.add_sub_cancel]; rw [HXJ.out, HXP.out]; exact dlv)), HB5.out⟩
            case measure => simp [intOf]; omega
        · have hj0 : j = 0 := by omega
          subst hj0
          have HB5 := Lib.hid HI.out.2.drew
          go_wp2_with fail
          go_big_region_o
          all_goals go_wp2
          go_roundw
          case rel => exact ⟨i + 1, dj, by go_num, by omega, hsj, OUT.out (Or.inl (Nat.le_refl _)), HB5.out⟩
          case measure => simp [intOf]; omega
    · have hltz : ¬ (i : Int) < (d.size : Int) := by omega
      go_wp2
      go_ret
      exact ⟨rfl, by rw [← HO.out.1, insOuter_stop _ _ _ _ _ hlt]; exact HO.out.2⟩
end

/-- What Sorted leaves: its own row, in order. -/
def SortedPost (w : World) (base : Nat) (v : Value) (l : List FnRcd) (e : Ending) (w' : World) : Prop :=
  e = .returned v ∧ ∃ l' : List FnRcd, l'.Perm l ∧ l'.Pairwise (fun a b => ¬ FnRcd.cmp b a < 0) ∧ w'.ownsRow base 50 6 v l.length (l'.flatMap FnRcd.enc) ∧ w.grownBy w' v.ownBlock
set_option maxHeartbeats 1000000 in
theorem refSorted_any (l : List FnRcd) (v : Value) (base : Nat) (w : World) (he : Env w) (hg : 0 < base) (hown : w.ownsRow base 50 6 v l.length (l.flatMap FnRcd.enc)) (hl : l.length ≤ 100000) :
    Calls Tryd.prog 25 #[v] w (SortedPost w base v l) := by
  by_cases h0 : l.length = 0
  · have hl0 : l = [] := List.eq_nil_of_length_eq_zero h0
    subst hl0
    have hv : ∃ A c, v = .slice A 0 c := by
      rcases hown.2 with ⟨rfl, -⟩ | ⟨g, cap, cur, rfl, -⟩
      · exact ⟨_, _, rfl⟩
      · exact ⟨_, _, rfl⟩
    obtain ⟨A, c, rfl⟩ := hv
    have HO := Lib.hid hown
    clear hown he
    go_enter Tryd.func25, Tryd.ntmps25
    go_wp2
    refine wp_loop_rounds 1 ?_
    rw [rounds_succ]
    go_wp2
    go_ret
    exact ⟨rfl, [], List.Perm.refl _, List.Pairwise.nil, HO.out, ⟨rfl, rfl, rfl, Nat.le_refl _, fun _ _ _ => rfl⟩⟩
  · have hd : l.toArray.size = l.length := by simp
    obtain ⟨g, cap, rfl, hb, h3, h4, hSB⟩ := own_sb (d := l.toArray) fnRcd_len (by rw [hd]; omega) (by rw [hd]; exact hown)
    rw [hd] at h3 ⊢
    have hX := sorted_over rcdFacts Tryd.func25 FnRcd.enc fnRcd_len fnRcd_one FnRcd.cmp w w g 0 (cap * 6) cap l.toArray hSB
      (fun dd X hh x y q os => before_at x y X (env_sb hh he (by omega)) q os) (enters_of Tryd.func46 (by kernel_rfl) rfl) (by omega)
    rw [hd] at hX
    refine hX.mono ?_
    rintro e w' ⟨rfl, k3⟩
    by_cases hn : 0 < l.length
    case neg => omega
    have hio : insOuter (ltOf FnRcd.cmp) 0 l.length 0 l.toArray = Sort.insertionSort (ltOf FnRcd.cmp) l.toArray 0 l.length := by
      unfold Sort.insertionSort
      rw [insOuter_go _ _ _ _ _ hn, insInner_stop _ _ _ _ (Or.inl (Nat.le_refl _))]
    rw [hio] at k3
    obtain ⟨k1, k2⟩ := insertionSort_holds (lt := ltOf FnRcd.cmp) fnRcd_tot.swo l.toArray 0 l.length (Nat.zero_le _) (by omega)
    generalize Sort.insertionSort (ltOf FnRcd.cmp) l.toArray 0 l.length = d' at k1 k2 k3
    have hs : d'.size = l.length := by rw [k1.1, hd]
    refine ⟨rfl, d'.toList, ?_, ?_, ?_, ?_⟩
    · have := k1.2.2
      rw [← hs, Array.extract_size, hs] at this
      rw [← hd, Array.extract_size] at this
      simpa using this
    · rw [List.pairwise_iff_getElem]
      intro i j hi hj hij
      have hi' : i < d'.size := by simpa using hi
      have hj' : j < d'.size := by simpa using hj
      have := k2 i j (Nat.zero_le _) hij (by omega)
      rw [getElem!_pos d' j hj', getElem!_pos d' i hi'] at this
      simpa [ltOf] using this
    · have := sb_own fnRcd_len hb (by rw [hs]; exact h3) h4 k3
      rw [hs] at this
      exact this
    · exact k3.gr
end Go.Proofs.YtmhmnchdhacdbaaDoor
/- The statements' copied: the walk. -/
namespace Go.Proofs.YtmhmnchdhacdbaaDoor
open Go.RowKit
set_option linter.unusedVariables false
set_option linter.unusedSimpArgs false

/-- What copied leaves: the same depot in memory of its own. -/
def CopPost (w : World) (d : Dep) (e : Ending) (w' : World) : Prop := ∃ dv dr, e = .returned (.agg #[dv, dr]) ∧ Below w.heap.size w w' ∧ Revs w' dv d.revs ∧ Rcds w' dr d.recs ∧ Fresh w.heap.size dv ∧ Fresh w.heap.size dr
theorem rev_ones (l : List Rev) : ∀ u ∈ l.flatMap Rev.cells, u.oneCell' = true := by
  intro u hu
  obtain ⟨x, -, hx⟩ := List.mem_flatMap.1 hu
  simp only [Rev.cells, List.mem_cons, List.not_mem_nil, or_false] at hx
  rcases hx with rfl | rfl | rfl | rfl | rfl | rfl | rfl | rfl | rfl | rfl | rfl | rfl <;> rfl
theorem nogrow {w w' : World} {row : Option Nat} (h : w.grownBy w' row) (hr : row = none) : Below w.heap.size w w' := ⟨h.os, h.tape, h.output, h.size, fun k hk => h.block k hk (by rw [hr]; exact fun e => by cases e)⟩
theorem own_fresh {w' : World} {B base : Nat} {e : TypeId} {size n : Nat} {v : Value} {xs : List Value} (h : w'.ownsRow base e size v n xs) (hB : B ≤ base) : Fresh B v := fun x hx => Nat.le_trans hB (h.lt x hx).1
set_option maxRecDepth 100000 in
set_option maxHeartbeats 8000000 in
theorem copied_any (d : Dep) (dv dr : Value) (w : World) (hR : Revs w dv d.revs) (hQ : Rcds w dr d.recs) (hl : d.revs.length ≤ 100000) (hl2 : d.recs.length ≤ 100000) :
    Calls Tryd.prog 9 #[.agg #[dv, dr]] w (CopPost w d) := by
  obtain ⟨A1, c1, rfl, -⟩ := id hR
  obtain ⟨A2, c2, rfl, -⟩ := id hQ
  have HR := Lib.hid hR
  have HQ := Lib.hid hQ
  clear hR hQ
  have hb0 : Below w.heap.size w ((w.alloc (.cells #[.slice A1 d.revs.length c1, .slice A2 d.recs.length c2] 31)).alloc (.cells #[.slice none 0 0, .slice none 0 0] 31)) := ((Below.refl _ _).alloc (Nat.le_refl _) _).alloc (by simp) _
  have hD1 : Blk ((w.alloc (.cells #[.slice A1 d.revs.length c1, .slice A2 d.recs.length c2] 31)).alloc (.cells #[.slice none 0 0, .slice none 0 0] 31)) w.heap.size 31 [.slice A1 d.revs.length c1, .slice A2 d.recs.length c2] := (blk_new w _ _).alloc _
  have hD2 : Blk ((w.alloc (.cells #[.slice A1 d.revs.length c1, .slice A2 d.recs.length c2] 31)).alloc (.cells #[.slice none 0 0, .slice none 0 0] 31)) (w.heap.size + 1) 31 [.slice none 0 0, .slice none 0 0] := by
    have h := blk_new (w.alloc (.cells #[.slice A1 d.revs.length c1, .slice A2 d.recs.length c2] 31)) [.slice none 0 0, .slice none 0 0] 31
    simp only [World.size_alloc] at h
    exact h
  go_enter Tryd.func9, Tryd.ntmps9
  go_upto_region 1 with fail
  generalize (w.alloc (.cells #[.slice A1 d.revs.length c1, .slice A2 d.recs.length c2] 31)).alloc (.cells #[.slice none 0 0, .slice none 0 0] 31) = V at hb0 hD1 hD2 ⊢
  have Hb0 := Lib.hid hb0
  have HD1 := Lib.hid hD1
  have HD2 := Lib.hid hD2
  have HR1 := Lib.hid (HR.out.below hb0)
  have HQ1 := Lib.hid (HQ.out.below hb0)
  have hf : ∀ X, Below V.heap.size V X → X.cell? ⟨w.heap.size, 0, none⟩ = some (.slice A1 d.revs.length c1) ∧ X.cell? ⟨w.heap.size, 1, none⟩ = some (.slice A2 d.recs.length c2) ∧ X.cell? ⟨w.heap.size + 1, 0, none⟩ = some (.slice none 0 0) ∧ X.cell? ⟨w.heap.size + 1, 1, none⟩ = some (.slice none 0 0) ∧ X.frozen? ⟨w.heap.size + 1, 0, none⟩ = false ∧ X.frozen? ⟨w.heap.size + 1, 1, none⟩ = false := fun X hX => by
    have h1 := HD1.out.below hX HD1.out.lt
    have h2 := HD2.out.below hX HD2.out.lt
    exact ⟨h1.cell 0, h1.cell 1, h2.cell 0, h2.cell 1, h2.frozen 0, h2.frozen 1⟩
  have HF := Lib.hid hf
  clear hb0 hD1 hD2 hf
  obtain ⟨f0, f1, f2, f3, f4, f5⟩ := HF.out V (Below.refl _ _)
  refine wp_region_noPanic ?_
  go_region_law (first
    | (refine step_app (base := V.heap.size) (n := 0) (xs := []) rfl rfl revElem (World.ownsRow_nil _ _ _ _) (by simp [Act.eval, Act.put]; done) (HR1.out.below (by repeat (first | with_reducible exact Below.refl _ _ | with_reducible assumption | with_reducible refine Below.drew ?_))) (by simp [Act.eval, Act.put]; done) (rev_ones _) (by omega) (by unfold maxLen; omega) (Below.size (B := V.heap.size) (w := V) (by repeat (first | with_reducible exact Below.refl _ _ | with_reducible assumption | with_reducible refine Below.drew ?_))) ?_; intro A5 c5 w5 hO5 hG5 hw5; have hX5 := nogrow hG5 rfl; have hS5 : Below V.heap.size V w5 := below_next (by repeat (first | with_reducible exact Below.refl _ _ | with_reducible assumption | with_reducible refine Below.drew ?_)) hX5; obtain ⟨f6, f7, f8, f9, f10, f11⟩ := HF.out w5 hS5; rw [Nat.zero_add, List.nil_append] at hO5)
    | (refine step_app (base := V.heap.size) (n := 0) (xs := []) rfl rfl rcdElem (World.ownsRow_nil _ _ _ _) (by simp [Act.eval, Act.put]; done) (HQ1.out.below (by repeat (first | with_reducible exact Below.refl _ _ | with_reducible assumption | with_reducible refine Below.drew ?_))) (by simp [Act.eval, Act.put]; done) (rcd_one _) (by omega) (by unfold maxLen; omega) (Below.size (B := V.heap.size) (w := V) (by repeat (first | with_reducible exact Below.refl _ _ | with_reducible assumption | with_reducible refine Below.drew ?_))) ?_; intro A6 c6 w6 hO6 hG6 hw6; have hX6 := nogrow hG6 rfl; have hS6 : Below V.heap.size V w6 := below_next (by repeat (first | with_reducible exact Below.refl _ _ | with_reducible assumption | with_reducible refine Below.drew ?_)) hX6; obtain ⟨f16, f17, f18, f19, f20, f21⟩ := HF.out w6 hS6; rw [Nat.zero_add, List.nil_append] at hO6))
  all_goals
    refine NoPanic.normal ?_
    go_wp2_with fail
    first
      | (have a5 := own_below hO5 hX6; have a6 := hO6; have hS := hS6)
      | (have a6 := own_below hO6 hX5; have a5 := hO5; have hS := hS5)
    have hD := HD2.out.below hS HD2.out.lt
    have hZ := (hD.set_ 0 (.slice A5 d.revs.length c5)).set_ 1 (.slice A6 d.recs.length c6)
    have hVw := Hb0.out.size
    have hlt := HD2.out.lt
    have hB := ((below_next Hb0.out hS).setCell (p := ⟨w.heap.size + 1, 0, none⟩) (by simp) (.slice A5 d.revs.length c5)).setCell (p := ⟨w.heap.size + 1, 1, none⟩) (by simp) (.slice A6 d.recs.length c6)
    have n5 : (Value.slice A5 d.revs.length c5).ownBlock ≠ some (w.heap.size + 1) := fun e => by have := (a5.lt _ e).1; omega
    have n6 : (Value.slice A6 d.recs.length c6).ownBlock ≠ some (w.heap.size + 1) := fun e => by have := (a6.lt _ e).1; omega
    have k5 := Row.of_own (own_setCell (own_setCell a5 (p := ⟨w.heap.size + 1, 0, none⟩) n5 (.slice A5 d.revs.length c5)) (p := ⟨w.heap.size + 1, 1, none⟩) n5 (.slice A6 d.recs.length c6))
    have k6 := Row.of_own (own_setCell (own_setCell a6 (p := ⟨w.heap.size + 1, 0, none⟩) n6 (.slice A5 d.revs.length c5)) (p := ⟨w.heap.size + 1, 1, none⟩) n6 (.slice A6 d.recs.length c6))
    obtain ⟨e0, e1, -, -⟩ := box2 hZ
    refine bodyPost_ret (v := .agg #[.slice A5 d.revs.length c5, .slice A6 d.recs.length c6]) (by simp [results, Tryd.results9, go_sem, e0, e1]) rfl ?_
    exact ⟨_, _, rfl, hB, k5, k6, own_fresh a5 hVw, own_fresh a6 hVw⟩
end Go.Proofs.YtmhmnchdhacdbaaDoor
/- The reference's Append: the regions that append. -/
namespace Go.Proofs.YtmhmnchdhacdbaaDoor
open Go.RowKit
set_option linter.unusedVariables false
set_option linter.unusedSimpArgs false

theorem ApR.put2 {V wr w7 : World} {g7 : Nat} {v1 v2 v3 : Value} {n m m' : Nat} {xs ys ys' : List Value} (h : ApR V wr g7 v1 v2 n m xs ys) (hX : Below wr.heap.size wr w7) (ho : w7.ownsRow wr.heap.size 50 6 v3 m' ys') :
    ApR V (w7.setCell ⟨g7, 1, none⟩ v3) g7 v1 v3 n m' xs ys' := by
  have l1 := h.one.lt
  have lb := h.box.lt
  have l3 := ho.lt
  have n3 : v3.ownBlock ≠ some g7 := fun e => by have := (l3 _ e).1; omega
  have hs := h.bel.size
  refine ⟨(below_next h.bel hX).setCell (p := ⟨g7, 1, none⟩) h.le _, h.le, (h.box.below hX lb).set_ 1 v3, own_setCell (own_below h.one hX) (p := ⟨g7, 1, none⟩) h.ne1 _, own_mono (own_setCell ho (p := ⟨g7, 1, none⟩) n3 _) hs, h.ne1, n3, ?_⟩
  intro x e1 e2
  have := l1 _ e1
  have := l3 _ e2
  omega
set_option maxRecDepth 100000 in
set_option maxHeartbeats 8000000 in
theorem raR9 (ops : Array Oper) (hops : Tryd.f11.body.bind (regAt 9) = some ops) (Q : Exit → Act → World → Prop) (g3 g7 g9 n m : Nat) (num : Int) (cl tx : ByteArray) (Ae Ac : Option Addr) (ne nc ce cc : Nat) (x : Edt) (r : Rev) (v1 v2 : Value) (xs ys : List Value) (V V1 : World)
    (hR : ApR V V1 g7 v1 v2 n m xs ys) (hB : Blk V1 g9 48 [.string x.path, .int .i64 x.act, .int .i64 x.ty.base, .bool x.ty.k, .bool x.ty.l, .bool x.ty.x, .int .u64 x.sum, .int .i64 x.size, .int .i64 x.base, .string x.frm, .int .i64 x.fnum, .int .i64 x.fence]) (hC : Blk V1 g3 26 [.int .i64 num, .string cl, .string tx, .slice Ae ne ce, .slice Ac nc cc]) (hn : n ≤ 100000)
    (hrev : ∀ X, Below V1.heap.size V1 X → Calls Tryd.prog 24 #[.agg #[.int .i64 num, .string cl, .string tx, .slice Ae ne ce, .slice Ac nc cc], .agg #[.string x.path, .int .i64 x.act, .int .i64 x.ty.base, .bool x.ty.k, .bool x.ty.l, .bool x.ty.x, .int .u64 x.sum, .int .i64 x.size, .int .i64 x.base, .string x.frm, .int .i64 x.fnum, .int .i64 x.fence]] X fun e w' => e = .returned (.agg #[.string r.path, .int .i64 r.num, .int .i64 r.chg, .int .i64 r.act, .int .i64 r.ty.base, .bool r.ty.k, .bool r.ty.l, .bool r.ty.x, .int .u64 r.sum, .int .i64 r.size, .string r.frm, .int .i64 r.fnum]) ∧ Below X.heap.size X w')
    (u0 u1 u2 u4 u5 u6 u8 u10 u11 u12 u13 u14 u15 u16 u17 u18 u19 u20 u21 u22 u23 u24 u25 u26 u27 u28 u29 u30 u31 u32 u33 u34 u35 u36 u37 u38 u39 u40 u41 u42 u43 u44 u45 u46 u47 u48 u49 : Value)
    (hQ : ∀ (t30 t31 t32 t33 t34 t35 t36 t37 : Value) (v3 : Value) (w' : World), Hid (ApR V w' g7 v3 v2 (n + 1) m (xs ++ [.string r.path, .int .i64 r.num, .int .i64 r.chg, .int .i64 r.act, .int .i64 r.ty.base, .bool r.ty.k, .bool r.ty.l, .bool r.ty.x, .int .u64 r.sum, .int .i64 r.size, .string r.frm, .int .i64 r.fnum]) ys) → Q .normal ⟨#[u0, u1, u2, .pointer (some ⟨g3, 0, none⟩), u4, u5, u6, .pointer (some ⟨g7, 0, none⟩), u8, .pointer (some ⟨g9, 0, none⟩), u10, u11, u12, u13, u14, u15, u16, u17, u18, u19, u20, u21, u22, u23, u24, u25, u26, u27, u28, u29, t30, t31, t32, t33, t34, t35, t36, t37, u38, u39, u40, u41, u42, u43, u44, u45, u46, u47, u48, u49], []⟩ w') :
    (Code.region 9 ops true).wp Tryd.prog Q ⟨#[u0, u1, u2, .pointer (some ⟨g3, 0, none⟩), u4, u5, u6, .pointer (some ⟨g7, 0, none⟩), u8, .pointer (some ⟨g9, 0, none⟩), u10, u11, u12, u13, u14, u15, u16, u17, u18, u19, u20, u21, u22, u23, u24, u25, u26, u27, u28, u29, u30, u31, u32, u33, u34, u35, u36, u37, u38, u39, u40, u41, u42, u43, u44, u45, u46, u47, u48, u49], []⟩ V1 := by
  simp only [Tryd.f11, Option.bind_some, regAt] at hops
  simp at hops
  subst hops
  obtain ⟨A1, c1, hv1⟩ := own_slice hR.one
  subst hv1
  have HQ := Lib.hid hQ
  have HR := Lib.hid hR
  have HB := Lib.hid hB
  have HC := Lib.hid hC
  have HRV2 := Lib.hid hrev
  clear hQ hR hB hrev hC
  have f0 : V1.cell? ⟨g7, 0, none⟩ = some (.slice A1 n c1) := HR.out.box.cell 0
  obtain ⟨c0, c1', c2, c3, c4, c5, c6, c7, c8, c9, c10, c11⟩ := box12 HB.out
  obtain ⟨k0, k1, k2, k3, k4⟩ := box5 HC.out
  refine wp_region_noPanic ?_
  go_region_law (first
    | (refine step_app rfl rfl revElem (own_below (own_below HR.out.one hS5) ((Below.refl _ _).alloc (Nat.le_refl _) _)) (by simp [Act.eval, Act.put]) (row_new w5 [.string r.path, .int .i64 r.num, .int .i64 r.chg, .int .i64 r.act, .int .i64 r.ty.base, .bool r.ty.k, .bool r.ty.l, .bool r.ty.x, .int .u64 r.sum, .int .i64 r.size, .string r.frm, .int .i64 r.fnum] _ 12 1 rfl (by decide) _ rfl) (by simp [Act.eval, Act.put]) (by simp [Value.oneCell']) (by omega) (by unfold maxLen; omega) (by have := hS5.size; have := HR.out.bel.size; simp; omega) ?_; intro A6 c6' w6 hO6 hG6 hw6; have hbx := (HR.out.box.below (below_next hS5 ((Below.refl _ _).alloc (Nat.le_refl _) _)) HR.out.box.lt).grown hG6 (fun e => HR.out.ne1 e.symm); obtain ⟨b0, b1, g0, g1⟩ := box2 hbx)
    | (go_simp; go_at_call 24; refine (HRV2.out _ (Below.refl _ _).drew).mono ?_; rintro e w5 ⟨rfl, hX5⟩; have hS5 : Below V1.heap.size V1 w5 := (Below.refl _ _).drew.trans hX5; have f5 : w5.cell? ⟨g7, 0, none⟩ = some (.slice A1 n c1) := (HR.out.box.below hS5 HR.out.box.lt).cell 0; have f6 : (w5.alloc (.cells #[.string r.path, .int .i64 r.num, .int .i64 r.chg, .int .i64 r.act, .int .i64 r.ty.base, .bool r.ty.k, .bool r.ty.l, .bool r.ty.x, .int .u64 r.sum, .int .i64 r.size, .string r.frm, .int .i64 r.fnum] 45)).cell? ⟨g7, 0, none⟩ = some (.slice A1 n c1) := (HR.out.box.below (hS5.alloc hS5.size _) HR.out.box.lt).cell 0))
  all_goals exact NoPanic.normal (HQ.out _ _ _ _ _ _ _ _ _ _ (HR.out.push (below_next hS5 ((Below.refl _ _).alloc (Nat.le_refl _) _)) hO6 hG6 hw6))
end Go.Proofs.YtmhmnchdhacdbaaDoor
/- The reference's Append: the region of the records. -/
namespace Go.Proofs.YtmhmnchdhacdbaaDoor
open Go.RowKit
set_option linter.unusedVariables false
set_option linter.unusedSimpArgs false

/-- What Sorted leaves of a row of records. -/
def SoR (w6 w7 : World) (base : Nat) (v : Value) (rs : List Rcd) : Prop := ∃ l : List Rcd, l.Perm rs ∧ l.Pairwise (fun a b => 0 ≤ cmpR b a) ∧ w7.ownsRow base 50 6 v rs.length (l.flatMap Rcd.cells) ∧ w6.grownBy w7 v.ownBlock
theorem fine_list : ∀ {rs : List Rcd}, (∀ r ∈ rs, r.fine) → ∃ l : List FnRcd, l.map (·.1) = rs
  | [], _ => ⟨[], rfl⟩
  | r :: rs, h => by
    obtain ⟨l, hl⟩ := fine_list (rs := rs) fun x hx => h x (List.mem_cons_of_mem _ hx)
    exact ⟨⟨r, h r (List.mem_cons_self ..)⟩ :: l, by rw [List.map_cons, hl]⟩
theorem fine_enc (l : List FnRcd) : l.flatMap FnRcd.enc = (l.map (·.1)).flatMap Rcd.cells := by
  induction l with
  | nil => rfl
  | cons a l ih => rw [List.flatMap_cons, List.map_cons, List.flatMap_cons, ih]; rfl
theorem sorted_recs (rs : List Rcd) (hf : ∀ r ∈ rs, r.fine) (v : Value) (base : Nat) (w6 : World) (he : Env w6) (hg : 0 < base) (hown : w6.ownsRow base 50 6 v rs.length (rs.flatMap Rcd.cells)) (hl : rs.length ≤ 100000) :
    Calls Tryd.prog 25 #[v] w6 fun e w7 => e = .returned v ∧ SoR w6 w7 base v rs := by
  obtain ⟨l, rfl⟩ := fine_list hf
  rw [List.length_map] at hown hl
  rw [← fine_enc] at hown
  refine (refSorted_any l v base w6 he hg hown hl).mono ?_
  rintro e w7 ⟨rfl, l', h1, h2, h3, h4⟩
  refine ⟨rfl, l'.map (·.1), h1.map _, ?_, ?_, h4⟩
  · rw [List.pairwise_map]
    refine h2.imp ?_
    intro a b h
    have : ¬ cmpR b.1 a.1 < 0 := h
    omega
  · rw [List.length_map, ← fine_enc]; exact h3
set_option maxRecDepth 100000 in
set_option maxHeartbeats 8000000 in
theorem raR11 (ops : Array Oper) (hops : Tryd.f11.body.bind (regAt 11) = some ops) (Q : Exit → Act → World → Prop) (g2 g3 g7 n : Nat) (num : Int) (cl tx : ByteArray) (Aq Ac Ae : Option Addr) (ne cq cc ce : Nat) (ds cs : List Rcd) (v0 v1 : Value) (xs : List Value) (V V1 : World)
    (hR : ApR V V1 g7 v1 (.slice none 0 0) n 0 xs []) (hD : Blk V1 g2 31 [v0, .slice Aq ds.length cq]) (hC : Blk V1 g3 26 [.int .i64 num, .string cl, .string tx, .slice Ae ne ce, .slice Ac cs.length cc]) (hQd : Rcds V1 (.slice Aq ds.length cq) ds) (hQc : Rcds V1 (.slice Ac cs.length cc) cs)
    (hf : ∀ r ∈ ds ++ cs, r.fine) (he : Env V1) (hl1 : ds.length ≤ 1000) (hl2 : cs.length ≤ 1000)
    (u0 u1 u4 u5 u6 u8 u9 u10 u11 u12 u13 u14 u15 u16 u17 u18 u19 u20 u21 u22 u23 u24 u25 u26 u27 u28 u29 u30 u31 u32 u33 u34 u35 u36 u37 u38 u39 u40 u41 u42 u43 u44 u45 u46 u47 u48 u49 : Value)
    (hQ : ∀ (t39 t40 t41 t42 t43 t44 t45 t46 t47 t48 : Value) (v3 : Value) (l : List Rcd) (w' : World), Hid (ApR V w' g7 v1 v3 n (ds.length + cs.length) xs (l.flatMap Rcd.cells) ∧ l.Perm (ds ++ cs) ∧ l.Pairwise (fun a b => 0 ≤ cmpR b a)) → Q .normal ⟨#[u0, u1, .pointer (some ⟨g2, 0, none⟩), .pointer (some ⟨g3, 0, none⟩), u4, u5, u6, .pointer (some ⟨g7, 0, none⟩), u8, u9, u10, u11, u12, u13, u14, u15, u16, u17, u18, u19, u20, u21, u22, u23, u24, u25, u26, u27, u28, u29, u30, u31, u32, u33, u34, u35, u36, u37, u38, t39, t40, t41, t42, t43, t44, t45, t46, t47, t48, u49], []⟩ w') :
    (Code.region 11 ops true).wp Tryd.prog Q ⟨#[u0, u1, .pointer (some ⟨g2, 0, none⟩), .pointer (some ⟨g3, 0, none⟩), u4, u5, u6, .pointer (some ⟨g7, 0, none⟩), u8, u9, u10, u11, u12, u13, u14, u15, u16, u17, u18, u19, u20, u21, u22, u23, u24, u25, u26, u27, u28, u29, u30, u31, u32, u33, u34, u35, u36, u37, u38, u39, u40, u41, u42, u43, u44, u45, u46, u47, u48, u49], []⟩ V1 := by
  simp only [Tryd.f11, Option.bind_some, regAt] at hops
  simp at hops
  subst hops
  have HQ := Lib.hid hQ
  have HR := Lib.hid hR
  have HQD := Lib.hid hQd
  have HQC := Lib.hid hQc
  have hmx : 0 < V1.heap.size := by obtain ⟨m, hm⟩ := he; exact cell_lt hm
  have HSO := Lib.hid (fun A6 c6 w6 (hX : Below V1.heap.size V1 w6) (hO : w6.ownsRow V1.heap.size 50 6 (.slice A6 (ds.length + cs.length) c6) (ds.length + cs.length) (ds.flatMap Rcd.cells ++ cs.flatMap Rcd.cells)) => sorted_recs (ds ++ cs) hf (.slice A6 (ds.length + cs.length) c6) V1.heap.size w6 (he.below hX) hmx (by rw [List.length_append, List.flatMap_append]; exact hO) (by rw [List.length_append]; omega))
  have HFF : Hid (∀ w', Below V1.heap.size V1 w' → w'.cell? ⟨g2, 1, none⟩ = some (.slice Aq ds.length cq) ∧ w'.cell? ⟨g3, 4, none⟩ = some (.slice Ac cs.length cc) ∧ w'.cell? ⟨g7, 1, none⟩ = some (.slice none 0 0) ∧ w'.frozen? ⟨g7, 1, none⟩ = false) := Lib.hid fun w' hb => by
    obtain ⟨-, a, -, -⟩ := box2 (hD.below hb hD.lt)
    obtain ⟨-, -, -, -, b⟩ := box5 (hC.below hb hC.lt)
    obtain ⟨-, c, -, d⟩ := box2 (hR.box.below hb hR.box.lt)
    exact ⟨a, b, c, d⟩
  clear hQ hR hD hC hQd hQc hf he hmx
  obtain ⟨f0, f1, f2, f3⟩ := HFF.out V1 (Below.refl _ _)
  refine wp_region_noPanic ?_
  go_region_law (first
    | (refine step_app (base := V1.heap.size) (n := 0) (xs := []) rfl rfl rcdElem (World.ownsRow_nil _ _ _ _) (by simp [Act.eval, Act.put]; done) (HQD.out.below (Below.refl _ _).drew) (by simp [Act.eval, Act.put]; done) (rcd_one _) (by omega) (by unfold maxLen; omega) (Below.size (B := V1.heap.size) (w := V1) (Below.refl _ _).drew) ?_; intro A5 c5 w5 hO5 hG5 hw5; have hX5 := nogrow hG5 rfl; have hS5 : Below V1.heap.size V1 w5 := below_next (Below.refl _ _).drew hX5; obtain ⟨f4, f5, f6, f7⟩ := HFF.out w5 hS5; rw [Nat.zero_add, List.nil_append] at hO5)
    | (refine step_app rfl rfl rcdElem hO5 (by simp [Act.eval, Act.put]; done) (HQC.out.below hS5) (by simp [Act.eval, Act.put]; done) (rcd_one _) (by omega) (by unfold maxLen; omega) hS5.size ?_; intro A6 c6 w6 hO6 hG6 hw6; have hS6 : Below V1.heap.size V1 w6 := hS5.grown hG6 hS5.size (fun k e => (hO5.lt k e).1); obtain ⟨f8, f9, f10, f11⟩ := HFF.out w6 hS6)
    | (go_simp; go_at_call 25; refine (HSO.out A6 c6 w6 hS6 hO6).mono ?_; rintro e w7 ⟨rfl, l, hp, hpw, hO7, hG7⟩; have hS7 : Below V1.heap.size V1 w7 := hS6.grown hG7 hS6.size (fun k e => (hO6.lt k e).1); obtain ⟨f12, f13, f14, f15⟩ := HFF.out w7 hS7; rw [List.length_append] at hO7))
  all_goals exact NoPanic.normal (HQ.out _ _ _ _ _ _ _ _ _ _ _ _ _ ⟨HR.out.put2 hS7 hO7, hp, hpw⟩)
end Go.Proofs.YtmhmnchdhacdbaaDoor
/- The reference's Append: the walk. -/
namespace Go.Proofs.YtmhmnchdhacdbaaDoor
open Go.RowKit
set_option linter.unusedVariables false
set_option linter.unusedSimpArgs false

theorem made_take (f : Edt → Rev) (es : List Edt) (k : Nat) (h : k < es.length) : ((es.take (k + 1)).map f).flatMap Rev.cells = ((es.take k).map f).flatMap Rev.cells ++ (f es[k]).cells := by
  rw [List.take_succ_eq_append_getElem h, List.map_append, List.flatMap_append, List.map_cons, List.map_nil, List.flatMap_cons, List.flatMap_nil, List.append_nil]
theorem newRevs_cells (d : Dep) (c : Chg) : (newRevs d c).flatMap Rev.cells = d.revs.flatMap Rev.cells ++ (c.edits.map (madeR (lastOf d.revs) c.num)).flatMap Rev.cells := by
  unfold newRevs; rw [List.flatMap_append]
theorem newRevs_len (d : Dep) (c : Chg) : (newRevs d c).length = d.revs.length + c.edits.length := by
  unfold newRevs; rw [List.length_append, List.length_map]
/-- What the reference's Append stands on. -/
structure RaB (d : Dep) (c : Chg) : Prop where
  ck : CkB d c
  fd : ∀ r ∈ d.recs, r.frm.size ≤ 2000000 ∧ r.to.size ≤ 2000000
/-- The result while it is made. -/
def RaI (V wr : World) (g7 : Nat) (d : Dep) (c : Chg) (k : Nat) : Prop := ∃ v1, ApR V wr g7 v1 (.slice none 0 0) (d.revs.length + k) 0 (d.revs.flatMap Rev.cells ++ ((c.edits.take k).map (madeR (lastOf d.revs) c.num)).flatMap Rev.cells) []
set_option maxRecDepth 100000 in
set_option maxHeartbeats 8000000 in
theorem refAppend_any (d : Dep) (c : Chg) (dv dr ev rv : Value) (w : World) (hb : RaB d c) (he : Env w) (hR : Revs w dv d.revs) (hQ : Rcds w dr d.recs) (hE : Edts w ev c.edits) (hC : Rcds w rv c.recs) :
    Calls Tryd.prog 11 #[.agg #[dv, dr], .agg #[.int .i64 c.num, .string c.client, .string c.text, ev, rv]] w (ApPost w d c) := by
  obtain ⟨Ar, cr, rfl, -⟩ := id hR
  obtain ⟨Aq, cq, rfl, -⟩ := id hQ
  obtain ⟨Ae, ce, rfl, -⟩ := id hE
  obtain ⟨Ac, cc, rfl, -⟩ := id hC
  have HEN := Lib.hid he
  have HR := Lib.hid hR
  have HQ := Lib.hid hQ
  have HE := Lib.hid hE
  have HC := Lib.hid hC
  have HB := Lib.hid hb
  have bl1 := hb.ck.el
  have bl2 := hb.ck.rl
  have bl3 : d.revs.length ≤ 512 := hb.ck.dw.len
  have bl4 : d.recs.length ≤ 512 := hb.ck.dw.rlen
  clear he hR hQ hE hC hb
  obtain ⟨W1, hW1⟩ : ∃ W, W = ((w.alloc (.cells #[.slice Ar d.revs.length cr, .slice Aq d.recs.length cq] 31)).alloc (.cells #[.int .i64 c.num, .string c.client, .string c.text, .slice Ae c.edits.length ce, .slice Ac c.recs.length cc] 26)).alloc (.cells #[.slice none 0 0, .slice none 0 0] 31) := ⟨_, rfl⟩
  have hb1 : Below w.heap.size w W1 := by rw [hW1]; exact (((Below.refl _ _).alloc (Nat.le_refl _) _).alloc (by simp) _).alloc (by simp; omega) _
  have hD1 : Blk W1 w.heap.size 31 [.slice Ar d.revs.length cr, .slice Aq d.recs.length cq] := by rw [hW1]; exact ((blk_new w _ _).alloc _).alloc _
  have hC1 : Blk W1 (w.heap.size + 1) 26 [.int .i64 c.num, .string c.client, .string c.text, .slice Ae c.edits.length ce, .slice Ac c.recs.length cc] := by
    rw [hW1]
    have := blk_new (w.alloc (.cells #[.slice Ar d.revs.length cr, .slice Aq d.recs.length cq] 31)) [.int .i64 c.num, .string c.client, .string c.text, .slice Ae c.edits.length ce, .slice Ac c.recs.length cc] 26
    simp only [World.size_alloc] at this
    exact this.alloc _
  have hZ1 : Blk W1 (w.heap.size + 1 + 1) 31 [.slice none 0 0, .slice none 0 0] := by
    rw [hW1]
    have := blk_new ((w.alloc (.cells #[.slice Ar d.revs.length cr, .slice Aq d.recs.length cq] 31)).alloc (.cells #[.int .i64 c.num, .string c.client, .string c.text, .slice Ae c.edits.length ce, .slice Ac c.recs.length cc] 26)) [.slice none 0 0, .slice none 0 0] 31
    simp only [World.size_alloc] at this
    exact this
  have HW1 := Lib.hid hW1
  have Hb1 := Lib.hid hb1
  have HD1 := Lib.hid hD1
  have HC1 := Lib.hid hC1
  have HZ1 := Lib.hid hZ1
  have HCK := Lib.hid (refCheckD_any d c Ar Aq Ae Ac cr cq ce cc W1 HB.out.ck (HEN.out.below hb1) (HR.out.below hb1) (HE.out.below hb1) (HC.out.below hb1))
  clear hW1 hb1 hD1 hC1 hZ1
  go_enter Tryd.func11, Tryd.ntmps11
  go_upto_region 1 with fail
  rw [← HW1.out]
  obtain ⟨d0, d1, -, -⟩ := box2 HD1.out
  obtain ⟨k0, k1, k2, k3, k4⟩ := box5 HC1.out
  go_wp2_with fail
  refine HCK.out.mono ?_
  rintro e w2 ⟨rfl, hb2⟩
  have HB2 := Lib.hid hb2
  clear hb2 d0 d1 k0 k1 k2 k3 k4 HCK
  have HF := Lib.hid (fun (W : World) (n : Int) (hb : Below w.heap.size w W) (hn : n ≠ 0) (he : appE d c = n) => (⟨hb, .inl ⟨by rw [he]; exact hn, by rw [he]⟩⟩ : ApPost w d c (.returned (.tuple #[.agg #[.slice none 0 0, .slice none 0 0], .int .i64 n])) W))
  by_cases h0 : appE d c = 0
  case neg =>
    obtain ⟨e0, he0⟩ : ∃ x, appE d c = x := ⟨_, rfl⟩
    rw [he0] at h0 ⊢
    have HA := Lib.hid he0
    have q : (e0 != 0) = true := by simpa using h0
    have HN := Lib.hid h0
    clear h0 he0
    have hR4 := HZ1.out.below HB2.out HZ1.out.lt
    obtain ⟨r0, r1, f0, f1⟩ := box2 hR4
    have HBX := Lib.hid (below_next Hb1.out HB2.out)
    go_wp2_with fail
    have hR5 := (hR4.set_ 0 (.slice none 0 0)).set_ 1 (.slice none 0 0)
    have hB5 := (HBX.out.setCell (p := ⟨w.heap.size + 1 + 1, 0, none⟩) (by simp; omega) (.slice none 0 0)).setCell (p := ⟨w.heap.size + 1 + 1, 1, none⟩) (by simp; omega) (.slice none 0 0)
    clear r0 r1 f0 f1 hR4
    generalize (w2.setCell ⟨w.heap.size + 1 + 1, 0, none⟩ (.slice none 0 0)).setCell ⟨w.heap.size + 1 + 1, 1, none⟩ (.slice none 0 0) = W5 at hR5 hB5 ⊢
    obtain ⟨r0, r1, -, -⟩ := box2 hR5
    refine bodyPost_ret (v := .tuple #[.agg #[.slice none 0 0, .slice none 0 0], .int .i64 e0]) (by simp [results, Tryd.results11, go_sem, r0, r1]) rfl (HF.out W5 e0 hB5 HN.out HA.out)
  have H0 := Lib.hid h0
  rw [h0]
  have hel : c.edits.length ≤ 64 := (sizeE_zero (appE_zero h0).1).2.1
  clear h0 HF
  have hO7 := blk_new w2 [.slice none 0 0, .slice none 0 0] 31
  have hA3 : Below w2.heap.size w2 (w2.alloc (.cells #[.slice none 0 0, .slice none 0 0] 31)) := (Below.refl _ _).alloc (Nat.le_refl _) _
  go_upto_region 5 with fail
  generalize w2.alloc (.cells #[.slice none 0 0, .slice none 0 0] 31) = w3 at hO7 hA3 ⊢
  have hW3 := below_next HB2.out hA3
  obtain ⟨d0, d1, -, -⟩ := box2 (HD1.out.below hW3 HD1.out.lt)
  obtain ⟨p0, p1, p2, p3⟩ := box2 hO7
  have hRW := HR.out.below (below_next Hb1.out hW3)
  have HO7 := Lib.hid hO7
  have HA3 := Lib.hid hA3
  have HRW := Lib.hid hRW
  clear hO7 hA3 hW3 hRW
  go_upto_region 6 with (at_builtin; refine wpList_app (base := w3.heap.size) (n := 0) (xs := []) rfl rfl revElem (World.ownsRow_nil _ _ _ _) rfl HRW.out rfl (rev_ones _) (by omega) (by unfold maxLen; omega) (Nat.le_refl _) ?_; intro A5 c5 w5 hO5 hG5 hw5; have hX5 := nogrow hG5 rfl; obtain ⟨t0, t1, t2, t3⟩ := box2 (HO7.out.below hX5 HO7.out.lt))
  rw [Nat.zero_add, List.nil_append] at hO5
  have hAP : RaI w2 (w5.setCell ⟨w2.heap.size, 0, none⟩ (.slice A5 d.revs.length c5)) w2.heap.size d c 0 := by
    have hlt := HO7.out.lt
    have n5 : (Value.slice A5 d.revs.length c5).ownBlock ≠ some w2.heap.size := fun e => by have := (hO5.lt _ e).1; omega
    refine ⟨.slice A5 d.revs.length c5, (below_next HA3.out hX5).setCell (p := ⟨w2.heap.size, 0, none⟩) (Nat.le_refl _) _, Nat.le_refl _, (HO7.out.below hX5 hlt).set_ 0 _, ?_, World.ownsRow_nil _ _ _ _, n5, (fun e => by cases e), fun x _ e => by cases e⟩
    rw [List.take_zero, List.map_nil, List.flatMap_nil, List.append_nil]
    exact own_mono (own_setCell hO5 (p := ⟨w2.heap.size, 0, none⟩) n5 _) (Nat.le_of_lt hlt)
  generalize w5.setCell ⟨w2.heap.size, 0, none⟩ (.slice A5 d.revs.length c5) = w6 at hAP ⊢
  have HAP := Lib.hid hAP
  have HW6 : Hid (Below W1.heap.size W1 w6) := Lib.hid (by obtain ⟨v1, h⟩ := hAP; exact below_next HB2.out h.bel)
  clear t0 t1 t2 t3 d0 d1 p0 p1 p2 p3 hO5 hG5 hw5 hX5 hAP
  obtain ⟨k0, k1, k2, k3, k4⟩ := box5 (HC1.out.below HW6.out HC1.out.lt)
  have HEV : Hid (everyE (lastOf d.revs) emptyS c.edits = 0) := Lib.hid (appE_zero H0.out).2.1
  have HMD := Lib.hid (fun x (hx : x ∈ c.edits) X => (show Calls Tryd.prog 24 #[.agg #[.int .i64 c.num, .string c.client, .string c.text, .slice Ae c.edits.length ce, .slice Ac c.recs.length cc], .agg #[.string x.path, .int .i64 x.act, .int .i64 x.ty.base, .bool x.ty.k, .bool x.ty.l, .bool x.ty.x, .int .u64 x.sum, .int .i64 x.size, .int .i64 x.base, .string x.frm, .int .i64 x.fnum, .int .i64 x.fence]] X (fun e w' => e = .returned (.agg #[.string (madeR (lastOf d.revs) c.num x).path, .int .i64 (madeR (lastOf d.revs) c.num x).num, .int .i64 (madeR (lastOf d.revs) c.num x).chg, .int .i64 (madeR (lastOf d.revs) c.num x).act, .int .i64 (madeR (lastOf d.revs) c.num x).ty.base, .bool (madeR (lastOf d.revs) c.num x).ty.k, .bool (madeR (lastOf d.revs) c.num x).ty.l, .bool (madeR (lastOf d.revs) c.num x).ty.x, .int .u64 (madeR (lastOf d.revs) c.num x).sum, .int .i64 (madeR (lastOf d.revs) c.num x).size, .string (madeR (lastOf d.revs) c.num x).frm, .int .i64 (madeR (lastOf d.revs) c.num x).fnum]) ∧ Below X.heap.size X w') from by
    have h := refMade_any c.num c.client c.text Ae Ac c.edits.length c.recs.length ce cc x X (by have := edit_bounds HB.out.ck HEV.out x hx; omega)
    rw [madeX_eq HEV.out c.num hx] at h
    exact h))
  go_upto_block 0 with fail
  clear k0 k1 k2 k3 k4
  go_cut [] (fun wx => Hid (RaI w2 wx w2.heap.size d c c.edits.length))
  case first =>
    go_wp2_with fail
    go_loopw [26] (fun s wr => ∃ k : Nat, s = .int .i64 k ∧ k ≤ c.edits.length ∧ Hid (RaI w2 wr w2.heap.size d c k)) (fun s _ => c.edits.length - (intOf s).toNat)
    case atStart => exact ⟨0, rfl, Nat.zero_le _, HAP.out⟩
    case round =>
      obtain ⟨k, rfl, hk, HI⟩ := hrel
      by_cases hlt : k < c.edits.length
      · obtain ⟨v1, hAP⟩ := HI.out
        obtain ⟨ad, rfl, hab, hld⟩ := Edts.at_ (HE.out.below (below_next (below_next Hb1.out HB2.out) hAP.bel)) hlt
        have HNX : Hid (∀ v3 w', ApR w2 w' w2.heap.size v3 (.slice none 0 0) (d.revs.length + k + 1) 0 (d.revs.flatMap Rev.cells ++ ((c.edits.take k).map (madeR (lastOf d.revs) c.num)).flatMap Rev.cells ++ (madeR (lastOf d.revs) c.num c.edits[k]).cells) [] → RaI w2 w' w2.heap.size d c (k + 1)) := Lib.hid (fun v3 w' h => ⟨v3, by rw [made_take _ _ _ hlt, ← List.append_assoc]; exact h⟩)
        have HM1 := Lib.hid (HMD.out c.edits[k] (List.getElem_mem hlt))
        have HKB : Hid (d.revs.length + k ≤ 100000) := Lib.hid (by omega)
        generalize c.edits[k] = x at hld HNX HM1
        generalize madeR (lastOf d.revs) c.num x = r at HNX HM1
        generalize d.revs.flatMap Rev.cells ++ ((c.edits.take k).map (madeR (lastOf d.revs) c.num)).flatMap Rev.cells = xs at hAP HNX
        obtain ⟨x0, x1, x2, x3, x4, x5, x6, x7, x8, x9, x10, x11⟩ := hld
        have hX := blk_new wr [.string x.path, .int .i64 x.act, .int .i64 x.ty.base, .bool x.ty.k, .bool x.ty.l, .bool x.ty.x, .int .u64 x.sum, .int .i64 x.size, .int .i64 x.base, .string x.frm, .int .i64 x.fnum, .int .i64 x.fence] 48
        have hA1 : Below wr.heap.size wr (wr.alloc (.cells #[.string x.path, .int .i64 x.act, .int .i64 x.ty.base, .bool x.ty.k, .bool x.ty.l, .bool x.ty.x, .int .u64 x.sum, .int .i64 x.size, .int .i64 x.base, .string x.frm, .int .i64 x.fnum, .int .i64 x.fence] 48)) := (Below.refl _ _).alloc (Nat.le_refl _) _
        have HAP1 := Lib.hid hAP
        clear hAP
        go_upto_region 9 with fail
        clear x0 x1 x2 x3 x4 x5 x6 x7 x8 x9 x10 x11
        generalize wr.alloc (.cells #[.string x.path, .int .i64 x.act, .int .i64 x.ty.base, .bool x.ty.k, .bool x.ty.l, .bool x.ty.x, .int .u64 x.sum, .int .i64 x.size, .int .i64 x.base, .string x.frm, .int .i64 x.fnum, .int .i64 x.fence] 48) = V1 at hX hA1 ⊢
        generalize wr.heap.size = g9 at hX ⊢
        have HX := Lib.hid hX
        have HA1 := Lib.hid (HAP1.out.under hA1)
        clear hX hA1
        refine raR9 _ (by kernel_rfl) _ (w.heap.size + 1) w2.heap.size g9 (d.revs.length + k) 0 c.num c.client c.text (some ad) Ac c.edits.length c.recs.length ce cc x r v1 (.slice none 0 0) xs [] w2 V1 HA1.out HX.out (HC1.out.below (below_next HB2.out HA1.out.bel) HC1.out.lt) HKB.out (fun X _ => HM1.out X) _ _ _ _ _ _ _ _ _ _ _ _ _ _ _ _ _ _ _ _ _ _ _ _ _ _ _ _ _ _ _ _ _ _ _ _ _ _ _ _ _ _ _ _ _ _ _ ?_
        intro t30 t31 t32 t33 t34 t35 t36 t37 v3 w7 H7
        have HR7 := Lib.hid (HNX.out v3 w7 H7.out)
        clear H7
        go_wp2_with fail
        go_roundw
        case rel => exact ⟨k + 1, by go_num, by omega, HR7.out⟩
        case measure => simp [intOf]; omega
      · have hke : k = c.edits.length := by omega
        have q : decide ((k : Int) < (c.edits.length : Int)) = false := by simp; omega
        have q' : decide (k < c.edits.length) = false := by simp; omega
        have HZ : Hid (RaI w2 wr w2.heap.size d c c.edits.length) := Lib.hid (by rw [← hke]; exact HI.out)
        clear hke
        go_wp2_with fail
        go_meet
        exact HZ.out
  case rest =>
    obtain ⟨v1, hAP⟩ := hcut.out
    rw [List.take_length, ← newRevs_cells, ← newRevs_len] at hAP
    have HAP2 := Lib.hid hAP
    have HWC : Hid (Below W1.heap.size W1 wc) := Lib.hid (below_next HB2.out hAP.bel)
    have HFI : Hid (∀ r ∈ d.recs ++ c.recs, r.fine) := Lib.hid (fun r hr => by
      rcases List.mem_append.1 hr with hr | hr
      · exact ⟨HB.out.ck.ok.rec_.val_ r hr, HB.out.fd r hr⟩
      · have := HB.out.ck.rcd r hr
        exact ⟨(app_recs HB.out.ck.ok.rec_.path H0.out r hr).1, this.2, this.1⟩)
    have hcl : c.recs.length ≤ 1000 := by have := (sizeE_zero (appE_zero H0.out).1).2.2.1; omega
    clear hAP hcut
    go_upto_region 11 with fail
    refine raR11 _ (by kernel_rfl) _ w.heap.size (w.heap.size + 1) w2.heap.size (newRevs d c).length c.num c.client c.text Aq Ac Ae c.edits.length cq cc ce d.recs c.recs (.slice Ar d.revs.length cr) v1 ((newRevs d c).flatMap Rev.cells) w2 wc HAP2.out (HD1.out.below HWC.out HD1.out.lt) (HC1.out.below HWC.out HC1.out.lt) (HQ.out.below (below_next Hb1.out HWC.out)) (HC.out.below (below_next Hb1.out HWC.out)) HFI.out (HEN.out.below (below_next Hb1.out HWC.out)) (by omega) hcl _ _ _ _ _ _ _ _ _ _ _ _ _ _ _ _ _ _ _ _ _ _ _ _ _ _ _ _ _ _ _ _ _ _ _ _ _ _ _ _ _ _ _ _ _ _ _ ?_
    intro t39 t40 t41 t42 t43 t44 t45 t46 t47 t48 v3 l w7 H7
    obtain ⟨A8, c8, hv1⟩ := own_slice H7.out.1.one
    obtain ⟨A9, c9, hv3⟩ := own_slice H7.out.1.two
    subst hv1 hv3
    have hB7 := below_next HB2.out H7.out.1.bel
    have hR4 := HZ1.out.below hB7 HZ1.out.lt
    obtain ⟨r0, r1, f0, f1⟩ := box2 hR4
    obtain ⟨p0, p1, -, -⟩ := box2 H7.out.1.box
    have HB7 := Lib.hid (below_next Hb1.out hB7)
    have HLT := Lib.hid HZ1.out.lt
    have HSZ := Lib.hid HB2.out.size
    clear hB7
    go_wp2_with fail
    have hR5 := (hR4.set_ 0 (Value.slice A8 (newRevs d c).length c8)).set_ 1 (Value.slice A9 (d.recs.length + c.recs.length) c9)
    have hB5 := (HB7.out.setCell (p := ⟨w.heap.size + 1 + 1, 0, none⟩) (by simp; omega) (Value.slice A8 (newRevs d c).length c8)).setCell (p := ⟨w.heap.size + 1 + 1, 1, none⟩) (by simp; omega) (Value.slice A9 (d.recs.length + c.recs.length) c9)
    have n1 : (Value.slice A8 (newRevs d c).length c8).ownBlock ≠ some (w.heap.size + 1 + 1) := fun e => by have := (H7.out.1.one.lt _ e).1; have := HLT.out; have := HSZ.out; omega
    have n3 : (Value.slice A9 (d.recs.length + c.recs.length) c9).ownBlock ≠ some (w.heap.size + 1 + 1) := fun e => by have := (H7.out.1.two.lt _ e).1; have := HLT.out; have := HSZ.out; omega
    have k1 := Row.of_own (own_setCell (own_setCell H7.out.1.one (p := ⟨w.heap.size + 1 + 1, 0, none⟩) n1 (Value.slice A8 (newRevs d c).length c8)) (p := ⟨w.heap.size + 1 + 1, 1, none⟩) n1 (Value.slice A9 (d.recs.length + c.recs.length) c9))
    have k3 := Row.of_own (own_setCell (own_setCell H7.out.1.two (p := ⟨w.heap.size + 1 + 1, 0, none⟩) n3 (Value.slice A8 (newRevs d c).length c8)) (p := ⟨w.heap.size + 1 + 1, 1, none⟩) n3 (Value.slice A9 (d.recs.length + c.recs.length) c9))
    have hw2 : w.heap.size ≤ w2.heap.size := by have := Hb1.out.size; have := HSZ.out; omega
    clear r0 r1 f0 f1 hR4 p0 p1
    generalize (w7.setCell ⟨w.heap.size + 1 + 1, 0, none⟩ (Value.slice A8 (newRevs d c).length c8)).setCell ⟨w.heap.size + 1 + 1, 1, none⟩ (Value.slice A9 (d.recs.length + c.recs.length) c9) = W5 at hR5 hB5 k1 k3 ⊢
    obtain ⟨r0, r1, -, -⟩ := box2 hR5
    have k4 : Rcds W5 (Value.slice A9 (d.recs.length + c.recs.length) c9) l := by
      have hle := H7.out.2.1.length_eq
      rw [List.length_append] at hle
      show Row W5 6 _ l.length _
      rw [hle]
      exact k3
    refine bodyPost_ret (v := .tuple #[.agg #[(Value.slice A8 (newRevs d c).length c8), (Value.slice A9 (d.recs.length + c.recs.length) c9)], .int .i64 0]) (by simp [results, Tryd.results11, go_sem, r0, r1]) rfl ?_
    exact ⟨hB5, .inr ⟨H0.out, (Value.slice A8 (newRevs d c).length c8), (Value.slice A9 (d.recs.length + c.recs.length) c9), l, rfl, k1, k4, H7.out.2.1, H7.out.2.2, own_fresh H7.out.1.one hw2, own_fresh H7.out.1.two hw2⟩⟩
end Go.Proofs.YtmhmnchdhacdbaaDoor
