/- The reference's Check: its moves, its edits. -/
import Derived.Test.YtnblfaagchflaaaDoorMgw27
import Derived.Test.YtnblfaagchflaaaDoorMgw26
import Derived.Test.YtnblfaagchflaaaDoorMgw19
import Derived.Deep.CutBlock
namespace Go.Proofs.YtnblfaagchflaaaDoor
open Go.RowKit
set_option linter.unusedVariables false
set_option linter.unusedSimpArgs false

set_option maxRecDepth 100000 in
set_option maxHeartbeats 8000000 in
theorem ckT18 (T : Code) (hT : Tryd.f24.body.bind (tailAt 18) = some T) (R : Ending → World → Prop) (d : Dep) (c : Chg) (Ar Aq Ae Ac : Option Addr) (cr cq ce cc g2 g3 : Nat) (w : World) (hb : CkB d c)
    (he : Env w) (hR : Revs w (.slice Ar d.revs.length cr) d.revs) (hP : Edts w (.slice Ae c.edits.length ce) c.edits) (hQ : Rcds w (.slice Ac c.recs.length cc) c.recs)
    (hD : Blk w g2 25 [.slice Ar d.revs.length cr, .slice Aq d.recs.length cq])
    (hC : Blk w g3 42 [.int .i64 c.num, .string c.client, .string c.text, .slice Ae c.edits.length ce, .slice Ac c.recs.length cc]) (hs : ∀ r ∈ d.revs, r.chg < c.num) (h2 : everyE (lastOf d.revs) emptyS c.edits = 0)
    (hRR : ∀ (n : Int) (w' : World), n = (if movesE c.edits ≠ 0 then movesE c.edits else if recsE d.revs c ≠ 0 then recsE d.revs c else roomE d c) → Below w.heap.size w w' → R (.returned (.int .i64 n)) w')
    (u0 u1 u4 u5 u6 u7 u8 u9 u10 u11 u12 u13 u14 u15 u16 u17 u18 u19 u20 u21 u22 u23 u24 u25 u26 u27 u28 u29 u30 u31 u32 u33 u34 u35 u36 u37 u38 u39 u40 u41 u42 u43 u44 u45 u46 u47 u48 u49 u50 u51 u52 u53 u54 u55 u56 u57 u58 u59 u60 u61 u62 u63 u64 u65 u66 u67 u68 u69 u70 u71 u72 u73 u74 u75 u76 u77 u78 u79 u80 u81 u82 u83 u84 u85 u86 u87 u88 u89 u90 u91 u92 u93 u94 u95 u96 u97 u98 u99 u100 u101 u102 u103 u104 : Value) :
    T.wp Tryd.prog (bodyPost Tryd.prog Tryd.f24 R) ⟨#[u0, u1, .pointer (some ⟨g2, 0, none⟩), .pointer (some ⟨g3, 0, none⟩), u4, u5, u6, u7, u8, u9, u10, u11, u12, u13, u14, u15, u16, u17, u18, u19, u20, u21, u22, u23, u24, u25, u26, u27, u28, u29, u30, u31, u32, u33, u34, u35, u36, u37, u38, u39, u40, u41, u42, u43, u44, u45, u46, u47, u48, u49, u50, u51, u52, u53, u54, u55, u56, u57, u58, u59, u60, u61, u62, u63, u64, u65, u66, u67, u68, u69, u70, u71, u72, u73, u74, u75, u76, u77, u78, u79, u80, u81, u82, u83, u84, u85, u86, u87, u88, u89, u90, u91, u92, u93, u94, u95, u96, u97, u98, u99, u100, u101, u102, u103, u104], []⟩ w := by
  simp only [Tryd.f24, Option.bind_some, tailAt, hasReg] at hT
  simp at hT
  subst hT
  have HRR := Lib.hid hRR
  have HEN := Lib.hid he
  have HR := Lib.hid hR
  have HP := Lib.hid hP
  have HQ := Lib.hid hQ
  have HD := Lib.hid hD
  have HC := Lib.hid hC
  have HB := Lib.hid hb
  clear hRR he hR hP hQ hD hC hb
  have bl1 := HB.out.el
  have bl2 := HB.out.rl
  have bl3 : d.revs.length ≤ 100000 := by have := HB.out.dw.len; omega
  have HMV := Lib.hid (fun x X (hX : Below w.heap.size w X) => refMoved_any c.edits c.num c.client c.text Ae Ac c.recs.length ce cc x X (HP.out.below hX) HB.out.el)
  have HNO := Lib.hid (fun x (hx : x ∈ c.edits) h => moves_no h2 hx h)
  have HYES := Lib.hid (fun h => moves_yes h2 h)
  have HQE : Hid (∀ n : Int, movesE c.edits = 117 → n = 117 → n = (if movesE c.edits ≠ 0 then movesE c.edits else if recsE d.revs c ≠ 0 then recsE d.revs c else roomE d c)) := Lib.hid (fun n h1 h3 => by rw [h1, h3]; rfl)
  generalize movesE c.edits = V at HRR HNO HYES HQE
  have HT := Lib.hid (fun T hT R W he hR hP hQ hD hC hRR => ckT24 T hT R d c Ar Aq Ae Ac cr cq ce cc g2 g3 W HB.out he hR hP hQ hD hC hs h2 hRR)
  obtain ⟨k0, k1, k2, k3, k4⟩ := box5 HC.out
  go_upto_block 4 with fail
  clear k0 k1 k2 k3 k4
  go_cut [] (fun wx => Hid (Below w.heap.size w wx ∧ V = 0))
  case first =>
    go_wp2_with fail
    go_loopw [66] (fun s wr => ∃ k : Nat, s = .int .i64 k ∧ k ≤ c.edits.length ∧ Hid (Below w.heap.size w wr ∧ ∀ j (hj : j < c.edits.length), j < k → movedB c.edits c.edits[j] = true)) (fun s _ => c.edits.length - (intOf s).toNat)
    case atStart => exact ⟨0, rfl, Nat.zero_le _, Below.refl _ _, fun j _ hj => by omega⟩
    case round =>
      obtain ⟨k, rfl, hk, HI⟩ := hrel
      by_cases hlt : k < c.edits.length
      · have qlt : decide ((k : Int) < (c.edits.length : Int)) = true := by simp; omega
        obtain ⟨ad, rfl, hab, hld⟩ := Edts.at_ (HP.out.below HI.out.1) hlt
        have hmem : c.edits[k] ∈ c.edits := List.getElem_mem hlt
        have HJ : Hid (movedB c.edits c.edits[k] = true → ∀ j (hj : j < c.edits.length), j < k + 1 → movedB c.edits c.edits[j] = true) := Lib.hid (fun h j hj hjk => by
            by_cases e : j = k
            · subst e; exact h
            · exact HI.out.2 j hj (by omega))
        generalize c.edits[k] = x at hld hmem HJ
        have HMEM := Lib.hid hmem
        clear hmem
        obtain ⟨x0, x1, x2, x3, x4, x5, x6, x7, x8, x9, x10, x11⟩ := hld
        have hX := blk_new wr [.string x.path, .int .i64 x.act, .int .i64 x.ty.base, .bool x.ty.k, .bool x.ty.l, .bool x.ty.x, .int .u64 x.sum, .int .i64 x.size, .int .i64 x.base, .string x.frm, .int .i64 x.fnum, .int .i64 x.fence] 39
        have hA1 := HI.out.1.alloc HI.out.1.size (.cells #[.string x.path, .int .i64 x.act, .int .i64 x.ty.base, .bool x.ty.k, .bool x.ty.l, .bool x.ty.x, .int .u64 x.sum, .int .i64 x.size, .int .i64 x.base, .string x.frm, .int .i64 x.fnum, .int .i64 x.fence] 39)
        go_upto_region 21 with fail
        clear x0 x1 x2 x3 x4 x5 x6 x7 x8 x9 x10 x11
        generalize wr.alloc (.cells #[.string x.path, .int .i64 x.act, .int .i64 x.ty.base, .bool x.ty.k, .bool x.ty.l, .bool x.ty.x, .int .u64 x.sum, .int .i64 x.size, .int .i64 x.base, .string x.frm, .int .i64 x.fnum, .int .i64 x.fence] 39) = V1 at hX hA1 ⊢
        generalize wr.heap.size = g10 at hX ⊢
        have HA1 := Lib.hid hA1
        obtain ⟨x0, x1, x2, x3, x4, x5, x6, x7, x8, x9, x10, x11⟩ := box12 hX
        obtain ⟨k0, k1, k2, k3, k4⟩ := box5 (HC.out.below HA1.out HC.out.lt)
        have HR1 := Lib.hid (HMV.out x V1 HA1.out)
        generalize hbb : movedB c.edits x = bb at HR1 HJ
        have HBB := Lib.hid hbb
        clear hX hA1 hbb
        go_wp2_with fail
        refine HR1.out.mono ?_
        rintro e w2 ⟨rfl, hb2⟩
        have HB2 := Lib.hid (below_next HA1.out hb2)
        clear hb2 k0 k1 k2 k3 k4 x0 x1 x2 x3 x4 x5 x6 x7 x8 x9 x10 x11
        dsimp only
        cases bb with
        | false =>
          have HF := Lib.hid (HNO.out x HMEM.out HBB.out)
          go_wp2_with fail
          exact HRR.out _ _ (HQE.out _ HF.out rfl) HB2.out
        | true =>
          have HJ2 := Lib.hid (HJ.out rfl)
          go_wp2_with fail
          go_roundw
          case rel => exact ⟨k + 1, by go_num, by omega, HB2.out, HJ2.out⟩
          case measure => simp [intOf]; omega
      · have hke : k = c.edits.length := by omega
        have q : decide ((k : Int) < (c.edits.length : Int)) = false := by simp; omega
        have q' : decide (k < c.edits.length) = false := by simp; omega
        have HZ : Hid (V = 0) := Lib.hid (HYES.out fun x hx => by obtain ⟨j, hj, rfl⟩ := List.mem_iff_getElem.1 hx; exact HI.out.2 j hj (by omega))
        have HW := Lib.hid HI.out.1
        clear hke
        go_wp2_with fail
        go_meet
        exact ⟨HW.out, HZ.out⟩
  case rest =>
    have HV := Lib.hid hcut.out
    clear hcut
    have hk := ‹∀ (a : Act) (w : World), Code.wp _ _ _ a w → _›
    exact hk _ _ (HT.out _ (by kernel_rfl) _ _ (HEN.out.below HV.out.1) (HR.out.below HV.out.1) (HP.out.below HV.out.1) (HQ.out.below HV.out.1) (HD.out.below HV.out.1 HD.out.lt) (HC.out.below HV.out.1 HC.out.lt) (fun n w' hn hw => HRR.out n w' (by rw [HV.out.2, hn]; rfl) (below_next HV.out.1 hw)) _ _ _ _ _ _ _ _ _ _ _ _ _ _ _ _ _ _ _ _ _ _ _ _ _ _ _ _ _ _ _ _ _ _ _ _ _ _ _ _ _ _ _ _ _ _ _ _ _ _ _ _ _ _ _ _ _ _ _ _ _ _ _ _ _ _ _ _ _ _ _ _ _ _ _ _ _ _ _ _ _ _ _ _ _ _ _ _ _ _ _ _ _ _ _ _ _ _ _ _ _ _ _)
set_option maxRecDepth 100000 in
set_option maxHeartbeats 8000000 in
theorem ckT11 (T : Code) (hT : Tryd.f24.body.bind (tailAt 11) = some T) (R : Ending → World → Prop) (d : Dep) (c : Chg) (Ar Aq Ae Ac : Option Addr) (cr cq ce cc g2 g3 : Nat) (w : World) (hb : CkB d c)
    (he : Env w) (hR : Revs w (.slice Ar d.revs.length cr) d.revs) (hP : Edts w (.slice Ae c.edits.length ce) c.edits) (hQ : Rcds w (.slice Ac c.recs.length cc) c.recs)
    (hD : Blk w g2 25 [.slice Ar d.revs.length cr, .slice Aq d.recs.length cq])
    (hC : Blk w g3 42 [.int .i64 c.num, .string c.client, .string c.text, .slice Ae c.edits.length ce, .slice Ac c.recs.length cc]) (hs : ∀ r ∈ d.revs, r.chg < c.num)
    (hRR : ∀ (n : Int) (w' : World), n = (if everyE (lastOf d.revs) emptyS c.edits ≠ 0 then everyE (lastOf d.revs) emptyS c.edits else if movesE c.edits ≠ 0 then movesE c.edits else if recsE d.revs c ≠ 0 then recsE d.revs c else roomE d c) → Below w.heap.size w w' → R (.returned (.int .i64 n)) w')
    (u0 u1 u4 u5 u6 u7 u8 u9 u10 u11 u12 u13 u14 u15 u16 u17 u18 u19 u20 u21 u22 u23 u24 u25 u26 u27 u28 u29 u30 u31 u32 u33 u34 u35 u36 u37 u38 u39 u40 u41 u42 u43 u44 u45 u46 u47 u48 u49 u50 u51 u52 u53 u54 u55 u56 u57 u58 u59 u60 u61 u62 u63 u64 u65 u66 u67 u68 u69 u70 u71 u72 u73 u74 u75 u76 u77 u78 u79 u80 u81 u82 u83 u84 u85 u86 u87 u88 u89 u90 u91 u92 u93 u94 u95 u96 u97 u98 u99 u100 u101 u102 u103 u104 : Value) :
    T.wp Tryd.prog (bodyPost Tryd.prog Tryd.f24 R) ⟨#[u0, u1, .pointer (some ⟨g2, 0, none⟩), .pointer (some ⟨g3, 0, none⟩), u4, u5, u6, u7, u8, u9, u10, u11, u12, u13, u14, u15, u16, u17, u18, u19, u20, u21, u22, u23, u24, u25, u26, u27, u28, u29, u30, u31, u32, u33, u34, u35, u36, u37, u38, u39, u40, u41, u42, u43, u44, u45, u46, u47, u48, u49, u50, u51, u52, u53, u54, u55, u56, u57, u58, u59, u60, u61, u62, u63, u64, u65, u66, u67, u68, u69, u70, u71, u72, u73, u74, u75, u76, u77, u78, u79, u80, u81, u82, u83, u84, u85, u86, u87, u88, u89, u90, u91, u92, u93, u94, u95, u96, u97, u98, u99, u100, u101, u102, u103, u104], []⟩ w := by
  simp only [Tryd.f24, Option.bind_some, tailAt, hasReg] at hT
  simp at hT
  subst hT
  have HRR := Lib.hid hRR
  have HEN := Lib.hid he
  have HR := Lib.hid hR
  have HP := Lib.hid hP
  have HQ := Lib.hid hQ
  have HD := Lib.hid hD
  have HC := Lib.hid hC
  have HB := Lib.hid hb
  clear hRR he hR hP hQ hD hC hb
  have bl1 := HB.out.el
  have bl2 := HB.out.rl
  have bl3 : d.revs.length ≤ 100000 := by have := HB.out.dw.len; omega
  have HED := Lib.hid (fun k (hk : k < c.edits.length) hv X (hX : Below w.heap.size w X) => refEdit_any d c (.slice Ar d.revs.length cr) (.slice Aq d.recs.length cq) Ae Ac ce cc k X (HEN.out.below hX) (HR.out.below hX) (by have := HB.out.dw.len; omega) (HP.out.below hX) hk HB.out.el HB.out.ok.log HB.out.path hv)
  have HNO := Lib.hid (fun i hi hz h => every_at (last := lastOf d.revs) c.edits emptyS i hi hz h)
  have HYES := Lib.hid (fun h => every_all (last := lastOf d.revs) c.edits emptyS h)
  have HQE : Hid (∀ n : Int, n ≠ 0 → everyE (lastOf d.revs) emptyS c.edits = n → n = (if everyE (lastOf d.revs) emptyS c.edits ≠ 0 then everyE (lastOf d.revs) emptyS c.edits else if movesE c.edits ≠ 0 then movesE c.edits else if recsE d.revs c ≠ 0 then recsE d.revs c else roomE d c)) := Lib.hid (fun n h1 h3 => by rw [h3, if_pos h1])
  obtain ⟨V, hV⟩ : ∃ V, V = everyE (lastOf d.revs) emptyS c.edits := ⟨_, rfl⟩
  rw [← hV] at HRR HNO HYES HQE
  have HVV := Lib.hid hV
  clear hV
  have HT := Lib.hid (fun T hT R W he hR hP hQ hD hC h2 hRR => ckT18 T hT R d c Ar Aq Ae Ac cr cq ce cc g2 g3 W HB.out he hR hP hQ hD hC hs h2 hRR)
  obtain ⟨k0, k1, k2, k3, k4⟩ := box5 HC.out
  go_upto_block 2 with fail
  clear k0 k1 k2 k3 k4
  go_cut [] (fun wx => Hid (Below w.heap.size w wx ∧ V = 0))
  case first =>
    go_wp2_with fail
    go_loopw [52] (fun s wr => ∃ k : Nat, s = .int .i64 k ∧ k ≤ c.edits.length ∧ Hid (Below w.heap.size w wr ∧ ∀ j (hj : j < c.edits.length), j < k → editE (lastOf d.revs) (aheadQ emptyS c.edits j) c.edits[j] = 0)) (fun s _ => c.edits.length - (intOf s).toNat)
    case atStart => exact ⟨0, rfl, Nat.zero_le _, Below.refl _ _, fun j _ hj => by omega⟩
    case round =>
      obtain ⟨k, rfl, hk, HI⟩ := hrel
      by_cases hlt : k < c.edits.length
      · have qlt : decide ((k : Int) < (c.edits.length : Int)) = true := by simp; omega
        obtain ⟨d0, d1, -, -⟩ := box2 (HD.out.below HI.out.1 HD.out.lt)
        obtain ⟨k0, k1, k2, k3, k4⟩ := box5 (HC.out.below HI.out.1 HC.out.lt)
        have HR1 := Lib.hid (HED.out k hlt (fun j hj hjk => (editE_zero (HI.out.2 j hj hjk)).1) wr HI.out.1)
        have HN1 := Lib.hid (HNO.out k hlt (fun j hj => HI.out.2 j (by omega) hj))
        have HJ : Hid (editE (lastOf d.revs) (aheadQ emptyS c.edits k) c.edits[k] = 0 → ∀ j (hj : j < c.edits.length), j < k + 1 → editE (lastOf d.revs) (aheadQ emptyS c.edits j) c.edits[j] = 0) := Lib.hid (fun h j hj hjk => by
            by_cases e : j = k
            · subst e; exact h
            · exact HI.out.2 j hj (by omega))
        generalize editE (lastOf d.revs) (aheadQ emptyS c.edits k) c.edits[k] = er at HR1 HN1 HJ
        go_wp2_with fail
        refine HR1.out.mono ?_
        rintro e w2 ⟨rfl, hb2⟩
        have HB2 := Lib.hid (below_next HI.out.1 hb2)
        clear hb2 d0 d1 k0 k1 k2 k3 k4
        dsimp only
        by_cases h0 : er = 0
        · have HJ2 := Lib.hid (HJ.out h0)
          subst h0
          go_wp2_with fail
          go_roundw
          case rel => exact ⟨k + 1, by go_num, by omega, HB2.out, HJ2.out⟩
          case measure => simp [intOf]; omega
        · have q0 : (er != 0) = true := by simpa using h0
          have HF := Lib.hid (HQE.out er h0 (HN1.out h0))
          clear h0
          go_wp2_with fail
          exact HRR.out _ _ HF.out HB2.out
      · have hke : k = c.edits.length := by omega
        have q : decide ((k : Int) < (c.edits.length : Int)) = false := by simp; omega
        have q' : decide (k < c.edits.length) = false := by simp; omega
        have HZ : Hid (V = 0) := Lib.hid (HYES.out fun j hj => HI.out.2 j hj (by omega))
        have HW := Lib.hid HI.out.1
        clear hke
        go_wp2_with fail
        go_meet
        exact ⟨HW.out, HZ.out⟩
  case rest =>
    have HV := Lib.hid hcut.out
    clear hcut
    have hk := ‹∀ (a : Act) (w : World), Code.wp _ _ _ a w → _›
    exact hk _ _ (HT.out _ (by kernel_rfl) _ _ (HEN.out.below HV.out.1) (HR.out.below HV.out.1) (HP.out.below HV.out.1) (HQ.out.below HV.out.1) (HD.out.below HV.out.1 HD.out.lt) (HC.out.below HV.out.1 HC.out.lt) (HVV.out.symm.trans HV.out.2) (fun n w' hn hw => HRR.out n w' (by rw [HV.out.2, hn]; rfl) (below_next HV.out.1 hw)) _ _ _ _ _ _ _ _ _ _ _ _ _ _ _ _ _ _ _ _ _ _ _ _ _ _ _ _ _ _ _ _ _ _ _ _ _ _ _ _ _ _ _ _ _ _ _ _ _ _ _ _ _ _ _ _ _ _ _ _ _ _ _ _ _ _ _ _ _ _ _ _ _ _ _ _ _ _ _ _ _ _ _ _ _ _ _ _ _ _ _ _ _ _ _ _ _ _ _ _ _ _ _)
end Go.Proofs.YtnblfaagchflaaaDoor
/- The reference's Check: the walk. -/
namespace Go.Proofs.YtnblfaagchflaaaDoor
open Go.RowKit
set_option linter.unusedVariables false
set_option linter.unusedSimpArgs false

set_option maxRecDepth 100000 in
set_option maxHeartbeats 8000000 in
theorem ckT5 (T : Code) (hT : Tryd.f24.body.bind (tailAt 5) = some T) (R : Ending → World → Prop) (d : Dep) (c : Chg) (Ar Aq Ae Ac : Option Addr) (cr cq ce cc g2 g3 : Nat) (w : World) (hb : CkB d c)
    (he : Env w) (hR : Revs w (.slice Ar d.revs.length cr) d.revs) (hP : Edts w (.slice Ae c.edits.length ce) c.edits) (hQ : Rcds w (.slice Ac c.recs.length cc) c.recs)
    (hD : Blk w g2 25 [.slice Ar d.revs.length cr, .slice Aq d.recs.length cq])
    (hC : Blk w g3 42 [.int .i64 c.num, .string c.client, .string c.text, .slice Ae c.edits.length ce, .slice Ac c.recs.length cc]) 
    (hRR : ∀ (n : Int) (w' : World), n = (if d.revs.any (fun r => decide (c.num ≤ r.chg)) then 112 else (if everyE (lastOf d.revs) emptyS c.edits ≠ 0 then everyE (lastOf d.revs) emptyS c.edits else if movesE c.edits ≠ 0 then movesE c.edits else if recsE d.revs c ≠ 0 then recsE d.revs c else roomE d c)) → Below w.heap.size w w' → R (.returned (.int .i64 n)) w')
    (u0 u1 u4 u5 u6 u7 u8 u9 u10 u11 u12 u13 u14 u15 u16 u17 u18 u19 u20 u21 u22 u23 u24 u25 u26 u27 u28 u29 u30 u31 u32 u33 u34 u35 u36 u37 u38 u39 u40 u41 u42 u43 u44 u45 u46 u47 u48 u49 u50 u51 u52 u53 u54 u55 u56 u57 u58 u59 u60 u61 u62 u63 u64 u65 u66 u67 u68 u69 u70 u71 u72 u73 u74 u75 u76 u77 u78 u79 u80 u81 u82 u83 u84 u85 u86 u87 u88 u89 u90 u91 u92 u93 u94 u95 u96 u97 u98 u99 u100 u101 u102 u103 u104 : Value) :
    T.wp Tryd.prog (bodyPost Tryd.prog Tryd.f24 R) ⟨#[u0, u1, .pointer (some ⟨g2, 0, none⟩), .pointer (some ⟨g3, 0, none⟩), u4, u5, u6, u7, u8, u9, u10, u11, u12, u13, u14, u15, u16, u17, u18, u19, u20, u21, u22, u23, u24, u25, u26, u27, u28, u29, u30, u31, u32, u33, u34, u35, u36, u37, u38, u39, u40, u41, u42, u43, u44, u45, u46, u47, u48, u49, u50, u51, u52, u53, u54, u55, u56, u57, u58, u59, u60, u61, u62, u63, u64, u65, u66, u67, u68, u69, u70, u71, u72, u73, u74, u75, u76, u77, u78, u79, u80, u81, u82, u83, u84, u85, u86, u87, u88, u89, u90, u91, u92, u93, u94, u95, u96, u97, u98, u99, u100, u101, u102, u103, u104], []⟩ w := by
  simp only [Tryd.f24, Option.bind_some, tailAt, hasReg] at hT
  simp at hT
  subst hT
  have HRR := Lib.hid hRR
  have HEN := Lib.hid he
  have HR := Lib.hid hR
  have HP := Lib.hid hP
  have HQ := Lib.hid hQ
  have HD := Lib.hid hD
  have HC := Lib.hid hC
  have HB := Lib.hid hb
  clear hRR he hR hP hQ hD hC hb
  have bl1 := HB.out.el
  have bl2 := HB.out.rl
  have bl3 : d.revs.length ≤ 100000 := by have := HB.out.dw.len; omega
  have HNO := Lib.hid (fun r (hr : r ∈ d.revs) (h : c.num ≤ r.chg) => (show d.revs.any (fun r => decide (c.num ≤ r.chg)) = true from List.any_eq_true.2 ⟨r, hr, decide_eq_true h⟩))
  have HYES : Hid ((∀ j (hj : j < d.revs.length), (d.revs[j]).chg < c.num) → (∀ r ∈ d.revs, r.chg < c.num) ∧ d.revs.any (fun r => decide (c.num ≤ r.chg)) = false) := Lib.hid (fun h => by
    have h2 : ∀ r ∈ d.revs, r.chg < c.num := fun r hr => by obtain ⟨j, hj, rfl⟩ := List.mem_iff_getElem.1 hr; exact h j hj
    refine ⟨h2, ?_⟩
    rw [List.any_eq_false]
    intro r hr hh
    have := h2 r hr
    have := of_decide_eq_true hh
    omega)
  have HT := Lib.hid (fun T hT R W hs he hR hP hQ hD hC hRR => ckT11 T hT R d c Ar Aq Ae Ac cr cq ce cc g2 g3 W HB.out he hR hP hQ hD hC hs hRR)
  generalize (if everyE (lastOf d.revs) emptyS c.edits ≠ 0 then everyE (lastOf d.revs) emptyS c.edits else if movesE c.edits ≠ 0 then movesE c.edits else if recsE d.revs c ≠ 0 then recsE d.revs c else roomE d c) = VR at HRR HT
  generalize d.revs.any (fun r => decide (c.num ≤ r.chg)) = V at HRR HNO HYES
  obtain ⟨d0, d1, -, -⟩ := box2 HD.out
  go_upto_block 0 with fail
  clear d0 d1
  go_cut [] (fun wx => Hid (Below w.heap.size w wx ∧ V = false ∧ ∀ r ∈ d.revs, r.chg < c.num))
  case first =>
    go_wp2_with fail
    go_loopw [39] (fun s wr => ∃ k : Nat, s = .int .i64 k ∧ k ≤ d.revs.length ∧ Hid (Below w.heap.size w wr ∧ ∀ j (hj : j < d.revs.length), j < k → (d.revs[j]).chg < c.num)) (fun s _ => d.revs.length - (intOf s).toNat)
    case atStart => exact ⟨0, rfl, Nat.zero_le _, Below.refl _ _, fun j _ hj => by omega⟩
    case round =>
      obtain ⟨k, rfl, hk, HI⟩ := hrel
      by_cases hlt : k < d.revs.length
      · have qlt : decide ((k : Int) < (d.revs.length : Int)) = true := by simp; omega
        obtain ⟨ad, rfl, hab, hld⟩ := Revs.at_ (HR.out.below HI.out.1) hlt
        have HN1 := Lib.hid (HNO.out d.revs[k] (List.getElem_mem hlt))
        have HJ : Hid ((d.revs[k]).chg < c.num → ∀ j (hj : j < d.revs.length), j < k + 1 → (d.revs[j]).chg < c.num) := Lib.hid (fun h j hj hjk => by
            by_cases e : j = k
            · subst e; exact h
            · exact HI.out.2 j hj (by omega))
        generalize d.revs[k] = x at hld HN1 HJ
        obtain ⟨x0, x1, x2, x3, x4, x5, x6, x7, x8, x9, x10, x11⟩ := hld
        have hX := blk_new wr [.string x.path, .int .i64 x.num, .int .i64 x.chg, .int .i64 x.act, .int .i64 x.ty.base, .bool x.ty.k, .bool x.ty.l, .bool x.ty.x, .int .u64 x.sum, .int .i64 x.size, .string x.frm, .int .i64 x.fnum] 33
        have hA1 := HI.out.1.alloc HI.out.1.size (.cells #[.string x.path, .int .i64 x.num, .int .i64 x.chg, .int .i64 x.act, .int .i64 x.ty.base, .bool x.ty.k, .bool x.ty.l, .bool x.ty.x, .int .u64 x.sum, .int .i64 x.size, .string x.frm, .int .i64 x.fnum] 33)
        go_upto_region 8 with fail
        clear x0 x1 x2 x3 x4 x5 x6 x7 x8 x9 x10 x11
        generalize wr.alloc (.cells #[.string x.path, .int .i64 x.num, .int .i64 x.chg, .int .i64 x.act, .int .i64 x.ty.base, .bool x.ty.k, .bool x.ty.l, .bool x.ty.x, .int .u64 x.sum, .int .i64 x.size, .string x.frm, .int .i64 x.fnum] 33) = V1 at hX hA1 ⊢
        generalize wr.heap.size = g6 at hX ⊢
        have HA1 := Lib.hid hA1
        obtain ⟨x0, x1, x2, x3, x4, x5, x6, x7, x8, x9, x10, x11⟩ := box12 hX
        obtain ⟨k0, k1, k2, k3, k4⟩ := box5 (HC.out.below HA1.out HC.out.lt)
        clear hX hA1
        by_cases h1 : c.num ≤ x.chg
        · have q1 : decide (c.num ≤ x.chg) = true := by simpa using h1
          have HF := Lib.hid (HN1.out h1)
          clear h1
          go_wp2_with fail
          exact HRR.out _ _ (by rw [HF.out]; rfl) HA1.out
        · have q1 : decide (c.num ≤ x.chg) = false := by simpa using h1
          have HJ2 := Lib.hid (HJ.out (by omega))
          clear h1
          go_wp2_with fail
          go_roundw
          case rel => exact ⟨k + 1, by go_num, by omega, HA1.out, HJ2.out⟩
          case measure => simp [intOf]; omega
      · have hke : k = d.revs.length := by omega
        have q : decide ((k : Int) < (d.revs.length : Int)) = false := by simp; omega
        have q' : decide (k < d.revs.length) = false := by simp; omega
        have HZ := Lib.hid (HYES.out fun j hj => HI.out.2 j hj (by omega))
        have HW := Lib.hid HI.out.1
        clear hke
        go_wp2_with fail
        go_meet
        exact ⟨HW.out, HZ.out.2, HZ.out.1⟩
  case rest =>
    have HV := Lib.hid hcut.out
    clear hcut
    have hk := ‹∀ (a : Act) (w : World), Code.wp _ _ _ a w → _›
    exact hk _ _ (HT.out _ (by kernel_rfl) _ _ HV.out.2.2 (HEN.out.below HV.out.1) (HR.out.below HV.out.1) (HP.out.below HV.out.1) (HQ.out.below HV.out.1) (HD.out.below HV.out.1 HD.out.lt) (HC.out.below HV.out.1 HC.out.lt) (fun n w' hn hw => HRR.out n w' (by rw [HV.out.2.1, hn]; rfl) (below_next HV.out.1 hw)) _ _ _ _ _ _ _ _ _ _ _ _ _ _ _ _ _ _ _ _ _ _ _ _ _ _ _ _ _ _ _ _ _ _ _ _ _ _ _ _ _ _ _ _ _ _ _ _ _ _ _ _ _ _ _ _ _ _ _ _ _ _ _ _ _ _ _ _ _ _ _ _ _ _ _ _ _ _ _ _ _ _ _ _ _ _ _ _ _ _ _ _ _ _ _ _ _ _ _ _ _ _ _)
set_option maxRecDepth 100000 in
set_option maxHeartbeats 8000000 in
theorem refCheckD_any (d : Dep) (c : Chg) (Ar Aq Ae Ac : Option Addr) (cr cq ce cc : Nat) (w : World) (hb : CkB d c) (he : Env w) (hR : Revs w (.slice Ar d.revs.length cr) d.revs) (hP : Edts w (.slice Ae c.edits.length ce) c.edits) (hQ : Rcds w (.slice Ac c.recs.length cc) c.recs) :
    Calls Tryd.prog 24 #[.agg #[.slice Ar d.revs.length cr, .slice Aq d.recs.length cq], .agg #[.int .i64 c.num, .string c.client, .string c.text, .slice Ae c.edits.length ce, .slice Ac c.recs.length cc]] w
      fun e w' => e = .returned (.int .i64 (appE d c)) ∧ Below w.heap.size w w' := by
  have HEN := Lib.hid he
  have HR := Lib.hid hR
  have HP := Lib.hid hP
  have HQ := Lib.hid hQ
  have HB := Lib.hid hb
  have b3 := hb.el
  have b4 := hb.rl
  have hb0 : Below w.heap.size w ((w.alloc (.cells #[.slice Ar d.revs.length cr, .slice Aq d.recs.length cq] 25)).alloc (.cells #[.int .i64 c.num, .string c.client, .string c.text, .slice Ae c.edits.length ce, .slice Ac c.recs.length cc] 42)) := ((Below.refl _ _).alloc (Nat.le_refl _) _).alloc (by simp) _
  have hC : Blk ((w.alloc (.cells #[.slice Ar d.revs.length cr, .slice Aq d.recs.length cq] 25)).alloc (.cells #[.int .i64 c.num, .string c.client, .string c.text, .slice Ae c.edits.length ce, .slice Ac c.recs.length cc] 42)) (w.heap.size + 1) 42 [.int .i64 c.num, .string c.client, .string c.text, .slice Ae c.edits.length ce, .slice Ac c.recs.length cc] := by
    have h1 := blk_new (w.alloc (.cells #[.slice Ar d.revs.length cr, .slice Aq d.recs.length cq] 25)) [.int .i64 c.num, .string c.client, .string c.text, .slice Ae c.edits.length ce, .slice Ac c.recs.length cc] 42
    simp only [World.size_alloc] at h1
    exact h1
  have hD : Blk ((w.alloc (.cells #[.slice Ar d.revs.length cr, .slice Aq d.recs.length cq] 25)).alloc (.cells #[.int .i64 c.num, .string c.client, .string c.text, .slice Ae c.edits.length ce, .slice Ac c.recs.length cc] 42)) w.heap.size 25 [.slice Ar d.revs.length cr, .slice Aq d.recs.length cq] := (blk_new w _ _).alloc _
  have HT := Lib.hid (fun T hT R g2 g3 W he hR hP hQ hD hC hRR => ckT5 T hT R d c Ar Aq Ae Ac cr cq ce cc g2 g3 W hb he hR hP hQ hD hC hRR)
  obtain ⟨V5, hV5⟩ : ∃ V5, V5 = (if d.revs.any (fun r => decide (c.num ≤ r.chg)) then 112 else (if everyE (lastOf d.revs) emptyS c.edits ≠ 0 then everyE (lastOf d.revs) emptyS c.edits else if movesE c.edits ≠ 0 then movesE c.edits else if recsE d.revs c ≠ 0 then recsE d.revs c else roomE d c)) := ⟨_, rfl⟩
  rw [← hV5] at HT
  have HA : Hid (appE d c = if c.edits.length = 0 ∨ 64 < c.edits.length ∨ 64 < c.recs.length then 110 else if c.num < 1 ∨ 1073741824 < c.num then 112 else V5) := Lib.hid (by
    rw [hV5]
    unfold appE firstE sizeE
    split
    · rfl
    · split
      · rfl
      · split
        · rfl
        · rw [if_neg (by simp)]
          show firstE _ = _
          by_cases h1 : everyE (lastOf d.revs) emptyS c.edits = 0
          · simp only [firstE, h1]
            by_cases h2 : movesE c.edits = 0
            · simp only [h2]
              by_cases h3 : recsE d.revs c = 0
              · simp only [h3]
                by_cases h4 : roomE d c = 0 <;> simp [h4]
              · simp [h3]
            · simp [h2]
          · simp [firstE, h1])
  generalize appE d c = VA at HA ⊢
  clear hb he hR hP hQ hV5
  go_enter Tryd.func24, Tryd.ntmps24
  go_upto_region 1 with fail
  generalize (w.alloc (.cells #[.slice Ar d.revs.length cr, .slice Aq d.recs.length cq] 25)).alloc (.cells #[.int .i64 c.num, .string c.client, .string c.text, .slice Ae c.edits.length ce, .slice Ac c.recs.length cc] 42) = W1 at hb0 hC hD ⊢
  have HC1 := Lib.hid hC
  have HD1 := Lib.hid hD
  have HW1 := Lib.hid hb0
  obtain ⟨k0, k1, k2, k3, k4⟩ := box5 hC
  clear hb0 hC hD
  go_cut [27] (fun v wx => ∃ bb, v = .bool bb ∧ Hid (wx = W1 ∧ bb = decide (c.edits.length = 0 ∨ 64 < c.edits.length ∨ 64 < c.recs.length)))
  case first =>
    by_cases h1 : c.edits.length = 0
    · have q1 : ((c.edits.length : Int) == 0) = true := by rw [beq_iff_eq]; omega
      have HF : Hid (true = decide (c.edits.length = 0 ∨ 64 < c.edits.length ∨ 64 < c.recs.length)) := Lib.hid (by simp [h1])
      have HZ := Lib.hid h1
      clear h1
      go_wp2_with fail
      go_meet
      exact ⟨true, by first | rfl | simp [HZ.out], rfl, HF.out⟩
    · have q1 : ((c.edits.length : Int) == 0) = false := by rw [beq_eq_false_iff_ne]; omega
      by_cases h2 : 64 < c.edits.length
      · have q2 : decide ((64 : Int) < (c.edits.length : Int)) = true := by simp; omega
        have HF : Hid (true = decide (c.edits.length = 0 ∨ 64 < c.edits.length ∨ 64 < c.recs.length)) := Lib.hid (by simp [h2])
        clear h1 h2
        go_wp2_with fail
        go_meet
        exact ⟨true, rfl, rfl, HF.out⟩
      · have q2 : decide ((64 : Int) < (c.edits.length : Int)) = false := by simp; omega
        by_cases h3 : 64 < c.recs.length
        · have q3 : decide ((64 : Int) < (c.recs.length : Int)) = true := by simp; omega
          have HF : Hid (true = decide (c.edits.length = 0 ∨ 64 < c.edits.length ∨ 64 < c.recs.length)) := Lib.hid (by simp [h3])
          clear h1 h2 h3
          go_wp2_with fail
          go_meet
          exact ⟨true, rfl, rfl, HF.out⟩
        · have q3 : decide ((64 : Int) < (c.recs.length : Int)) = false := by simp; omega
          have HF : Hid (false = decide (c.edits.length = 0 ∨ 64 < c.edits.length ∨ 64 < c.recs.length)) := Lib.hid (by rw [decide_eq_false (by omega)])
          clear h1 h2 h3
          go_wp2_with fail
          go_meet
          exact ⟨false, rfl, rfl, HF.out⟩
  case rest =>
    obtain ⟨bb, rfl, HV⟩ := hcut
    obtain rfl : wc = W1 := HV.out.1
    have HBB := Lib.hid HV.out.2
    clear HV
    cases bb with
    | true =>
      have HF : Hid (110 = VA) := Lib.hid (by rw [HA.out, if_pos (of_decide_eq_true HBB.out.symm)])
      go_wp2_with fail
      go_ret
      exact ⟨ret_int HF.out, HW1.out⟩
    | false =>
      have HA2 : Hid (VA = if c.num < 1 ∨ 1073741824 < c.num then 112 else V5) := Lib.hid (by rw [HA.out, if_neg (of_decide_eq_false HBB.out.symm)])
      clear HBB HA
      by_cases h1 : c.num ≤ 0
      · have q1 : decide (c.num ≤ 0) = true := by simpa using h1
        have HF : Hid (112 = VA) := Lib.hid (by rw [HA2.out, if_pos (by omega)])
        clear h1
        go_wp2_with fail
        go_ret
        exact ⟨ret_int HF.out, HW1.out⟩
      · have q1 : decide (c.num ≤ 0) = false := by simpa using h1
        by_cases h2 : 1073741824 < c.num
        · have q2 : decide (1073741824 < c.num) = true := by simpa using h2
          have HF : Hid (112 = VA) := Lib.hid (by rw [HA2.out, if_pos (by omega)])
          clear h1 h2
          go_wp2_with fail
          go_ret
          exact ⟨ret_int HF.out, HW1.out⟩
        · have q2 : decide (1073741824 < c.num) = false := by simpa using h2
          have HF : Hid (V5 = VA) := Lib.hid (by rw [HA2.out, if_neg (by omega)])
          clear h1 h2
          go_upto_if 35 with fail
          refine wp_cond_false rfl ?_
          refine wp_skip ?_
          have hk := ‹∀ (a : Act) (w : World), Code.wp _ _ _ a w → _›
          exact hk _ _ (HT.out _ (by kernel_rfl) _ _ _ _ (HEN.out.below HW1.out) (HR.out.below HW1.out) (HP.out.below HW1.out) (HQ.out.below HW1.out) HD1.out HC1.out (fun n w' hn hw => ⟨by rw [hn, HF.out], below_next HW1.out hw⟩) _ _ _ _ _ _ _ _ _ _ _ _ _ _ _ _ _ _ _ _ _ _ _ _ _ _ _ _ _ _ _ _ _ _ _ _ _ _ _ _ _ _ _ _ _ _ _ _ _ _ _ _ _ _ _ _ _ _ _ _ _ _ _ _ _ _ _ _ _ _ _ _ _ _ _ _ _ _ _ _ _ _ _ _ _ _ _ _ _ _ _ _ _ _ _ _ _ _ _ _ _ _ _)
end Go.Proofs.YtnblfaagchflaaaDoor
/- The reference's Append: the regions that append. -/
namespace Go.Proofs.YtnblfaagchflaaaDoor
open Go.RowKit
set_option linter.unusedVariables false
set_option linter.unusedSimpArgs false

theorem ApR.put2 {V wr w7 : World} {g7 : Nat} {v1 v2 v3 : Value} {n m m' : Nat} {xs ys ys' : List Value} (h : ApR V wr g7 v1 v2 n m xs ys) (hX : Below wr.heap.size wr w7) (ho : w7.ownsRow wr.heap.size 50 6 v3 m' ys') :
    ApR V (w7.setCell ⟨g7, 1, none⟩ v3) g7 v1 v3 n m' xs ys' := by
  have l1 := h.one.lt
  have lb := h.box.lt
  have l3 := ho.lt
  have n3 : v3.ownBlock ≠ some g7 := fun e => by have := (l3 _ e).1; omega
  have hs := h.bel.size
  refine ⟨(below_next h.bel hX).setCell (p := ⟨g7, 1, none⟩) h.le _, h.le, (h.box.below hX lb).set_ 1 v3, own_setCell (own_below h.one hX) (p := ⟨g7, 1, none⟩) h.ne1 _, own_mono (own_setCell ho (p := ⟨g7, 1, none⟩) n3 _) hs, h.ne1, n3, ?_⟩
  intro x e1 e2
  have := l1 _ e1
  have := l3 _ e2
  omega
set_option maxRecDepth 100000 in
set_option maxHeartbeats 8000000 in
theorem raR9 (ops : Array Oper) (hops : Tryd.f13.body.bind (regAt 9) = some ops) (Q : Exit → Act → World → Prop) (g3 g7 g9 n m : Nat) (num : Int) (cl tx : ByteArray) (Ae Ac : Option Addr) (ne nc ce cc : Nat) (x : Edt) (r : Rev) (v1 v2 : Value) (xs ys : List Value) (V V1 : World)
    (hR : ApR V V1 g7 v1 v2 n m xs ys) (hB : Blk V1 g9 39 [.string x.path, .int .i64 x.act, .int .i64 x.ty.base, .bool x.ty.k, .bool x.ty.l, .bool x.ty.x, .int .u64 x.sum, .int .i64 x.size, .int .i64 x.base, .string x.frm, .int .i64 x.fnum, .int .i64 x.fence]) (hC : Blk V1 g3 42 [.int .i64 num, .string cl, .string tx, .slice Ae ne ce, .slice Ac nc cc]) (hn : n ≤ 100000)
    (hrev : ∀ X, Below V1.heap.size V1 X → Calls Tryd.prog 25 #[.agg #[.int .i64 num, .string cl, .string tx, .slice Ae ne ce, .slice Ac nc cc], .agg #[.string x.path, .int .i64 x.act, .int .i64 x.ty.base, .bool x.ty.k, .bool x.ty.l, .bool x.ty.x, .int .u64 x.sum, .int .i64 x.size, .int .i64 x.base, .string x.frm, .int .i64 x.fnum, .int .i64 x.fence]] X fun e w' => e = .returned (.agg #[.string r.path, .int .i64 r.num, .int .i64 r.chg, .int .i64 r.act, .int .i64 r.ty.base, .bool r.ty.k, .bool r.ty.l, .bool r.ty.x, .int .u64 r.sum, .int .i64 r.size, .string r.frm, .int .i64 r.fnum]) ∧ Below X.heap.size X w')
    (u0 u1 u2 u4 u5 u6 u8 u10 u11 u12 u13 u14 u15 u16 u17 u18 u19 u20 u21 u22 u23 u24 u25 u26 u27 u28 u29 u30 u31 u32 u33 u34 u35 u36 u37 u38 u39 u40 u41 u42 u43 u44 u45 u46 u47 u48 u49 : Value)
    (hQ : ∀ (t30 t31 t32 t33 t34 t35 t36 t37 : Value) (v3 : Value) (w' : World), Hid (ApR V w' g7 v3 v2 (n + 1) m (xs ++ [.string r.path, .int .i64 r.num, .int .i64 r.chg, .int .i64 r.act, .int .i64 r.ty.base, .bool r.ty.k, .bool r.ty.l, .bool r.ty.x, .int .u64 r.sum, .int .i64 r.size, .string r.frm, .int .i64 r.fnum]) ys) → Q .normal ⟨#[u0, u1, u2, .pointer (some ⟨g3, 0, none⟩), u4, u5, u6, .pointer (some ⟨g7, 0, none⟩), u8, .pointer (some ⟨g9, 0, none⟩), u10, u11, u12, u13, u14, u15, u16, u17, u18, u19, u20, u21, u22, u23, u24, u25, u26, u27, u28, u29, t30, t31, t32, t33, t34, t35, t36, t37, u38, u39, u40, u41, u42, u43, u44, u45, u46, u47, u48, u49], []⟩ w') :
    (Code.region 9 ops true).wp Tryd.prog Q ⟨#[u0, u1, u2, .pointer (some ⟨g3, 0, none⟩), u4, u5, u6, .pointer (some ⟨g7, 0, none⟩), u8, .pointer (some ⟨g9, 0, none⟩), u10, u11, u12, u13, u14, u15, u16, u17, u18, u19, u20, u21, u22, u23, u24, u25, u26, u27, u28, u29, u30, u31, u32, u33, u34, u35, u36, u37, u38, u39, u40, u41, u42, u43, u44, u45, u46, u47, u48, u49], []⟩ V1 := by
  simp only [Tryd.f13, Option.bind_some, regAt] at hops
  simp at hops
  subst hops
  obtain ⟨A1, c1, hv1⟩ := own_slice hR.one
  subst hv1
  have HQ := Lib.hid hQ
  have HR := Lib.hid hR
  have HB := Lib.hid hB
  have HC := Lib.hid hC
  have HRV2 := Lib.hid hrev
  clear hQ hR hB hrev hC
  have f0 : V1.cell? ⟨g7, 0, none⟩ = some (.slice A1 n c1) := HR.out.box.cell 0
  obtain ⟨c0, c1', c2, c3, c4, c5, c6, c7, c8, c9, c10, c11⟩ := box12 HB.out
  obtain ⟨k0, k1, k2, k3, k4⟩ := box5 HC.out
  refine wp_region_noPanic ?_
  go_region_law (first
    | (refine step_app rfl rfl revElem (own_below (own_below HR.out.one hS5) ((Below.refl _ _).alloc (Nat.le_refl _) _)) (by simp [Act.eval, Act.put]) (row_new w5 [.string r.path, .int .i64 r.num, .int .i64 r.chg, .int .i64 r.act, .int .i64 r.ty.base, .bool r.ty.k, .bool r.ty.l, .bool r.ty.x, .int .u64 r.sum, .int .i64 r.size, .string r.frm, .int .i64 r.fnum] _ 12 1 rfl (by decide) _ rfl) (by simp [Act.eval, Act.put]) (by simp [Value.oneCell']) (by omega) (by unfold maxLen; omega) (by have := hS5.size; have := HR.out.bel.size; simp; omega) ?_; intro A6 c6' w6 hO6 hG6 hw6; have hbx := (HR.out.box.below (below_next hS5 ((Below.refl _ _).alloc (Nat.le_refl _) _)) HR.out.box.lt).grown hG6 (fun e => HR.out.ne1 e.symm); obtain ⟨b0, b1, g0, g1⟩ := box2 hbx)
    | (go_simp; go_at_call 25; refine (HRV2.out _ (Below.refl _ _).drew).mono ?_; rintro e w5 ⟨rfl, hX5⟩; have hS5 : Below V1.heap.size V1 w5 := (Below.refl _ _).drew.trans hX5; have f5 : w5.cell? ⟨g7, 0, none⟩ = some (.slice A1 n c1) := (HR.out.box.below hS5 HR.out.box.lt).cell 0; have f6 : (w5.alloc (.cells #[.string r.path, .int .i64 r.num, .int .i64 r.chg, .int .i64 r.act, .int .i64 r.ty.base, .bool r.ty.k, .bool r.ty.l, .bool r.ty.x, .int .u64 r.sum, .int .i64 r.size, .string r.frm, .int .i64 r.fnum] 33)).cell? ⟨g7, 0, none⟩ = some (.slice A1 n c1) := (HR.out.box.below (hS5.alloc hS5.size _) HR.out.box.lt).cell 0))
  all_goals exact NoPanic.normal (HQ.out _ _ _ _ _ _ _ _ _ _ (HR.out.push (below_next hS5 ((Below.refl _ _).alloc (Nat.le_refl _) _)) hO6 hG6 hw6))
end Go.Proofs.YtnblfaagchflaaaDoor
/- The reference's Append: the region of the records. -/
namespace Go.Proofs.YtnblfaagchflaaaDoor
open Go.RowKit
set_option linter.unusedVariables false
set_option linter.unusedSimpArgs false

/-- What Sorted leaves of a row of records. -/
def SoR (w6 w7 : World) (base : Nat) (v : Value) (rs : List Rcd) : Prop := ∃ l : List Rcd, l.Perm rs ∧ l.Pairwise (fun a b => 0 ≤ cmpR b a) ∧ w7.ownsRow base 50 6 v rs.length (l.flatMap Rcd.cells) ∧ w6.grownBy w7 v.ownBlock
theorem fine_list : ∀ {rs : List Rcd}, (∀ r ∈ rs, r.fine) → ∃ l : List FnRcd, l.map (·.1) = rs
  | [], _ => ⟨[], rfl⟩
  | r :: rs, h => by
    obtain ⟨l, hl⟩ := fine_list (rs := rs) fun x hx => h x (List.mem_cons_of_mem _ hx)
    exact ⟨⟨r, h r (List.mem_cons_self ..)⟩ :: l, by rw [List.map_cons, hl]⟩
theorem fine_enc (l : List FnRcd) : l.flatMap FnRcd.enc = (l.map (·.1)).flatMap Rcd.cells := by
  induction l with
  | nil => rfl
  | cons a l ih => rw [List.flatMap_cons, List.map_cons, List.flatMap_cons, ih]; rfl
theorem sorted_recs (rs : List Rcd) (hf : ∀ r ∈ rs, r.fine) (v : Value) (base : Nat) (w6 : World) (he : Env w6) (hg : 0 < base) (hown : w6.ownsRow base 50 6 v rs.length (rs.flatMap Rcd.cells)) (hl : rs.length ≤ 100000) :
    Calls Tryd.prog 26 #[v] w6 fun e w7 => e = .returned v ∧ SoR w6 w7 base v rs := by
  obtain ⟨l, rfl⟩ := fine_list hf
  rw [List.length_map] at hown hl
  rw [← fine_enc] at hown
  refine (refSorted_any l v base w6 he hg hown hl).mono ?_
  rintro e w7 ⟨rfl, l', h1, h2, h3, h4⟩
  refine ⟨rfl, l'.map (·.1), h1.map _, ?_, ?_, h4⟩
  · rw [List.pairwise_map]
    refine h2.imp ?_
    intro a b h
    have : ¬ cmpR b.1 a.1 < 0 := h
    omega
  · rw [List.length_map, ← fine_enc]; exact h3
set_option maxRecDepth 100000 in
set_option maxHeartbeats 8000000 in
theorem raR11 (ops : Array Oper) (hops : Tryd.f13.body.bind (regAt 11) = some ops) (Q : Exit → Act → World → Prop) (g2 g3 g7 n : Nat) (num : Int) (cl tx : ByteArray) (Aq Ac Ae : Option Addr) (ne cq cc ce : Nat) (ds cs : List Rcd) (v0 v1 : Value) (xs : List Value) (V V1 : World)
    (hR : ApR V V1 g7 v1 (.slice none 0 0) n 0 xs []) (hD : Blk V1 g2 25 [v0, .slice Aq ds.length cq]) (hC : Blk V1 g3 42 [.int .i64 num, .string cl, .string tx, .slice Ae ne ce, .slice Ac cs.length cc]) (hQd : Rcds V1 (.slice Aq ds.length cq) ds) (hQc : Rcds V1 (.slice Ac cs.length cc) cs)
    (hf : ∀ r ∈ ds ++ cs, r.fine) (he : Env V1) (hl1 : ds.length ≤ 1000) (hl2 : cs.length ≤ 1000)
    (u0 u1 u4 u5 u6 u8 u9 u10 u11 u12 u13 u14 u15 u16 u17 u18 u19 u20 u21 u22 u23 u24 u25 u26 u27 u28 u29 u30 u31 u32 u33 u34 u35 u36 u37 u38 u39 u40 u41 u42 u43 u44 u45 u46 u47 u48 u49 : Value)
    (hQ : ∀ (t39 t40 t41 t42 t43 t44 t45 t46 t47 t48 : Value) (v3 : Value) (l : List Rcd) (w' : World), Hid (ApR V w' g7 v1 v3 n (ds.length + cs.length) xs (l.flatMap Rcd.cells) ∧ l.Perm (ds ++ cs) ∧ l.Pairwise (fun a b => 0 ≤ cmpR b a)) → Q .normal ⟨#[u0, u1, .pointer (some ⟨g2, 0, none⟩), .pointer (some ⟨g3, 0, none⟩), u4, u5, u6, .pointer (some ⟨g7, 0, none⟩), u8, u9, u10, u11, u12, u13, u14, u15, u16, u17, u18, u19, u20, u21, u22, u23, u24, u25, u26, u27, u28, u29, u30, u31, u32, u33, u34, u35, u36, u37, u38, t39, t40, t41, t42, t43, t44, t45, t46, t47, t48, u49], []⟩ w') :
    (Code.region 11 ops true).wp Tryd.prog Q ⟨#[u0, u1, .pointer (some ⟨g2, 0, none⟩), .pointer (some ⟨g3, 0, none⟩), u4, u5, u6, .pointer (some ⟨g7, 0, none⟩), u8, u9, u10, u11, u12, u13, u14, u15, u16, u17, u18, u19, u20, u21, u22, u23, u24, u25, u26, u27, u28, u29, u30, u31, u32, u33, u34, u35, u36, u37, u38, u39, u40, u41, u42, u43, u44, u45, u46, u47, u48, u49], []⟩ V1 := by
  simp only [Tryd.f13, Option.bind_some, regAt] at hops
  simp at hops
  subst hops
  have HQ := Lib.hid hQ
  have HR := Lib.hid hR
  have HQD := Lib.hid hQd
  have HQC := Lib.hid hQc
  have hmx : 0 < V1.heap.size := by obtain ⟨m, hm⟩ := he; exact cell_lt hm
  have HSO := Lib.hid (fun A6 c6 w6 (hX : Below V1.heap.size V1 w6) (hO : w6.ownsRow V1.heap.size 50 6 (.slice A6 (ds.length + cs.length) c6) (ds.length + cs.length) (ds.flatMap Rcd.cells ++ cs.flatMap Rcd.cells)) => sorted_recs (ds ++ cs) hf (.slice A6 (ds.length + cs.length) c6) V1.heap.size w6 (he.below hX) hmx (by rw [List.length_append, List.flatMap_append]; exact hO) (by rw [List.length_append]; omega))
  have HFF : Hid (∀ w', Below V1.heap.size V1 w' → w'.cell? ⟨g2, 1, none⟩ = some (.slice Aq ds.length cq) ∧ w'.cell? ⟨g3, 4, none⟩ = some (.slice Ac cs.length cc) ∧ w'.cell? ⟨g7, 1, none⟩ = some (.slice none 0 0) ∧ w'.frozen? ⟨g7, 1, none⟩ = false) := Lib.hid fun w' hb => by
    obtain ⟨-, a, -, -⟩ := box2 (hD.below hb hD.lt)
    obtain ⟨-, -, -, -, b⟩ := box5 (hC.below hb hC.lt)
    obtain ⟨-, c, -, d⟩ := box2 (hR.box.below hb hR.box.lt)
    exact ⟨a, b, c, d⟩
  clear hQ hR hD hC hQd hQc hf he hmx
  obtain ⟨f0, f1, f2, f3⟩ := HFF.out V1 (Below.refl _ _)
  refine wp_region_noPanic ?_
  go_region_law (first
    | (refine step_app (base := V1.heap.size) (n := 0) (xs := []) rfl rfl rcdElem (World.ownsRow_nil _ _ _ _) (by simp [Act.eval, Act.put]; done) (HQD.out.below (Below.refl _ _).drew) (by simp [Act.eval, Act.put]; done) (rcd_one _) (by omega) (by unfold maxLen; omega) (Below.size (B := V1.heap.size) (w := V1) (Below.refl _ _).drew) ?_; intro A5 c5 w5 hO5 hG5 hw5; have hX5 := nogrow hG5 rfl; have hS5 : Below V1.heap.size V1 w5 := below_next (Below.refl _ _).drew hX5; obtain ⟨f4, f5, f6, f7⟩ := HFF.out w5 hS5; rw [Nat.zero_add, List.nil_append] at hO5)
    | (refine step_app rfl rfl rcdElem hO5 (by simp [Act.eval, Act.put]; done) (HQC.out.below hS5) (by simp [Act.eval, Act.put]; done) (rcd_one _) (by omega) (by unfold maxLen; omega) hS5.size ?_; intro A6 c6 w6 hO6 hG6 hw6; have hS6 : Below V1.heap.size V1 w6 := hS5.grown hG6 hS5.size (fun k e => (hO5.lt k e).1); obtain ⟨f8, f9, f10, f11⟩ := HFF.out w6 hS6)
    | (go_simp; go_at_call 26; refine (HSO.out A6 c6 w6 hS6 hO6).mono ?_; rintro e w7 ⟨rfl, l, hp, hpw, hO7, hG7⟩; have hS7 : Below V1.heap.size V1 w7 := hS6.grown hG7 hS6.size (fun k e => (hO6.lt k e).1); obtain ⟨f12, f13, f14, f15⟩ := HFF.out w7 hS7; rw [List.length_append] at hO7))
  all_goals exact NoPanic.normal (HQ.out _ _ _ _ _ _ _ _ _ _ _ _ _ ⟨HR.out.put2 hS7 hO7, hp, hpw⟩)
end Go.Proofs.YtnblfaagchflaaaDoor
