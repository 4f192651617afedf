/- The reference's Check: its moves, its edits. -/
import Derived.Test.YtnblfaagchflaaaGreatDoorMgw19
import Derived.Test.YtnblfaagchflaaaGreatDoorMgw27
import Derived.Test.YtnblfaagchflaaaGreatDoorMgw34
namespace Go.Proofs.YtnblfaagchflaaaGreatDoor
open Go.RowKit
set_option linter.unusedVariables false
set_option linter.unusedSimpArgs false

set_option maxRecDepth 100000 in
set_option maxHeartbeats 8000000 in
theorem ckT18 (T : Code) (hT : Tryz.f60.body.bind (tailAt 18) = some T) (R : Ending → World → Prop) (d : Dep) (c : Chg) (Ar Aq Ae Ac : Option Addr) (cr cq ce cc g2 g3 : Nat) (w : World) (hb : CkB d c)
    (he : Env w) (hR : Revs w (.slice Ar d.revs.length cr) d.revs) (hP : Edts w (.slice Ae c.edits.length ce) c.edits) (hQ : Rcds w (.slice Ac c.recs.length cc) c.recs)
    (hD : Blk w g2 31 [.slice Ar d.revs.length cr, .slice Aq d.recs.length cq])
    (hC : Blk w g3 53 [.int .i64 c.num, .string c.client, .string c.text, .slice Ae c.edits.length ce, .slice Ac c.recs.length cc]) (hs : ∀ r ∈ d.revs, r.chg < c.num) (h2 : everyE (lastOf d.revs) emptyS c.edits = 0)
    (hRR : ∀ (n : Int) (w' : World), n = (if movesE c.edits ≠ 0 then movesE c.edits else if recsE d.revs c ≠ 0 then recsE d.revs c else roomE d c) → Below w.heap.size w w' → R (.returned (.int .i64 n)) w')
    (u0 u1 u4 u5 u6 u7 u8 u9 u10 u11 u12 u13 u14 u15 u16 u17 u18 u19 u20 u21 u22 u23 u24 u25 u26 u27 u28 u29 u30 u31 u32 u33 u34 u35 u36 u37 u38 u39 u40 u41 u42 u43 u44 u45 u46 u47 u48 u49 u50 u51 u52 u53 u54 u55 u56 u57 u58 u59 u60 u61 u62 u63 u64 u65 u66 u67 u68 u69 u70 u71 u72 u73 u74 u75 u76 u77 u78 u79 u80 u81 u82 u83 u84 u85 u86 u87 u88 u89 u90 u91 u92 u93 u94 u95 u96 u97 u98 u99 u100 u101 u102 u103 u104 : Value) :
    T.wp Tryz.prog (bodyPost Tryz.prog Tryz.f60 R) ⟨#[u0, u1, .pointer (some ⟨g2, 0, none⟩), .pointer (some ⟨g3, 0, none⟩), u4, u5, u6, u7, u8, u9, u10, u11, u12, u13, u14, u15, u16, u17, u18, u19, u20, u21, u22, u23, u24, u25, u26, u27, u28, u29, u30, u31, u32, u33, u34, u35, u36, u37, u38, u39, u40, u41, u42, u43, u44, u45, u46, u47, u48, u49, u50, u51, u52, u53, u54, u55, u56, u57, u58, u59, u60, u61, u62, u63, u64, u65, u66, u67, u68, u69, u70, u71, u72, u73, u74, u75, u76, u77, u78, u79, u80, u81, u82, u83, u84, u85, u86, u87, u88, u89, u90, u91, u92, u93, u94, u95, u96, u97, u98, u99, u100, u101, u102, u103, u104], []⟩ w := by
  simp only [Tryz.f60, Option.bind_some, tailAt, hasReg] at hT
  simp at hT
  subst hT
  have HRR := Lib.hid hRR
  have HEN := Lib.hid he
  have HR := Lib.hid hR
  have HP := Lib.hid hP
  have HQ := Lib.hid hQ
  have HD := Lib.hid hD
  have HC := Lib.hid hC
  have HB := Lib.hid hb
  clear hRR he hR hP hQ hD hC hb
  have bl1 := HB.out.el
  have bl2 := HB.out.rl
  have bl3 : d.revs.length ≤ 100000 := by have := HB.out.dw.len; omega
  have HMV := Lib.hid (fun x X (hX : Below w.heap.size w X) => refMoved_any c.edits c.num c.client c.text Ae Ac c.recs.length ce cc x X (HP.out.below hX) HB.out.el)
  have HNO := Lib.hid (fun x (hx : x ∈ c.edits) h => moves_no h2 hx h)
  have HYES := Lib.hid (fun h => moves_yes h2 h)
  have HQE : Hid (∀ n : Int, movesE c.edits = 117 → n = 117 → n = (if movesE c.edits ≠ 0 then movesE c.edits else if recsE d.revs c ≠ 0 then recsE d.revs c else roomE d c)) := Lib.hid (fun n h1 h3 => by rw [h1, h3]; rfl)
  generalize movesE c.edits = V at HRR HNO HYES HQE
  have HT := Lib.hid (fun T hT R W he hR hP hQ hD hC hRR => ckT24 T hT R d c Ar Aq Ae Ac cr cq ce cc g2 g3 W HB.out he hR hP hQ hD hC hs h2 hRR)
  obtain ⟨k0, k1, k2, k3, k4⟩ := box5 HC.out
  go_upto_block 4 with fail
  clear k0 k1 k2 k3 k4
  go_cut [] (fun wx => Hid (Below w.heap.size w wx ∧ V = 0))
  case first =>
    go_wp2_with fail
    go_loopw [66] (fun s wr => ∃ k : Nat, s = .int .i64 k ∧ k ≤ c.edits.length ∧ Hid (Below w.heap.size w wr ∧ ∀ j (hj : j < c.edits.length), j < k → movedB c.edits c.edits[j] = true)) (fun s _ => c.edits.length - (intOf s).toNat)
    case atStart => exact ⟨0, rfl, Nat.zero_le _, Below.refl _ _, fun j _ hj => by omega⟩
    case round =>
      obtain ⟨k, rfl, hk, HI⟩ := hrel
      by_cases hlt : k < c.edits.length
      · have qlt : decide ((k : Int) < (c.edits.length : Int)) = true := by simp; omega
        obtain ⟨ad, rfl, hab, hld⟩ := Edts.at_ (HP.out.below HI.out.1) hlt
        have hmem : c.edits[k] ∈ c.edits := List.getElem_mem hlt
        have HJ : Hid (movedB c.edits c.edits[k] = true → ∀ j (hj : j < c.edits.length), j < k + 1 → movedB c.edits c.edits[j] = true) := Lib.hid (fun h j hj hjk => by
            by_cases e : j = k
            · subst e; exact h
            · exact HI.out.2 j hj (by omega))
        generalize c.edits[k] = x at hld hmem HJ
        have HMEM := Lib.hid hmem
        clear hmem
        obtain ⟨x0, x1, x2, x3, x4, x5, x6, x7, x8, x9, x10, x11⟩ := hld
        have hX := blk_new wr [.string x.path, .int .i64 x.act, .int .i64 x.ty.base, .bool x.ty.k, .bool x.ty.l, .bool x.ty.x, .int .u64 x.sum, .int .i64 x.size, .int .i64 x.base, .string x.frm, .int .i64 x.fnum, .int .i64 x.fence] 55
        have hA1 := HI.out.1.alloc HI.out.1.size (.cells #[.string x.path, .int .i64 x.act, .int .i64 x.ty.base, .bool x.ty.k, .bool x.ty.l, .bool x.ty.x, .int .u64 x.sum, .int .i64 x.size, .int .i64 x.base, .string x.frm, .int .i64 x.fnum, .int .i64 x.fence] 55)
        go_upto_region 21 with fail
        clear x0 x1 x2 x3 x4 x5 x6 x7 x8 x9 x10 x11
        generalize wr.alloc (.cells #[.string x.path, .int .i64 x.act, .int .i64 x.ty.base, .bool x.ty.k, .bool x.ty.l, .bool x.ty.x, .int .u64 x.sum, .int .i64 x.size, .int .i64 x.base, .string x.frm, .int .i64 x.fnum, .int .i64 x.fence] 55) = V1 at hX hA1 ⊢
        generalize wr.heap.size = g10 at hX ⊢
        have HA1 := Lib.hid hA1
        obtain ⟨x0, x1, x2, x3, x4, x5, x6, x7, x8, x9, x10, x11⟩ := box12 hX
        obtain ⟨k0, k1, k2, k3, k4⟩ := box5 (HC.out.below HA1.out HC.out.lt)
        have HR1 := Lib.hid (HMV.out x V1 HA1.out)
        generalize hbb : movedB c.edits x = bb at HR1 HJ
        have HBB := Lib.hid hbb
        clear hX hA1 hbb
        go_wp2_with fail
        refine HR1.out.mono ?_
        rintro e w2 ⟨rfl, hb2⟩
        have HB2 := Lib.hid (below_next HA1.out hb2)
        clear hb2 k0 k1 k2 k3 k4 x0 x1 x2 x3 x4 x5 x6 x7 x8 x9 x10 x11
        dsimp only
        cases bb with
        | false =>
          have HF := Lib.hid (HNO.out x HMEM.out HBB.out)
          go_wp2_with fail
          exact HRR.out _ _ (HQE.out _ HF.out rfl) HB2.out
        | true =>
          have HJ2 := Lib.hid (HJ.out rfl)
          go_wp2_with fail
          go_roundw
          case rel => exact ⟨k + 1, by go_num, by omega, HB2.out, HJ2.out⟩
          case measure => simp [intOf]; omega
      · have hke : k = c.edits.length := by omega
        have q : decide ((k : Int) < (c.edits.length : Int)) = false := by simp; omega
        have q' : decide (k < c.edits.length) = false := by simp; omega
        have HZ : Hid (V = 0) := Lib.hid (HYES.out fun x hx => by obtain ⟨j, hj, rfl⟩ := List.mem_iff_getElem.1 hx; exact HI.out.2 j hj (by omega))
        have HW := Lib.hid HI.out.1
        clear hke
        go_wp2_with fail
        go_meet
        exact ⟨HW.out, HZ.out⟩
  case rest =>
    have HV := Lib.hid hcut.out
    clear hcut
    have hk := ‹∀ (a : Act) (w : World), Code.wp _ _ _ a w → _›
    exact hk _ _ (HT.out _ (by kernel_rfl) _ _ (HEN.out.below HV.out.1) (HR.out.below HV.out.1) (HP.out.below HV.out.1) (HQ.out.below HV.out.1) (HD.out.below HV.out.1 HD.out.lt) (HC.out.below HV.out.1 HC.out.lt) (fun n w' hn hw => HRR.out n w' (by rw [HV.out.2, hn]; rfl) (below_next HV.out.1 hw)) _ _ _ _ _ _ _ _ _ _ _ _ _ _ _ _ _ _ _ _ _ _ _ _ _ _ _ _ _ _ _ _ _ _ _ _ _ _ _ _ _ _ _ _ _ _ _ _ _ _ _ _ _ _ _ _ _ _ _ _ _ _ _ _ _ _ _ _ _ _ _ _ _ _ _ _ _ _ _ _ _ _ _ _ _ _ _ _ _ _ _ _ _ _ _ _ _ _ _ _ _ _ _)
set_option maxRecDepth 100000 in
set_option maxHeartbeats 8000000 in
theorem ckT11 (T : Code) (hT : Tryz.f60.body.bind (tailAt 11) = some T) (R : Ending → World → Prop) (d : Dep) (c : Chg) (Ar Aq Ae Ac : Option Addr) (cr cq ce cc g2 g3 : Nat) (w : World) (hb : CkB d c)
    (he : Env w) (hR : Revs w (.slice Ar d.revs.length cr) d.revs) (hP : Edts w (.slice Ae c.edits.length ce) c.edits) (hQ : Rcds w (.slice Ac c.recs.length cc) c.recs)
    (hD : Blk w g2 31 [.slice Ar d.revs.length cr, .slice Aq d.recs.length cq])
    (hC : Blk w g3 53 [.int .i64 c.num, .string c.client, .string c.text, .slice Ae c.edits.length ce, .slice Ac c.recs.length cc]) (hs : ∀ r ∈ d.revs, r.chg < c.num)
    (hRR : ∀ (n : Int) (w' : World), n = (if everyE (lastOf d.revs) emptyS c.edits ≠ 0 then everyE (lastOf d.revs) emptyS c.edits else if movesE c.edits ≠ 0 then movesE c.edits else if recsE d.revs c ≠ 0 then recsE d.revs c else roomE d c) → Below w.heap.size w w' → R (.returned (.int .i64 n)) w')
    (u0 u1 u4 u5 u6 u7 u8 u9 u10 u11 u12 u13 u14 u15 u16 u17 u18 u19 u20 u21 u22 u23 u24 u25 u26 u27 u28 u29 u30 u31 u32 u33 u34 u35 u36 u37 u38 u39 u40 u41 u42 u43 u44 u45 u46 u47 u48 u49 u50 u51 u52 u53 u54 u55 u56 u57 u58 u59 u60 u61 u62 u63 u64 u65 u66 u67 u68 u69 u70 u71 u72 u73 u74 u75 u76 u77 u78 u79 u80 u81 u82 u83 u84 u85 u86 u87 u88 u89 u90 u91 u92 u93 u94 u95 u96 u97 u98 u99 u100 u101 u102 u103 u104 : Value) :
    T.wp Tryz.prog (bodyPost Tryz.prog Tryz.f60 R) ⟨#[u0, u1, .pointer (some ⟨g2, 0, none⟩), .pointer (some ⟨g3, 0, none⟩), u4, u5, u6, u7, u8, u9, u10, u11, u12, u13, u14, u15, u16, u17, u18, u19, u20, u21, u22, u23, u24, u25, u26, u27, u28, u29, u30, u31, u32, u33, u34, u35, u36, u37, u38, u39, u40, u41, u42, u43, u44, u45, u46, u47, u48, u49, u50, u51, u52, u53, u54, u55, u56, u57, u58, u59, u60, u61, u62, u63, u64, u65, u66, u67, u68, u69, u70, u71, u72, u73, u74, u75, u76, u77, u78, u79, u80, u81, u82, u83, u84, u85, u86, u87, u88, u89, u90, u91, u92, u93, u94, u95, u96, u97, u98, u99, u100, u101, u102, u103, u104], []⟩ w := by
  simp only [Tryz.f60, Option.bind_some, tailAt, hasReg] at hT
  simp at hT
  subst hT
  have HRR := Lib.hid hRR
  have HEN := Lib.hid he
  have HR := Lib.hid hR
  have HP := Lib.hid hP
  have HQ := Lib.hid hQ
  have HD := Lib.hid hD
  have HC := Lib.hid hC
  have HB := Lib.hid hb
  clear hRR he hR hP hQ hD hC hb
  have bl1 := HB.out.el
  have bl2 := HB.out.rl
  have bl3 : d.revs.length ≤ 100000 := by have := HB.out.dw.len; omega
  have HED := Lib.hid (fun k (hk : k < c.edits.length) hv X (hX : Below w.heap.size w X) => refEdit_any d c (.slice Ar d.revs.length cr) (.slice Aq d.recs.length cq) Ae Ac ce cc k X (HEN.out.below hX) (HR.out.below hX) (by have := HB.out.dw.len; omega) (HP.out.below hX) hk HB.out.el HB.out.ok.log HB.out.path hv)
  have HNO := Lib.hid (fun i hi hz h => every_at (last := lastOf d.revs) c.edits emptyS i hi hz h)
  have HYES := Lib.hid (fun h => every_all (last := lastOf d.revs) c.edits emptyS h)
  have HQE : Hid (∀ n : Int, n ≠ 0 → everyE (lastOf d.revs) emptyS c.edits = n → n = (if everyE (lastOf d.revs) emptyS c.edits ≠ 0 then everyE (lastOf d.revs) emptyS c.edits else if movesE c.edits ≠ 0 then movesE c.edits else if recsE d.revs c ≠ 0 then recsE d.revs c else roomE d c)) := Lib.hid (fun n h1 h3 => by rw [h3, if_pos h1])
  obtain ⟨V, hV⟩ : ∃ V, V = everyE (lastOf d.revs) emptyS c.edits := ⟨_, rfl⟩
  rw [← hV] at HRR HNO HYES HQE
  have HVV := Lib.hid hV
  clear hV
  have HT := Lib.hid (fun T hT R W he hR hP hQ hD hC h2 hRR => ckT18 T hT R d c Ar Aq Ae Ac cr cq ce cc g2 g3 W HB.out he hR hP hQ hD hC hs h2 hRR)
  obtain ⟨k0, k1, k2, k3, k4⟩ := box5 HC.out
  go_upto_block 2 with fail
  clear k0 k1 k2 k3 k4
  go_cut [] (fun wx => Hid (Below w.heap.size w wx ∧ V = 0))
  case first =>
    go_wp2_with fail
    go_loopw [52] (fun s wr => ∃ k : Nat, s = .int .i64 k ∧ k ≤ c.edits.length ∧ Hid (Below w.heap.size w wr ∧ ∀ j (hj : j < c.edits.length), j < k → editE (lastOf d.revs) (aheadQ emptyS c.edits j) c.edits[j] = 0)) (fun s _ => c.edits.length - (intOf s).toNat)
    case atStart => exact ⟨0, rfl, Nat.zero_le _, Below.refl _ _, fun j _ hj => by omega⟩
    case round =>
      obtain ⟨k, rfl, hk, HI⟩ := hrel
      by_cases hlt : k < c.edits.length
      · have qlt : decide ((k : Int) < (c.edits.length : Int)) = true := by simp; omega
        obtain ⟨d0, d1, -, -⟩ := box2 (HD.out.below HI.out.1 HD.out.lt)
        obtain ⟨k0, k1, k2, k3, k4⟩ := box5 (HC.out.below HI.out.1 HC.out.lt)
        have HR1 := Lib.hid (HED.out k hlt (fun j hj hjk => (editE_zero (HI.out.2 j hj hjk)).1) wr HI.out.1)
        have HN1 := Lib.hid (HNO.out k hlt (fun j hj => HI.out.2 j (by omega) hj))
        have HJ : Hid (editE (lastOf d.revs) (aheadQ emptyS c.edits k) c.edits[k] = 0 → ∀ j (hj : j < c.edits.length), j < k + 1 → editE (lastOf d.revs) (aheadQ emptyS c.edits j) c.edits[j] = 0) := Lib.hid (fun h j hj hjk => by
            by_cases e : j = k
            · subst e; exact h
            · exact HI.out.2 j hj (by omega))
        generalize editE (lastOf d.revs) (aheadQ emptyS c.edits k) c.edits[k] = er at HR1 HN1 HJ
        go_wp2_with fail
        refine HR1.out.mono ?_
        rintro e w2 ⟨rfl, hb2⟩
        have HB2 := Lib.hid (below_next HI.out.1 hb2)
        clear hb2 d0 d1 k0 k1 k2 k3 k4
        dsimp only
        by_cases h0 : er = 0
        · have HJ2 := Lib.hid (HJ.out h0)
          subst h0
          go_wp2_with fail
          go_roundw
          case rel => exact ⟨k + 1, by go_num, by omega, HB2.out, HJ2.out⟩
          case measure => simp [intOf]; omega
        · have q0 : (er != 0) = true := by simpa using h0
          have HF := Lib.hid (HQE.out er h0 (HN1.out h0))
          clear h0
          go_wp2_with fail
          exact HRR.out _ _ HF.out HB2.out
      · have hke : k = c.edits.length := by omega
        have q : decide ((k : Int) < (c.edits.length : Int)) = false := by simp; omega
        have q' : decide (k < c.edits.length) = false := by simp; omega
        have HZ : Hid (V = 0) := Lib.hid (HYES.out fun j hj => HI.out.2 j hj (by omega))
        have HW := Lib.hid HI.out.1
        clear hke
        go_wp2_with fail
        go_meet
        exact ⟨HW.out, HZ.out⟩
  case rest =>
    have HV := Lib.hid hcut.out
    clear hcut
    have hk := ‹∀ (a : Act) (w : World), Code.wp _ _ _ a w → _›
    exact hk _ _ (HT.out _ (by kernel_rfl) _ _ (HEN.out.below HV.out.1) (HR.out.below HV.out.1) (HP.out.below HV.out.1) (HQ.out.below HV.out.1) (HD.out.below HV.out.1 HD.out.lt) (HC.out.below HV.out.1 HC.out.lt) (HVV.out.symm.trans HV.out.2) (fun n w' hn hw => HRR.out n w' (by rw [HV.out.2, hn]; rfl) (below_next HV.out.1 hw)) _ _ _ _ _ _ _ _ _ _ _ _ _ _ _ _ _ _ _ _ _ _ _ _ _ _ _ _ _ _ _ _ _ _ _ _ _ _ _ _ _ _ _ _ _ _ _ _ _ _ _ _ _ _ _ _ _ _ _ _ _ _ _ _ _ _ _ _ _ _ _ _ _ _ _ _ _ _ _ _ _ _ _ _ _ _ _ _ _ _ _ _ _ _ _ _ _ _ _ _ _ _ _)
end Go.Proofs.YtnblfaagchflaaaGreatDoor
/- The reference's Check: the walk. -/
namespace Go.Proofs.YtnblfaagchflaaaGreatDoor
open Go.RowKit
set_option linter.unusedVariables false
set_option linter.unusedSimpArgs false

set_option maxRecDepth 100000 in
set_option maxHeartbeats 8000000 in
theorem ckT5 (T : Code) (hT : Tryz.f60.body.bind (tailAt 5) = some T) (R : Ending → World → Prop) (d : Dep) (c : Chg) (Ar Aq Ae Ac : Option Addr) (cr cq ce cc g2 g3 : Nat) (w : World) (hb : CkB d c)
    (he : Env w) (hR : Revs w (.slice Ar d.revs.length cr) d.revs) (hP : Edts w (.slice Ae c.edits.length ce) c.edits) (hQ : Rcds w (.slice Ac c.recs.length cc) c.recs)
    (hD : Blk w g2 31 [.slice Ar d.revs.length cr, .slice Aq d.recs.length cq])
    (hC : Blk w g3 53 [.int .i64 c.num, .string c.client, .string c.text, .slice Ae c.edits.length ce, .slice Ac c.recs.length cc]) 
    (hRR : ∀ (n : Int) (w' : World), n = (if d.revs.any (fun r => decide (c.num ≤ r.chg)) then 112 else (if everyE (lastOf d.revs) emptyS c.edits ≠ 0 then everyE (lastOf d.revs) emptyS c.edits else if movesE c.edits ≠ 0 then movesE c.edits else if recsE d.revs c ≠ 0 then recsE d.revs c else roomE d c)) → Below w.heap.size w w' → R (.returned (.int .i64 n)) w')
    (u0 u1 u4 u5 u6 u7 u8 u9 u10 u11 u12 u13 u14 u15 u16 u17 u18 u19 u20 u21 u22 u23 u24 u25 u26 u27 u28 u29 u30 u31 u32 u33 u34 u35 u36 u37 u38 u39 u40 u41 u42 u43 u44 u45 u46 u47 u48 u49 u50 u51 u52 u53 u54 u55 u56 u57 u58 u59 u60 u61 u62 u63 u64 u65 u66 u67 u68 u69 u70 u71 u72 u73 u74 u75 u76 u77 u78 u79 u80 u81 u82 u83 u84 u85 u86 u87 u88 u89 u90 u91 u92 u93 u94 u95 u96 u97 u98 u99 u100 u101 u102 u103 u104 : Value) :
    T.wp Tryz.prog (bodyPost Tryz.prog Tryz.f60 R) ⟨#[u0, u1, .pointer (some ⟨g2, 0, none⟩), .pointer (some ⟨g3, 0, none⟩), u4, u5, u6, u7, u8, u9, u10, u11, u12, u13, u14, u15, u16, u17, u18, u19, u20, u21, u22, u23, u24, u25, u26, u27, u28, u29, u30, u31, u32, u33, u34, u35, u36, u37, u38, u39, u40, u41, u42, u43, u44, u45, u46, u47, u48, u49, u50, u51, u52, u53, u54, u55, u56, u57, u58, u59, u60, u61, u62, u63, u64, u65, u66, u67, u68, u69, u70, u71, u72, u73, u74, u75, u76, u77, u78, u79, u80, u81, u82, u83, u84, u85, u86, u87, u88, u89, u90, u91, u92, u93, u94, u95, u96, u97, u98, u99, u100, u101, u102, u103, u104], []⟩ w := by
  simp only [Tryz.f60, Option.bind_some, tailAt, hasReg] at hT
  simp at hT
  subst hT
  have HRR := Lib.hid hRR
  have HEN := Lib.hid he
  have HR := Lib.hid hR
  have HP := Lib.hid hP
  have HQ := Lib.hid hQ
  have HD := Lib.hid hD
  have HC := Lib.hid hC
  have HB := Lib.hid hb
  clear hRR he hR hP hQ hD hC hb
  have bl1 := HB.out.el
  have bl2 := HB.out.rl
  have bl3 : d.revs.length ≤ 100000 := by have := HB.out.dw.len; omega
  have HNO := Lib.hid (fun r (hr : r ∈ d.revs) (h : c.num ≤ r.chg) => (show d.revs.any (fun r => decide (c.num ≤ r.chg)) = true from List.any_eq_true.2 ⟨r, hr, decide_eq_true h⟩))
  have HYES : Hid ((∀ j (hj : j < d.revs.length), (d.revs[j]).chg < c.num) → (∀ r ∈ d.revs, r.chg < c.num) ∧ d.revs.any (fun r => decide (c.num ≤ r.chg)) = false) := Lib.hid (fun h => by
    have h2 : ∀ r ∈ d.revs, r.chg < c.num := fun r hr => by obtain ⟨j, hj, rfl⟩ := List.mem_iff_getElem.1 hr; exact h j hj
    refine ⟨h2, ?_⟩
    rw [List.any_eq_false]
    intro r hr hh
    have := h2 r hr
    have := of_decide_eq_true hh
    omega)
  have HT := Lib.hid (fun T hT R W hs he hR hP hQ hD hC hRR => ckT11 T hT R d c Ar Aq Ae Ac cr cq ce cc g2 g3 W HB.out he hR hP hQ hD hC hs hRR)
  generalize (if everyE (lastOf d.revs) emptyS c.edits ≠ 0 then everyE (lastOf d.revs) emptyS c.edits else if movesE c.edits ≠ 0 then movesE c.edits else if recsE d.revs c ≠ 0 then recsE d.revs c else roomE d c) = VR at HRR HT
  generalize d.revs.any (fun r => decide (c.num ≤ r.chg)) = V at HRR HNO HYES
  obtain ⟨d0, d1, -, -⟩ := box2 HD.out
  go_upto_block 0 with fail
  clear d0 d1
  go_cut [] (fun wx => Hid (Below w.heap.size w wx ∧ V = false ∧ ∀ r ∈ d.revs, r.chg < c.num))
  case first =>
    go_wp2_with fail
    go_loopw [39] (fun s wr => ∃ k : Nat, s = .int .i64 k ∧ k ≤ d.revs.length ∧ Hid (Below w.heap.size w wr ∧ ∀ j (hj : j < d.revs.length), j < k → (d.revs[j]).chg < c.num)) (fun s _ => d.revs.length - (intOf s).toNat)
    case atStart => exact ⟨0, rfl, Nat.zero_le _, Below.refl _ _, fun j _ hj => by omega⟩
    case round =>
      obtain ⟨k, rfl, hk, HI⟩ := hrel
      by_cases hlt : k < d.revs.length
      · have qlt : decide ((k : Int) < (d.revs.length : Int)) = true := by simp; omega
        obtain ⟨ad, rfl, hab, hld⟩ := Revs.at_ (HR.out.below HI.out.1) hlt
        have HN1 := Lib.hid (HNO.out d.revs[k] (List.getElem_mem hlt))
        have HJ : Hid ((d.revs[k]).chg < c.num → ∀ j (hj : j < d.revs.length), j < k + 1 → (d.revs[j]).chg < c.num) := Lib.hid (fun h j hj hjk => by
            by_cases e : j = k
            · subst e; exact h
            · exact HI.out.2 j hj (by omega))
        generalize d.revs[k] = x at hld HN1 HJ
        obtain ⟨x0, x1, x2, x3, x4, x5, x6, x7, x8, x9, x10, x11⟩ := hld
        have hX := blk_new wr [.string x.path, .int .i64 x.num, .int .i64 x.chg, .int .i64 x.act, .int .i64 x.ty.base, .bool x.ty.k, .bool x.ty.l, .bool x.ty.x, .int .u64 x.sum, .int .i64 x.size, .string x.frm, .int .i64 x.fnum] 40
        have hA1 := HI.out.1.alloc HI.out.1.size (.cells #[.string x.path, .int .i64 x.num, .int .i64 x.chg, .int .i64 x.act, .int .i64 x.ty.base, .bool x.ty.k, .bool x.ty.l, .bool x.ty.x, .int .u64 x.sum, .int .i64 x.size, .string x.frm, .int .i64 x.fnum] 40)
        go_upto_region 8 with fail
        clear x0 x1 x2 x3 x4 x5 x6 x7 x8 x9 x10 x11
        generalize wr.alloc (.cells #[.string x.path, .int .i64 x.num, .int .i64 x.chg, .int .i64 x.act, .int .i64 x.ty.base, .bool x.ty.k, .bool x.ty.l, .bool x.ty.x, .int .u64 x.sum, .int .i64 x.size, .string x.frm, .int .i64 x.fnum] 40) = V1 at hX hA1 ⊢
        generalize wr.heap.size = g6 at hX ⊢
        have HA1 := Lib.hid hA1
        obtain ⟨x0, x1, x2, x3, x4, x5, x6, x7, x8, x9, x10, x11⟩ := box12 hX
        obtain ⟨k0, k1, k2, k3, k4⟩ := box5 (HC.out.below HA1.out HC.out.lt)
        clear hX hA1
        by_cases h1 : c.num ≤ x.chg
        · have q1 : decide (c.num ≤ x.chg) = true := by simpa using h1
          have HF := Lib.hid (HN1.out h1)
          clear h1
          go_wp2_with fail
          exact HRR.out _ _ (by rw [HF.out]; rfl) HA1.out
        · have q1 : decide (c.num ≤ x.chg) = false := by simpa using h1
          have HJ2 := Lib.hid (HJ.out (by omega))
          clear h1
          go_wp2_with fail
          go_roundw
          case rel => exact ⟨k + 1, by go_num, by omega, HA1.out, HJ2.out⟩
          case measure => simp [intOf]; omega
      · have hke : k = d.revs.length := by omega
        have q : decide ((k : Int) < (d.revs.length : Int)) = false := by simp; omega
        have q' : decide (k < d.revs.length) = false := by simp; omega
        have HZ := Lib.hid (HYES.out fun j hj => HI.out.2 j hj (by omega))
        have HW := Lib.hid HI.out.1
        clear hke
        go_wp2_with fail
        go_meet
        exact ⟨HW.out, HZ.out.2, HZ.out.1⟩
  case rest =>
    have HV := Lib.hid hcut.out
    clear hcut
    have hk := ‹∀ (a : Act) (w : World), Code.wp _ _ _ a w → _›
    exact hk _ _ (HT.out _ (by kernel_rfl) _ _ HV.out.2.2 (HEN.out.below HV.out.1) (HR.out.below HV.out.1) (HP.out.below HV.out.1) (HQ.out.below HV.out.1) (HD.out.below HV.out.1 HD.out.lt) (HC.out.below HV.out.1 HC.out.lt) (fun n w' hn hw => HRR.out n w' (by rw [HV.out.2.1, hn]; rfl) (below_next HV.out.1 hw)) _ _ _ _ _ _ _ _ _ _ _ _ _ _ _ _ _ _ _ _ _ _ _ _ _ _ _ _ _ _ _ _ _ _ _ _ _ _ _ _ _ _ _ _ _ _ _ _ _ _ _ _ _ _ _ _ _ _ _ _ _ _ _ _ _ _ _ _ _ _ _ _ _ _ _ _ _ _ _ _ _ _ _ _ _ _ _ _ _ _ _ _ _ _ _ _ _ _ _ _ _ _ _)
set_option maxRecDepth 100000 in
set_option maxHeartbeats 8000000 in
theorem refCheckD_any (d : Dep) (c : Chg) (Ar Aq Ae Ac : Option Addr) (cr cq ce cc : Nat) (w : World) (hb : CkB d c) (he : Env w) (hR : Revs w (.slice Ar d.revs.length cr) d.revs) (hP : Edts w (.slice Ae c.edits.length ce) c.edits) (hQ : Rcds w (.slice Ac c.recs.length cc) c.recs) :
    Calls Tryz.prog 60 #[.agg #[.slice Ar d.revs.length cr, .slice Aq d.recs.length cq], .agg #[.int .i64 c.num, .string c.client, .string c.text, .slice Ae c.edits.length ce, .slice Ac c.recs.length cc]] w
      fun e w' => e = .returned (.int .i64 (appE d c)) ∧ Below w.heap.size w w' := by
  have HEN := Lib.hid he
  have HR := Lib.hid hR
  have HP := Lib.hid hP
  have HQ := Lib.hid hQ
  have HB := Lib.hid hb
  have b3 := hb.el
  have b4 := hb.rl
  have hb0 : Below w.heap.size w ((w.alloc (.cells #[.slice Ar d.revs.length cr, .slice Aq d.recs.length cq] 31)).alloc (.cells #[.int .i64 c.num, .string c.client, .string c.text, .slice Ae c.edits.length ce, .slice Ac c.recs.length cc] 53)) := ((Below.refl _ _).alloc (Nat.le_refl _) _).alloc (by simp) _
  have hC : Blk ((w.alloc (.cells #[.slice Ar d.revs.length cr, .slice Aq d.recs.length cq] 31)).alloc (.cells #[.int .i64 c.num, .string c.client, .string c.text, .slice Ae c.edits.length ce, .slice Ac c.recs.length cc] 53)) (w.heap.size + 1) 53 [.int .i64 c.num, .string c.client, .string c.text, .slice Ae c.edits.length ce, .slice Ac c.recs.length cc] := by
    have h1 := blk_new (w.alloc (.cells #[.slice Ar d.revs.length cr, .slice Aq d.recs.length cq] 31)) [.int .i64 c.num, .string c.client, .string c.text, .slice Ae c.edits.length ce, .slice Ac c.recs.length cc] 53
    simp only [World.size_alloc] at h1
    exact h1
  have hD : Blk ((w.alloc (.cells #[.slice Ar d.revs.length cr, .slice Aq d.recs.length cq] 31)).alloc (.cells #[.int .i64 c.num, .string c.client, .string c.text, .slice Ae c.edits.length ce, .slice Ac c.recs.length cc] 53)) w.heap.size 31 [.slice Ar d.revs.length cr, .slice Aq d.recs.length cq] := (blk_new w _ _).alloc _
  have HT := Lib.hid (fun T hT R g2 g3 W he hR hP hQ hD hC hRR => ckT5 T hT R d c Ar Aq Ae Ac cr cq ce cc g2 g3 W hb he hR hP hQ hD hC hRR)
  obtain ⟨V5, hV5⟩ : ∃ V5, V5 = (if d.revs.any (fun r => decide (c.num ≤ r.chg)) then 112 else (if everyE (lastOf d.revs) emptyS c.edits ≠ 0 then everyE (lastOf d.revs) emptyS c.edits else if movesE c.edits ≠ 0 then movesE c.edits else if recsE d.revs c ≠ 0 then recsE d.revs c else roomE d c)) := ⟨_, rfl⟩
  rw [← hV5] at HT
  have HA : Hid (appE d c = if c.edits.length = 0 ∨ 64 < c.edits.length ∨ 64 < c.recs.length then 110 else if c.num < 1 ∨ 1073741824 < c.num then 112 else V5) := Lib.hid (by
    rw [hV5]
    unfold appE firstE sizeE
    split
    · rfl
    · split
      · rfl
      · split
        · rfl
        · rw [if_neg (by simp)]
          show firstE _ = _
          by_cases h1 : everyE (lastOf d.revs) emptyS c.edits = 0
          · simp only [firstE, h1]
            by_cases h2 : movesE c.edits = 0
            · simp only [h2]
              by_cases h3 : recsE d.revs c = 0
              · simp only [h3]
                by_cases h4 : roomE d c = 0 <;> simp [h4]
              · simp [h3]
            · simp [h2]
          · simp [firstE, h1])
  generalize appE d c = VA at HA ⊢
  clear hb he hR hP hQ hV5
  go_enter Tryz.func60, Tryz.ntmps60
  go_upto_region 1 with fail
  generalize (w.alloc (.cells #[.slice Ar d.revs.length cr, .slice Aq d.recs.length cq] 31)).alloc (.cells #[.int .i64 c.num, .string c.client, .string c.text, .slice Ae c.edits.length ce, .slice Ac c.recs.length cc] 53) = W1 at hb0 hC hD ⊢
  have HC1 := Lib.hid hC
  have HD1 := Lib.hid hD
  have HW1 := Lib.hid hb0
  obtain ⟨k0, k1, k2, k3, k4⟩ := box5 hC
  clear hb0 hC hD
  go_cut [27] (fun v wx => ∃ bb, v = .bool bb ∧ Hid (wx = W1 ∧ bb = decide (c.edits.length = 0 ∨ 64 < c.edits.length ∨ 64 < c.recs.length)))
  case first =>
    by_cases h1 : c.edits.length = 0
    · have q1 : ((c.edits.length : Int) == 0) = true := by rw [beq_iff_eq]; omega
      have HF : Hid (true = decide (c.edits.length = 0 ∨ 64 < c.edits.length ∨ 64 < c.recs.length)) := Lib.hid (by simp [h1])
      have HZ := Lib.hid h1
      clear h1
      go_wp2_with fail
      go_meet
      exact ⟨true, by first | rfl | simp [HZ.out], rfl, HF.out⟩
    · have q1 : ((c.edits.length : Int) == 0) = false := by rw [beq_eq_false_iff_ne]; omega
      by_cases h2 : 64 < c.edits.length
      · have q2 : decide ((64 : Int) < (c.edits.length : Int)) = true := by simp; omega
        have HF : Hid (true = decide (c.edits.length = 0 ∨ 64 < c.edits.length ∨ 64 < c.recs.length)) := Lib.hid (by simp [h2])
        clear h1 h2
        go_wp2_with fail
        go_meet
        exact ⟨true, rfl, rfl, HF.out⟩
      · have q2 : decide ((64 : Int) < (c.edits.length : Int)) = false := by simp; omega
        by_cases h3 : 64 < c.recs.length
        · have q3 : decide ((64 : Int) < (c.recs.length : Int)) = true := by simp; omega
          have HF : Hid (true = decide (c.edits.length = 0 ∨ 64 < c.edits.length ∨ 64 < c.recs.length)) := Lib.hid (by simp [h3])
          clear h1 h2 h3
          go_wp2_with fail
          go_meet
          exact ⟨true, rfl, rfl, HF.out⟩
        · have q3 : decide ((64 : Int) < (c.recs.length : Int)) = false := by simp; omega
          have HF : Hid (false = decide (c.edits.length = 0 ∨ 64 < c.edits.length ∨ 64 < c.recs.length)) := Lib.hid (by rw [decide_eq_false (by omega)])
          clear h1 h2 h3
          go_wp2_with fail
          go_meet
          exact ⟨false, rfl, rfl, HF.out⟩
  case rest =>
    obtain ⟨bb, rfl, HV⟩ := hcut
    obtain rfl : wc = W1 := HV.out.1
    have HBB := Lib.hid HV.out.2
    clear HV
    cases bb with
    | true =>
      have HF : Hid (110 = VA) := Lib.hid (by rw [HA.out, if_pos (of_decide_eq_true HBB.out.symm)])
      go_wp2_with fail
      go_ret
      exact ⟨ret_int HF.out, HW1.out⟩
    | false =>
      have HA2 : Hid (VA = if c.num < 1 ∨ 1073741824 < c.num then 112 else V5) := Lib.hid (by rw [HA.out, if_neg (of_decide_eq_false HBB.out.symm)])
      clear HBB HA
      by_cases h1 : c.num ≤ 0
      · have q1 : decide (c.num ≤ 0) = true := by simpa using h1
        have HF : Hid (112 = VA) := Lib.hid (by rw [HA2.out, if_pos (by omega)])
        clear h1
        go_wp2_with fail
        go_ret
        exact ⟨ret_int HF.out, HW1.out⟩
      · have q1 : decide (c.num ≤ 0) = false := by simpa using h1
        by_cases h2 : 1073741824 < c.num
        · have q2 : decide (1073741824 < c.num) = true := by simpa using h2
          have HF : Hid (112 = VA) := Lib.hid (by rw [HA2.out, if_pos (by omega)])
          clear h1 h2
          go_wp2_with fail
          go_ret
          exact ⟨ret_int HF.out, HW1.out⟩
        · have q2 : decide (1073741824 < c.num) = false := by simpa using h2
          have HF : Hid (V5 = VA) := Lib.hid (by rw [HA2.out, if_neg (by omega)])
          clear h1 h2
          go_upto_if 35 with fail
          refine wp_cond_false rfl ?_
          refine wp_skip ?_
          have hk := ‹∀ (a : Act) (w : World), Code.wp _ _ _ a w → _›
          exact hk _ _ (HT.out _ (by kernel_rfl) _ _ _ _ (HEN.out.below HW1.out) (HR.out.below HW1.out) (HP.out.below HW1.out) (HQ.out.below HW1.out) HD1.out HC1.out (fun n w' hn hw => ⟨by rw [hn, HF.out], below_next HW1.out hw⟩) _ _ _ _ _ _ _ _ _ _ _ _ _ _ _ _ _ _ _ _ _ _ _ _ _ _ _ _ _ _ _ _ _ _ _ _ _ _ _ _ _ _ _ _ _ _ _ _ _ _ _ _ _ _ _ _ _ _ _ _ _ _ _ _ _ _ _ _ _ _ _ _ _ _ _ _ _ _ _ _ _ _ _ _ _ _ _ _ _ _ _ _ _ _ _ _ _ _ _ _ _ _ _)
end Go.Proofs.YtnblfaagchflaaaGreatDoor
