/- The reference's record: from the search of its edit on. -/
import Derived.Test.YtnblfaagchflaaaGreatDoorMgw28
import Derived.Test.YtnblfaagchflaaaGreatDoorMgw33
import Derived.Test.YtnblfaagchflaaaGreatDoorMzOrd
import Derived.Test.YtnblfaagchflaaaGreatDoorMgw26
import Derived.Test.YtnblfaagchflaaaGreatDoorMgw19
namespace Go.Proofs.YtnblfaagchflaaaGreatDoor
open Go.RowKit
set_option linter.unusedVariables false
set_option linter.unusedSimpArgs false

set_option maxRecDepth 100000 in
set_option maxHeartbeats 8000000 in
theorem rcT4 (T : Code) (hT : Tryz.f96.body.bind (tailAt 4) = some T) (R : Ending → World → Prop) (revs : List Rev) (c : Chg) (x : Rcd) (Ar Ae Ac : Option Addr) (dr : Value) (cr ce cc g3 g4 g7 : Nat) (w : World)
    (hR : Revs w (.slice Ar revs.length cr) revs) (hl : revs.length ≤ 100000) (hns : ∀ r ∈ revs, 0 ≤ r.num ∧ r.num ≤ 1000000) (hQ : Rcds w (.slice Ac c.recs.length cc) c.recs) (hlr : c.recs.length ≤ 100000) (hP : Edts w (.slice Ae c.edits.length ce) c.edits) (hle : c.edits.length ≤ 100000)
    (hact : ∀ y ∈ c.edits, 1 ≤ y.act ∧ 0 ≤ y.base ∧ y.base ≤ 100000)
    (hD : Blk w g3 31 [.slice Ar revs.length cr, dr])
    (hC : Blk w g4 53 [.int .i64 c.num, .string c.client, .string c.text, .slice Ae c.edits.length ce, .slice Ac c.recs.length cc])
    (hX : Blk w g7 57 [.string x.frm, .int .i64 x.first, .int .i64 x.last, .string x.to, .int .i64 x.num, .int .i64 x.how])
    (hRR : ∀ (b : Bool) (w' : World), b = rcVal revs c x (tgt c.edits x) → Below w.heap.size w w' → R (.returned (.bool b)) w')
    (u0 u1 u2 u5 u6 u8 u9 u10 u11 u12 u13 u14 u15 u16 u17 u18 u19 u20 u21 u22 u23 u24 u25 u26 u27 u28 u29 u30 u31 u32 u33 u34 u35 u36 u37 u38 u39 u40 u41 u42 u43 u44 u45 u46 u47 u48 u49 u50 u51 u52 u53 u54 u55 u56 u57 u58 u59 u60 u61 u62 u63 u64 u65 u66 u67 u68 u69 u70 u71 u72 u73 u74 u75 u76 u77 u78 u79 u80 u81 u82 u83 u84 u85 u86 u87 u88 u89 u90 u91 u92 u93 u94 u95 u96 u97 u98 u99 u100 u101 u102 u103 u104 u105 u106 u107 u108 u109 u110 u111 u112 u113 u114 u115 u116 u117 u118 u119 u120 u121 u122 u123 u124 u125 u126 u127 u128 u129 u130 u131 u132 u133 u134 u135 u136 u137 u138 u139 u140 u141 u142 u143 u144 u145 u146 u147 u148 u149 u150 u151 u152 u153 u154 u155 u156 u157 u158 u159 u160 u161 u162 u163 u164 u165 u166 u167 u168 u169 u170 u171 u172 u173 u174 u175 u176 u177 u178 u179 u180 u181 u182 u183 u184 u185 u186 u187 u188 u189 u190 u191 u192 u193 u194 u195 u196 u197 u198 u199 u200 u201 u202 u203 u204 u205 u206 u207 u208 u209 u210 u211 u212 u213 u214 u215 u216 u217 u218 u219 u220 u221 u222 u223 u224 u225 u226 u227 u228 u229 u230 u231 u232 u233 u234 u235 u236 u237 u238 u239 u240 u241 u242 : Value) :
    T.wp Tryz.prog (bodyPost Tryz.prog Tryz.f96 R) ⟨#[u0, u1, u2, .pointer (some ⟨g3, 0, none⟩), .pointer (some ⟨g4, 0, none⟩), u5, u6, .pointer (some ⟨g7, 0, none⟩), u8, u9, u10, u11, u12, u13, u14, u15, u16, u17, u18, u19, u20, u21, u22, u23, u24, u25, u26, u27, u28, u29, u30, u31, u32, u33, u34, u35, u36, u37, u38, u39, u40, u41, u42, u43, u44, u45, u46, u47, u48, u49, u50, u51, u52, u53, u54, u55, u56, u57, u58, u59, u60, u61, u62, u63, u64, u65, u66, u67, u68, u69, u70, u71, u72, u73, u74, u75, u76, u77, u78, u79, u80, u81, u82, u83, u84, u85, u86, u87, u88, u89, u90, u91, u92, u93, u94, u95, u96, u97, u98, u99, u100, u101, u102, u103, u104, u105, u106, u107, u108, u109, u110, u111, u112, u113, u114, u115, u116, u117, u118, u119, u120, u121, u122, u123, u124, u125, u126, u127, u128, u129, u130, u131, u132, u133, u134, u135, u136, u137, u138, u139, u140, u141, u142, u143, u144, u145, u146, u147, u148, u149, u150, u151, u152, u153, u154, u155, u156, u157, u158, u159, u160, u161, u162, u163, u164, u165, u166, u167, u168, u169, u170, u171, u172, u173, u174, u175, u176, u177, u178, u179, u180, u181, u182, u183, u184, u185, u186, u187, u188, u189, u190, u191, u192, u193, u194, u195, u196, u197, u198, u199, u200, u201, u202, u203, u204, u205, u206, u207, u208, u209, u210, u211, u212, u213, u214, u215, u216, u217, u218, u219, u220, u221, u222, u223, u224, u225, u226, u227, u228, u229, u230, u231, u232, u233, u234, u235, u236, u237, u238, u239, u240, u241, u242], []⟩ w := by
  simp only [Tryz.f96, Option.bind_some, tailAt, hasReg] at hT
  simp at hT
  subst hT
  have HRR := Lib.hid hRR
  have HR := Lib.hid hR
  clear hRR hR
  have HQ := Lib.hid hQ
  have HP := Lib.hid hP
  have HACT := Lib.hid hact
  have HD := Lib.hid hD
  have HC := Lib.hid hC
  have HX := Lib.hid hX
  have HOA : Hid ((∀ y, tgt c.edits x = some y → 1 ≤ y.act) ∧ (0 ≤ ((tgt c.edits x).getD zeroEdt).base ∧ ((tgt c.edits x).getD zeroEdt).base ≤ 100000)) := Lib.hid (by
    refine ⟨fun y hy => (hact y (tgt_mem hy).1).1, ?_⟩
    cases ho : tgt c.edits x with
    | none => simp [zeroEdt]
    | some y => exact (hact y (tgt_mem ho).1).2)
  have HT := Lib.hid (fun T hT R g8 W hR hQ hD hC hX hE hRR => rcT12 T hT R revs c x (tgt c.edits x) ((tgt c.edits x).getD zeroEdt) Ar Ae Ac dr cr ce cc g3 g4 g7 g8 W hR hl hns rfl HOA.out.1 HOA.out.2 hQ hlr hD hC hX hE hRR)
  have hb1 : Below w.heap.size w (w.alloc (.cells #[.string ⟨#[]⟩, .int .i64 0, .int .i64 0, .bool false, .bool false, .bool false, .int .u64 0, .int .i64 0, .int .i64 0, .string ⟨#[]⟩, .int .i64 0, .int .i64 0] 55)) := (Below.refl _ _).alloc (Nat.le_refl _) _
  have hz1 := blk_new w [.string ⟨#[]⟩, .int .i64 0, .int .i64 0, .bool false, .bool false, .bool false, .int .u64 0, .int .i64 0, .int .i64 0, .string ⟨#[]⟩, .int .i64 0, .int .i64 0] 55
  have hHC := HC.out.below hb1 HC.out.lt
  clear hns hQ hP hact hD hC hX
  generalize rcVal revs c x (tgt c.edits x) = V at HRR HT
  obtain ⟨k0, k1, k2, k3, k4⟩ := box5 hHC
  go_upto_block 0 with fail
  clear k0 k1 k2 k3 k4 hHC
  generalize w.alloc (.cells #[.string ⟨#[]⟩, .int .i64 0, .int .i64 0, .bool false, .bool false, .bool false, .int .u64 0, .int .i64 0, .int .i64 0, .string ⟨#[]⟩, .int .i64 0, .int .i64 0] 55) = w1 at hb1 hz1 ⊢
  have HB1 := Lib.hid hb1
  have HZ1 := Lib.hid hz1
  clear hb1 hz1
  go_cut [] (fun wx => Hid (Below w.heap.size w wx ∧ Blk wx w.heap.size 55 [.string (((tgt c.edits x).getD zeroEdt)).path, .int .i64 (((tgt c.edits x).getD zeroEdt)).act, .int .i64 (((tgt c.edits x).getD zeroEdt)).ty.base, .bool (((tgt c.edits x).getD zeroEdt)).ty.k, .bool (((tgt c.edits x).getD zeroEdt)).ty.l, .bool (((tgt c.edits x).getD zeroEdt)).ty.x, .int .u64 (((tgt c.edits x).getD zeroEdt)).sum, .int .i64 (((tgt c.edits x).getD zeroEdt)).size, .int .i64 (((tgt c.edits x).getD zeroEdt)).base, .string (((tgt c.edits x).getD zeroEdt)).frm, .int .i64 (((tgt c.edits x).getD zeroEdt)).fnum, .int .i64 (((tgt c.edits x).getD zeroEdt)).fence]))
  case first =>
    go_wp2_with fail
    go_loopw [56] (fun s wr => ∃ k : Nat, s = .int .i64 k ∧ k ≤ c.edits.length ∧ Hid (Below w.heap.size w wr ∧ Blk wr w.heap.size 55 [.string (((tgt (c.edits.take k) x).getD zeroEdt)).path, .int .i64 (((tgt (c.edits.take k) x).getD zeroEdt)).act, .int .i64 (((tgt (c.edits.take k) x).getD zeroEdt)).ty.base, .bool (((tgt (c.edits.take k) x).getD zeroEdt)).ty.k, .bool (((tgt (c.edits.take k) x).getD zeroEdt)).ty.l, .bool (((tgt (c.edits.take k) x).getD zeroEdt)).ty.x, .int .u64 (((tgt (c.edits.take k) x).getD zeroEdt)).sum, .int .i64 (((tgt (c.edits.take k) x).getD zeroEdt)).size, .int .i64 (((tgt (c.edits.take k) x).getD zeroEdt)).base, .string (((tgt (c.edits.take k) x).getD zeroEdt)).frm, .int .i64 (((tgt (c.edits.take k) x).getD zeroEdt)).fnum, .int .i64 (((tgt (c.edits.take k) x).getD zeroEdt)).fence])) (fun s _ => c.edits.length - (intOf s).toNat)
    case atStart => exact ⟨0, rfl, Nat.zero_le _, HB1.out, by rw [List.take_zero]; exact HZ1.out⟩
    case round =>
      obtain ⟨k, rfl, hk, HI⟩ := hrel
      by_cases hlt : k < c.edits.length
      · obtain ⟨ad, rfl, hab, hld⟩ := Edts.at_ (HP.out.below HI.out.1) hlt
        have HN := Lib.hid (tgt_next c.edits x k hlt)
        have hbs := HACT.out _ (List.getElem_mem hlt)
        generalize c.edits[k] = y at hld HN hbs
        obtain ⟨x0, x1, x2, x3, x4, x5, x6, x7, x8, x9, x10, x11⟩ := hld
        have hY := blk_new wr [.string y.path, .int .i64 y.act, .int .i64 y.ty.base, .bool y.ty.k, .bool y.ty.l, .bool y.ty.x, .int .u64 y.sum, .int .i64 y.size, .int .i64 y.base, .string y.frm, .int .i64 y.fnum, .int .i64 y.fence] 55
        have hA1 := HI.out.1.alloc HI.out.1.size (.cells #[.string y.path, .int .i64 y.act, .int .i64 y.ty.base, .bool y.ty.k, .bool y.ty.l, .bool y.ty.x, .int .u64 y.sum, .int .i64 y.size, .int .i64 y.base, .string y.frm, .int .i64 y.fnum, .int .i64 y.fence] 55)
        have hT1 := HI.out.2.alloc (.cells #[.string y.path, .int .i64 y.act, .int .i64 y.ty.base, .bool y.ty.k, .bool y.ty.l, .bool y.ty.x, .int .u64 y.sum, .int .i64 y.size, .int .i64 y.base, .string y.frm, .int .i64 y.fnum, .int .i64 y.fence] 55)
        generalize tgt (c.edits.take k) x = o at HN HI hT1
        go_upto_region 9 with fail
        clear x0 x1 x2 x3 x4 x5 x6 x7 x8 x9 x10 x11
        generalize wr.alloc (.cells #[.string y.path, .int .i64 y.act, .int .i64 y.ty.base, .bool y.ty.k, .bool y.ty.l, .bool y.ty.x, .int .u64 y.sum, .int .i64 y.size, .int .i64 y.base, .string y.frm, .int .i64 y.fnum, .int .i64 y.fence] 55) = V1 at hY hA1 hT1 ⊢
        generalize wr.heap.size = g11 at hY ⊢
        have HA1 := Lib.hid hA1
        have HT1 := Lib.hid hT1
        obtain ⟨y0, y1, y2, y3, y4, y5, y6, y7, y8, y9, y10, y11⟩ := box12 hY
        obtain ⟨x0, x1, x2, x3, x4, x5⟩ := box6 (HX.out.below HA1.out HX.out.lt)
        obtain ⟨b0, b1, b2, b3, b4, b5, b6, b7, b8, b9, b10, b11⟩ := frz12 HT1.out
        obtain ⟨t0, t1, t2, t3, t4, t5, t6, t7, t8, t9, t10, t11⟩ := box12 HT1.out
        have bb1 := hbs.2.1
        have bb2 := hbs.2.2
        clear hY hA1 hT1 hbs
        have sq := str_eqB y.path x.to
        by_cases h1 : y.path = x.to
        · rw [decide_eq_true h1] at sq
          by_cases h2 : y.base + 1 = x.num
          · have q2 : (y.base + 1 == x.num) = true := by simpa using h2
            by_cases h3 : y.act = 5
            · have q3 : (y.act != 5) = false := by rw [bne_dec]; simp [h3]
              have HF : Hid (tgt (c.edits.take (k + 1)) x = o) := Lib.hid (by rw [HN.out]; exact tgtM_no fun hh => hh.2.2 h3)
              clear h1 h2 h3
              go_wp2_with fail
              go_roundw
              case rel => exact ⟨k + 1, by go_num, by omega, HA1.out, by rw [HF.out]; exact HT1.out⟩
              case measure => simp [intOf]; omega
            · have q3 : (y.act != 5) = true := by rw [bne_dec]; simp [h3]
              have HF : Hid (tgt (c.edits.take (k + 1)) x = some y) := Lib.hid (by rw [HN.out]; exact tgtM_yes h1 h2 h3)
              clear h1 h2 h3
              go_wp2_with fail
              clear t0 t1 t2 t3 t4 t5 t6 t7 t8 t9 t10 t11 b0 b1 b2 b3 b4 b5 b6 b7 b8 b9 b10 b11
              have hS := set12E HT1.out y
              have hBS := below12E HA1.out (Nat.le_refl w.heap.size) y
              generalize ((((((((((((V1.setCell ⟨w.heap.size, 0, none⟩ (.string y.path)).setCell ⟨w.heap.size, 1, none⟩ (.int .i64 y.act)).setCell ⟨w.heap.size, 2, none⟩ (.int .i64 y.ty.base)).setCell ⟨w.heap.size, 3, none⟩ (.bool y.ty.k)).setCell ⟨w.heap.size, 4, none⟩ (.bool y.ty.l)).setCell ⟨w.heap.size, 5, none⟩ (.bool y.ty.x)).setCell ⟨w.heap.size, 6, none⟩ (.int .u64 y.sum)).setCell ⟨w.heap.size, 7, none⟩ (.int .i64 y.size)).setCell ⟨w.heap.size, 8, none⟩ (.int .i64 y.base)).setCell ⟨w.heap.size, 9, none⟩ (.string y.frm)).setCell ⟨w.heap.size, 10, none⟩ (.int .i64 y.fnum)).setCell ⟨w.heap.size, 11, none⟩ (.int .i64 y.fence)) = V2 at hS hBS ⊢
              go_roundw
              case rel => exact ⟨k + 1, by go_num, by omega, hBS, by rw [HF.out]; exact hS⟩
              case measure => simp [intOf]; omega
          · have q2 : (y.base + 1 == x.num) = false := by simpa using h2
            have HF : Hid (tgt (c.edits.take (k + 1)) x = o) := Lib.hid (by rw [HN.out]; exact tgtM_no fun hh => h2 hh.2.1)
            clear h1 h2
            go_wp2_with fail
            go_roundw
            case rel => exact ⟨k + 1, by go_num, by omega, HA1.out, by rw [HF.out]; exact HT1.out⟩
            case measure => simp [intOf]; omega
        · rw [decide_eq_false h1] at sq
          have HF : Hid (tgt (c.edits.take (k + 1)) x = o) := Lib.hid (by rw [HN.out]; exact tgtM_no fun hh => h1 hh.1)
          clear h1
          go_wp2_with fail
          go_roundw
          case rel => exact ⟨k + 1, by go_num, by omega, HA1.out, by rw [HF.out]; exact HT1.out⟩
          case measure => simp [intOf]; omega
      · have hke : k = c.edits.length := by omega
        have HTK : Hid (tgt (c.edits.take k) x = tgt c.edits x) := Lib.hid (by rw [hke, List.take_length])
        have q : decide ((k : Int) < (c.edits.length : Int)) = false := by simp; omega
        have q' : decide (k < c.edits.length) = false := by simp; omega
        have HB := Lib.hid HI.out.1
        have HZ := Lib.hid HI.out.2
        rw [HTK.out] at HZ
        clear hke
        go_wp2_with fail
        go_meet
        exact ⟨HB.out, HZ.out⟩
  case rest =>
    have HV := Lib.hid hcut.out
    clear hcut
    have hk := ‹∀ (a : Act) (w : World), Code.wp _ _ _ a w → _›
    exact hk _ _ (HT.out _ (by kernel_rfl) _ w.heap.size _ (HR.out.below HV.out.1) (HQ.out.below HV.out.1) (HD.out.below HV.out.1 HD.out.lt) (HC.out.below HV.out.1 HC.out.lt) (HX.out.below HV.out.1 HX.out.lt) HV.out.2 (fun b w' hb hw => HRR.out b w' hb (below_next HV.out.1 hw)) _ _ _ _ _ _ _ _ _ _ _ _ _ _ _ _ _ _ _ _ _ _ _ _ _ _ _ _ _ _ _ _ _ _ _ _ _ _ _ _ _ _ _ _ _ _ _ _ _ _ _ _ _ _ _ _ _ _ _ _ _ _ _ _ _ _ _ _ _ _ _ _ _ _ _ _ _ _ _ _ _ _ _ _ _ _ _ _ _ _ _ _ _ _ _ _ _ _ _ _ _ _ _ _ _ _ _ _ _ _ _ _ _ _ _ _ _ _ _ _ _ _ _ _ _ _ _ _ _ _ _ _ _ _ _ _ _ _ _ _ _ _ _ _ _ _ _ _ _ _ _ _ _ _ _ _ _ _ _ _ _ _ _ _ _ _ _ _ _ _ _ _ _ _ _ _ _ _ _ _ _ _ _ _ _ _ _ _ _ _ _ _ _ _ _ _ _ _ _ _ _ _ _ _ _ _ _ _ _ _ _ _ _ _ _ _ _ _ _ _ _ _ _ _ _ _ _ _ _ _ _ _ _ _ _ _ _ _)
end Go.Proofs.YtnblfaagchflaaaGreatDoor
/- The reference's record: the walk. -/
namespace Go.Proofs.YtnblfaagchflaaaGreatDoor
open Go.RowKit
set_option linter.unusedVariables false
set_option linter.unusedSimpArgs false

/-- What the reference says of a record of a change, its place among the others aside. -/
def rcFull (revs : List Rev) (c : Chg) (x : Rcd) : Bool := decide (1 ≤ x.how ∧ x.how ≤ 4) && rcVal revs c x (tgt c.edits x)
/-- What is said of the record ahead. -/
def befI (rs : List Rcd) (i : Nat) (x : Rcd) : Bool := decide (i = 0) || befF ((rs[i - 1]?).getD x) x
theorem befI_succ {rs : List Rcd} {x : Rcd} {j : Nat} (hj : j < rs.length) : befI rs (j + 1) x = befF rs[j] x := by
  unfold befI
  rw [Nat.add_sub_cancel, List.getElem?_eq_getElem hj]; simp
set_option maxRecDepth 100000 in
set_option maxHeartbeats 8000000 in
theorem refRecord_any (d : Dep) (c : Chg) (dv dr : Value) (Ae Ac : Option Addr) (ce cc i : Nat) (w : World) (he : Env w) (hR : Revs w dv d.revs) (hl : d.revs.length ≤ 100000) (hns : ∀ r ∈ d.revs, 0 ≤ r.num ∧ r.num ≤ 1000000)
    (hP : Edts w (.slice Ae c.edits.length ce) c.edits) (hQ : Rcds w (.slice Ac c.recs.length cc) c.recs) (hi : i < c.recs.length) (hlr : c.recs.length ≤ 100000) (hle : c.edits.length ≤ 100000)
    (hact : ∀ y ∈ c.edits, 1 ≤ y.act ∧ 0 ≤ y.base ∧ y.base ≤ 100000) (hsz : ∀ r ∈ c.recs, r.to.size ≤ 2000000 ∧ r.frm.size ≤ 2000000) :
    Calls Tryz.prog 96 #[.agg #[dv, dr], .agg #[.int .i64 c.num, .string c.client, .string c.text, .slice Ae c.edits.length ce, .slice Ac c.recs.length cc], .int .i64 i] w
      fun e w' => e = .returned (.bool (befI c.recs i c.recs[i] && rcFull d.revs c c.recs[i])) ∧ Below w.heap.size w w' := by
  obtain ⟨Ar, cr, rfl, -⟩ := id hR
  have HR := Lib.hid hR
  have HP := Lib.hid hP
  have HQ := Lib.hid hQ
  have HEN := Lib.hid he
  have HSZ := Lib.hid hsz
  have hb0 : Below w.heap.size w ((w.alloc (.cells #[.slice Ar d.revs.length cr, dr] 31)).alloc (.cells #[.int .i64 c.num, .string c.client, .string c.text, .slice Ae c.edits.length ce, .slice Ac c.recs.length cc] 53)) := ((Below.refl _ _).alloc (Nat.le_refl _) _).alloc (by simp) _
  have hC : Blk ((w.alloc (.cells #[.slice Ar d.revs.length cr, dr] 31)).alloc (.cells #[.int .i64 c.num, .string c.client, .string c.text, .slice Ae c.edits.length ce, .slice Ac c.recs.length cc] 53)) (w.heap.size + 1) 53 [.int .i64 c.num, .string c.client, .string c.text, .slice Ae c.edits.length ce, .slice Ac c.recs.length cc] := by
    have h1 := blk_new (w.alloc (.cells #[.slice Ar d.revs.length cr, dr] 31)) [.int .i64 c.num, .string c.client, .string c.text, .slice Ae c.edits.length ce, .slice Ac c.recs.length cc] 53
    simp only [World.size_alloc] at h1
    exact h1
  have hD : Blk ((w.alloc (.cells #[.slice Ar d.revs.length cr, dr] 31)).alloc (.cells #[.int .i64 c.num, .string c.client, .string c.text, .slice Ae c.edits.length ce, .slice Ac c.recs.length cc] 53)) w.heap.size 31 [.slice Ar d.revs.length cr, dr] := (blk_new w _ _).alloc _
  have hld0 := fun X (hX : Below w.heap.size w X) => Rcds.at_ (HQ.out.below hX) hi
  have HXM : Hid ((c.recs[i]).to.size ≤ 2000000 ∧ (c.recs[i]).frm.size ≤ 2000000) := Lib.hid (HSZ.out _ (List.getElem_mem hi))
  generalize c.recs[i] = x at hld0 HXM ⊢
  have HLD := Lib.hid hld0
  have HT4 := Lib.hid (fun T hT R g3 g4 g7 W hR hQ hP hD hC hX hRR => rcT4 T hT R d.revs c x Ar Ae Ac dr cr ce cc g3 g4 g7 W hR hl hns hQ hlr hP hle hact hD hC hX hRR)
  have HFUL : Hid (rcFull d.revs c x = (decide (1 ≤ x.how ∧ x.how ≤ 4) && rcVal d.revs c x (tgt c.edits x))) := Lib.hid rfl
  clear hR hP hQ he hsz hns hact hld0
  generalize rcFull d.revs c x = VF at HFUL ⊢
  generalize rcVal d.revs c x (tgt c.edits x) = V at HFUL HT4
  generalize hbi : befI c.recs i x = bi
  have HBI := Lib.hid hbi
  clear hbi
  go_enter Tryz.func96, Tryz.ntmps96
  go_upto_region 1 with fail
  generalize (w.alloc (.cells #[.slice Ar d.revs.length cr, dr] 31)).alloc (.cells #[.int .i64 c.num, .string c.client, .string c.text, .slice Ae c.edits.length ce, .slice Ac c.recs.length cc] 53) = W1 at hb0 hC hD ⊢
  obtain ⟨k0, k1, k2, k3, k4⟩ := box5 hC
  obtain ⟨ad, rfl, hab, hld⟩ := HLD.out _ hb0
  have hiz : (i : Int) < (c.recs.length : Int) := by omega
  obtain ⟨x0, x1, x2, x3, x4, x5⟩ := hld
  have hX := blk_new W1 [.string x.frm, .int .i64 x.first, .int .i64 x.last, .string x.to, .int .i64 x.num, .int .i64 x.how] 57
  have hA1 := hb0.alloc hb0.size (.cells #[.string x.frm, .int .i64 x.first, .int .i64 x.last, .string x.to, .int .i64 x.num, .int .i64 x.how] 57)
  have HC1 := Lib.hid (hC.alloc (.cells #[.string x.frm, .int .i64 x.first, .int .i64 x.last, .string x.to, .int .i64 x.num, .int .i64 x.how] 57))
  have HD1 := Lib.hid (hD.alloc (.cells #[.string x.frm, .int .i64 x.first, .int .i64 x.last, .string x.to, .int .i64 x.num, .int .i64 x.how] 57))
  go_upto_region 2 with fail
  clear x0 x1 x2 x3 x4 x5 k0 k1 k2 k3 k4 hC hD hb0
  generalize W1.alloc (.cells #[.string x.frm, .int .i64 x.first, .int .i64 x.last, .string x.to, .int .i64 x.num, .int .i64 x.how] 57) = w2 at hX hA1 HC1 HD1 ⊢
  generalize W1.heap.size = g7 at hX ⊢
  have HX1 := Lib.hid hX
  have HW1 := Lib.hid hA1
  clear hX hA1
  go_cut [52] (fun v wx => ∃ bb, v = .bool bb ∧ Hid (Below w2.heap.size w2 wx ∧ bb = !(bi && decide (1 ≤ x.how ∧ x.how ≤ 4))))
  case first =>
    obtain ⟨x0, x1, x2, x3, x4, x5⟩ := box6 HX1.out
    by_cases h0 : i = 0
    · have d0 : decide (0 < i) = false := by simp; omega
      have d1 : decide ((0 : Int) < (i : Int)) = false := by simp; omega
      have HB0 : Hid (bi = true) := Lib.hid (by rw [← HBI.out, h0]; rfl)
      clear h0
      by_cases h1 : x.how < 1
      · have q1 : decide (x.how < 1) = true := by simpa using h1
        have HF : Hid (true = !(bi && decide (1 ≤ x.how ∧ x.how ≤ 4))) := Lib.hid (by rw [show decide (1 ≤ x.how ∧ x.how ≤ 4) = false by simp; omega]; simp)
        clear h1
        go_quiet (fail)
        go_wp2_with fail
        go_meet
        exact ⟨true, rfl, below_dN (Below.refl _ _) _, HF.out⟩
      · have q1 : decide (x.how < 1) = false := by simpa using h1
        by_cases h2 : 4 < x.how
        · have q2 : decide (4 < x.how) = true := by simpa using h2
          have HF : Hid (true = !(bi && decide (1 ≤ x.how ∧ x.how ≤ 4))) := Lib.hid (by rw [show decide (1 ≤ x.how ∧ x.how ≤ 4) = false by simp; omega]; simp)
          clear h1 h2
          go_quiet (fail)
          go_wp2_with fail
          go_meet
          exact ⟨true, rfl, below_dN (Below.refl _ _) _, HF.out⟩
        · have q2 : decide (4 < x.how) = false := by simpa using h2
          have HF : Hid (false = !(bi && decide (1 ≤ x.how ∧ x.how ≤ 4))) := Lib.hid (by rw [HB0.out, show decide (1 ≤ x.how ∧ x.how ≤ 4) = true by simp; omega]; rfl)
          clear h1 h2
          go_quiet (fail)
          go_wp2_with fail
          go_meet
          exact ⟨false, rfl, below_dN (Below.refl _ _) _, HF.out⟩
    · obtain ⟨j, rfl⟩ : ∃ j, i = j + 1 := ⟨i - 1, by omega⟩
      have hj : j < c.recs.length := by omega
      have hld2 := fun X (hX : Below w2.heap.size w2 X) => (show RcdAt X (ad.add (j * 6)) c.recs[j] from by
        obtain ⟨ad2, had, -, h⟩ := Rcds.at_ (HQ.out.below (below_next HW1.out hX)) hj
        injection had with had
        subst had
        exact h)
      have HSY := Lib.hid (HSZ.out _ (List.getElem_mem hj))
      have HBJ : Hid (befF c.recs[j] x = bi) := Lib.hid (by rw [← HBI.out, befI_succ hj])
      generalize c.recs[j] = y at hld2 HSY HBJ
      have HY2 := Lib.hid hld2
      have HBE := Lib.hid (fun X (hX : Below w2.heap.size w2 X) => before_det y x X (HEN.out.below (below_next HW1.out hX)) HSY.out.1 HXM.out.1 HSY.out.2 HXM.out.2)
      rw [HBJ.out] at HBE
      clear h0 hld2 x0 x1 x2 x3 x4 x5
      refine rcR2 _ (by kernel_rfl) _ ad c.recs.length cc j (w.heap.size + 1) g7 c.num c.client c.text (.slice Ae c.edits.length ce) x y bi w2 hi hlr HC1.out HX1.out HY2.out HBE.out _ _ _ _ _ _ _ _ _ _ _ _ _ _ _ _ _ _ _ _ _ _ _ _ _ _ _ _ _ _ _ _ _ _ _ _ _ _ _ _ _ _ _ _ _ _ _ _ _ _ _ _ _ _ _ _ _ _ _ _ _ _ _ _ _ _ _ _ _ _ _ _ _ _ _ _ _ _ _ _ _ _ _ _ _ _ _ _ _ _ _ _ _ _ _ _ _ _ _ _ _ _ _ _ _ _ _ _ _ _ _ _ _ _ _ _ _ _ _ _ _ _ _ _ _ _ _ _ _ _ _ _ _ _ _ _ _ _ _ _ _ _ _ _ _ _ _ _ _ _ _ _ _ _ _ _ _ _ _ _ _ _ _ _ _ _ _ _ _ _ _ _ _ _ _ _ _ _ _ _ _ _ _ _ _ _ _ _ _ _ _ _ _ _ _ _ _ _ _ _ _ _ _ _ _ _ _ _ _ _ _ _ _ _ _ _ _ _ _ _ _ _ _ _ _ _ _ _ _ _ _ _ _ _ _ _ _ _ _ _ ?_
      intro t30 t31 t32 t33 t34 t35 t36 t37 t38 t39 t40 t41 t42 t43 t44 t45 t46 t47 t48 t49 t50 t51 bb w6 H6
      have HF : Hid (bb = !(bi && decide (1 ≤ x.how ∧ x.how ≤ 4))) := Lib.hid (by
        rw [H6.out.2]
        cases bi
        · rfl
        · by_cases k1 : x.how < 1
          · have : ¬ (1 ≤ x.how ∧ x.how ≤ 4) := by omega
            simp [k1, this]
          · by_cases k2 : 4 < x.how
            · have : ¬ (1 ≤ x.how ∧ x.how ≤ 4) := by omega
              simp [k2, this]
            · have : 1 ≤ x.how ∧ x.how ≤ 4 := by omega
              simp [k1, k2, this])
      have HS6 := Lib.hid H6.out.1
      clear H6
      go_wp2_with fail
      go_meet
      exact ⟨bb, rfl, HS6.out, HF.out⟩
  case rest =>
    obtain ⟨bb, rfl, HV⟩ := hcut
    have HB := Lib.hid (below_next HW1.out HV.out.1)
    cases bb with
    | true =>
      have HF : Hid (false = (bi && VF)) := Lib.hid (by
        have h := HV.out.2
        rw [HFUL.out]
        cases bi
        · rfl
        · cases hh : decide (1 ≤ x.how ∧ x.how ≤ 4)
          · rfl
          · rw [hh] at h; cases h)
      clear HV
      go_wp2_with fail
      go_ret
      exact ⟨ret_bool HF.out, HB.out⟩
    | false =>
      have HF : Hid ((bi && VF) = V) := Lib.hid (by
        have h := HV.out.2
        rw [HFUL.out]
        cases bi
        · cases h
        · cases hh : decide (1 ≤ x.how ∧ x.how ≤ 4)
          · rw [hh] at h; cases h
          · rfl)
      go_upto_if 52 with fail
      refine wp_cond_false rfl ?_
      refine wp_skip ?_
      have hk := ‹∀ (a : Act) (w : World), Code.wp _ _ _ a w → _›
      exact hk _ _ (HT4.out _ (by kernel_rfl) _ _ _ _ _ (HR.out.below HB.out) (HQ.out.below HB.out) (HP.out.below HB.out) (HD1.out.below HV.out.1 HD1.out.lt) (HC1.out.below HV.out.1 HC1.out.lt) (HX1.out.below HV.out.1 HX1.out.lt) (fun b w' hb hw => ⟨by rw [HF.out, hb], below_next HB.out hw⟩) _ _ _ _ _ _ _ _ _ _ _ _ _ _ _ _ _ _ _ _ _ _ _ _ _ _ _ _ _ _ _ _ _ _ _ _ _ _ _ _ _ _ _ _ _ _ _ _ _ _ _ _ _ _ _ _ _ _ _ _ _ _ _ _ _ _ _ _ _ _ _ _ _ _ _ _ _ _ _ _ _ _ _ _ _ _ _ _ _ _ _ _ _ _ _ _ _ _ _ _ _ _ _ _ _ _ _ _ _ _ _ _ _ _ _ _ _ _ _ _ _ _ _ _ _ _ _ _ _ _ _ _ _ _ _ _ _ _ _ _ _ _ _ _ _ _ _ _ _ _ _ _ _ _ _ _ _ _ _ _ _ _ _ _ _ _ _ _ _ _ _ _ _ _ _ _ _ _ _ _ _ _ _ _ _ _ _ _ _ _ _ _ _ _ _ _ _ _ _ _ _ _ _ _ _ _ _ _ _ _ _ _ _ _ _ _ _ _ _ _ _ _ _ _ _ _ _ _ _ _ _ _ _ _ _ _ _ _ _ _)
end Go.Proofs.YtnblfaagchflaaaGreatDoor
/- The reference's Check: room; its records. -/
namespace Go.Proofs.YtnblfaagchflaaaGreatDoor
open Go.RowKit
set_option linter.unusedVariables false
set_option linter.unusedSimpArgs false

/-- What Check's walk leans on. -/
structure CkB (d : Dep) (c : Chg) : Prop where
  ok : DepOk d
  dw : DepW d
  el : c.edits.length ≤ 100000
  rl : c.recs.length ≤ 100000
  path : ∀ e ∈ c.edits, e.path.size ≤ 2000000
  rcd : ∀ r ∈ c.recs, r.to.size ≤ 2000000 ∧ r.frm.size ≤ 2000000
theorem madeX_eq {last : ByteArray → Option Rev} {es : List Edt} (h2 : everyE last emptyS es = 0) (n : Int) {t : Edt} (ht : t ∈ es) : madeX n t = madeR last n t := by
  have := (oneE_zero ((everyE_paths h2).2 t ht).2.2).2.1
  unfold madeX madeR
  rw [this]
theorem rcFull_ref {d : Dep} {c : Chg} (h2 : everyE (lastOf d.revs) emptyS c.edits = 0) (x : Rcd) : rcFull d.revs c x = refRec d.revs c x := by
  unfold rcFull refRec rcVal
  cases ht : tgt c.edits x with
  | none => rfl
  | some t =>
    dsimp only
    rw [← madeX_eq h2 c.num (tgt_mem ht).1]
    unfold someR
    simp only [Bool.and_assoc]
theorem recB_of {d : Dep} {c : Chg} (h2 : everyE (lastOf d.revs) emptyS c.edits = 0) {i : Nat} (hi : i < c.recs.length) : RecB d c i (befI c.recs i c.recs[i] && rcFull d.revs c c.recs[i]) := by
  refine ⟨hi, befF ((c.recs[i - 1]?).getD c.recs[i]) c.recs[i], fun h0 h1 h3 => ?_, ?_⟩
  · rw [List.getElem?_eq_getElem (show i - 1 < c.recs.length by omega)]
    exact befF_valid h1 h3
  · rw [rcFull_ref h2]; rfl
theorem edit_bounds {d : Dep} {c : Chg} (hb : CkB d c) (h2 : everyE (lastOf d.revs) emptyS c.edits = 0) : ∀ y ∈ c.edits, 1 ≤ y.act ∧ 0 ≤ y.base ∧ y.base ≤ 100000 := by
  intro y hy
  obtain ⟨o1, o2, -, -⟩ := oneE_zero ((everyE_paths h2).2 y hy).2.2
  have := hb.dw.lastNum y.path
  have := hb.dw.len
  exact ⟨(acts_ok o1).1, by omega, by omega⟩
set_option maxRecDepth 100000 in
set_option maxHeartbeats 8000000 in
theorem ckT30 (T : Code) (hT : Tryz.f60.body.bind (tailAt 30) = some T) (R : Ending → World → Prop) (d : Dep) (c : Chg) (Ar Aq Ae Ac : Option Addr) (cr cq ce cc g2 g3 : Nat) (w : World) (hb : CkB d c)
    (he : Env w) (hR : Revs w (.slice Ar d.revs.length cr) d.revs) (hP : Edts w (.slice Ae c.edits.length ce) c.edits) (hQ : Rcds w (.slice Ac c.recs.length cc) c.recs)
    (hD : Blk w g2 31 [.slice Ar d.revs.length cr, .slice Aq d.recs.length cq])
    (hC : Blk w g3 53 [.int .i64 c.num, .string c.client, .string c.text, .slice Ae c.edits.length ce, .slice Ac c.recs.length cc]) 
    (hRR : ∀ (n : Int) (w' : World), n = roomE d c → Below w.heap.size w w' → R (.returned (.int .i64 n)) w')
    (u0 u1 u4 u5 u6 u7 u8 u9 u10 u11 u12 u13 u14 u15 u16 u17 u18 u19 u20 u21 u22 u23 u24 u25 u26 u27 u28 u29 u30 u31 u32 u33 u34 u35 u36 u37 u38 u39 u40 u41 u42 u43 u44 u45 u46 u47 u48 u49 u50 u51 u52 u53 u54 u55 u56 u57 u58 u59 u60 u61 u62 u63 u64 u65 u66 u67 u68 u69 u70 u71 u72 u73 u74 u75 u76 u77 u78 u79 u80 u81 u82 u83 u84 u85 u86 u87 u88 u89 u90 u91 u92 u93 u94 u95 u96 u97 u98 u99 u100 u101 u102 u103 u104 : Value) :
    T.wp Tryz.prog (bodyPost Tryz.prog Tryz.f60 R) ⟨#[u0, u1, .pointer (some ⟨g2, 0, none⟩), .pointer (some ⟨g3, 0, none⟩), u4, u5, u6, u7, u8, u9, u10, u11, u12, u13, u14, u15, u16, u17, u18, u19, u20, u21, u22, u23, u24, u25, u26, u27, u28, u29, u30, u31, u32, u33, u34, u35, u36, u37, u38, u39, u40, u41, u42, u43, u44, u45, u46, u47, u48, u49, u50, u51, u52, u53, u54, u55, u56, u57, u58, u59, u60, u61, u62, u63, u64, u65, u66, u67, u68, u69, u70, u71, u72, u73, u74, u75, u76, u77, u78, u79, u80, u81, u82, u83, u84, u85, u86, u87, u88, u89, u90, u91, u92, u93, u94, u95, u96, u97, u98, u99, u100, u101, u102, u103, u104], []⟩ w := by
  simp only [Tryz.f60, Option.bind_some, tailAt, hasReg] at hT
  simp at hT
  subst hT
  have HRR := Lib.hid hRR
  have HEN := Lib.hid he
  have HR := Lib.hid hR
  have HP := Lib.hid hP
  have HQ := Lib.hid hQ
  have HD := Lib.hid hD
  have HC := Lib.hid hC
  have HB := Lib.hid hb
  clear hRR he hR hP hQ hD hC hb
  have bl1 := HB.out.el
  have bl2 := HB.out.rl
  have bl3 : d.revs.length ≤ 100000 := by have := HB.out.dw.len; omega
  have b1 : d.revs.length ≤ 100000 := by have := HB.out.dw.len; omega
  have b2 : d.recs.length ≤ 100000 := by have := HB.out.dw.rlen; omega
  have b3 := HB.out.el
  have b4 := HB.out.rl
  obtain ⟨d0, d1, -, -⟩ := box2 HD.out
  obtain ⟨k0, k1, k2, k3, k4⟩ := box5 HC.out
  dsimp only
  by_cases h1 : 512 < d.revs.length + c.edits.length
  · have H : Hid (110 = roomE d c) := Lib.hid (by unfold roomE; rw [if_pos (.inl h1)])
    have q1 : decide (512 < (d.revs.length : Int) + (c.edits.length : Int)) = true := by simp; omega
    have q1' : (512 : Int) < (d.revs.length : Int) + (c.edits.length : Int) := by omega
    go_wp2_with fail
    exact HRR.out _ _ H.out (Below.refl _ _)
  · have q1 : decide (512 < (d.revs.length : Int) + (c.edits.length : Int)) = false := by simp; omega
    have q1' : ¬ (512 : Int) < (d.revs.length : Int) + (c.edits.length : Int) := by omega
    by_cases h2 : 512 < d.recs.length + c.recs.length
    · have H : Hid (110 = roomE d c) := Lib.hid (by unfold roomE; rw [if_pos (.inr h2)])
      have q2 : decide (512 < (d.recs.length : Int) + (c.recs.length : Int)) = true := by simp; omega
      have q2' : (512 : Int) < (d.recs.length : Int) + (c.recs.length : Int) := by omega
      go_wp2_with fail
      exact HRR.out _ _ H.out (Below.refl _ _)
    · have H : Hid (0 = roomE d c) := Lib.hid (by unfold roomE; rw [if_neg (by omega)])
      have q2 : decide (512 < (d.recs.length : Int) + (c.recs.length : Int)) = false := by simp; omega
      have q2' : ¬ (512 : Int) < (d.recs.length : Int) + (c.recs.length : Int) := by omega
      go_wp2_with fail
      exact HRR.out _ _ H.out (Below.refl _ _)
set_option maxRecDepth 100000 in
set_option maxHeartbeats 8000000 in
theorem ckT24 (T : Code) (hT : Tryz.f60.body.bind (tailAt 24) = some T) (R : Ending → World → Prop) (d : Dep) (c : Chg) (Ar Aq Ae Ac : Option Addr) (cr cq ce cc g2 g3 : Nat) (w : World) (hb : CkB d c)
    (he : Env w) (hR : Revs w (.slice Ar d.revs.length cr) d.revs) (hP : Edts w (.slice Ae c.edits.length ce) c.edits) (hQ : Rcds w (.slice Ac c.recs.length cc) c.recs)
    (hD : Blk w g2 31 [.slice Ar d.revs.length cr, .slice Aq d.recs.length cq])
    (hC : Blk w g3 53 [.int .i64 c.num, .string c.client, .string c.text, .slice Ae c.edits.length ce, .slice Ac c.recs.length cc]) (hs : ∀ r ∈ d.revs, r.chg < c.num) (h2 : everyE (lastOf d.revs) emptyS c.edits = 0)
    (hRR : ∀ (n : Int) (w' : World), n = (if recsE d.revs c ≠ 0 then recsE d.revs c else roomE d c) → Below w.heap.size w w' → R (.returned (.int .i64 n)) w')
    (u0 u1 u4 u5 u6 u7 u8 u9 u10 u11 u12 u13 u14 u15 u16 u17 u18 u19 u20 u21 u22 u23 u24 u25 u26 u27 u28 u29 u30 u31 u32 u33 u34 u35 u36 u37 u38 u39 u40 u41 u42 u43 u44 u45 u46 u47 u48 u49 u50 u51 u52 u53 u54 u55 u56 u57 u58 u59 u60 u61 u62 u63 u64 u65 u66 u67 u68 u69 u70 u71 u72 u73 u74 u75 u76 u77 u78 u79 u80 u81 u82 u83 u84 u85 u86 u87 u88 u89 u90 u91 u92 u93 u94 u95 u96 u97 u98 u99 u100 u101 u102 u103 u104 : Value) :
    T.wp Tryz.prog (bodyPost Tryz.prog Tryz.f60 R) ⟨#[u0, u1, .pointer (some ⟨g2, 0, none⟩), .pointer (some ⟨g3, 0, none⟩), u4, u5, u6, u7, u8, u9, u10, u11, u12, u13, u14, u15, u16, u17, u18, u19, u20, u21, u22, u23, u24, u25, u26, u27, u28, u29, u30, u31, u32, u33, u34, u35, u36, u37, u38, u39, u40, u41, u42, u43, u44, u45, u46, u47, u48, u49, u50, u51, u52, u53, u54, u55, u56, u57, u58, u59, u60, u61, u62, u63, u64, u65, u66, u67, u68, u69, u70, u71, u72, u73, u74, u75, u76, u77, u78, u79, u80, u81, u82, u83, u84, u85, u86, u87, u88, u89, u90, u91, u92, u93, u94, u95, u96, u97, u98, u99, u100, u101, u102, u103, u104], []⟩ w := by
  simp only [Tryz.f60, Option.bind_some, tailAt, hasReg] at hT
  simp at hT
  subst hT
  have HRR := Lib.hid hRR
  have HEN := Lib.hid he
  have HR := Lib.hid hR
  have HP := Lib.hid hP
  have HQ := Lib.hid hQ
  have HD := Lib.hid hD
  have HC := Lib.hid hC
  have HB := Lib.hid hb
  clear hRR he hR hP hQ hD hC hb
  have bl1 := HB.out.el
  have bl2 := HB.out.rl
  have bl3 : d.revs.length ≤ 100000 := by have := HB.out.dw.len; omega
  have HS := Lib.hid hs
  have H2 := Lib.hid h2
  have HRC := Lib.hid (fun k (hk : k < c.recs.length) X (hX : Below w.heap.size w X) => refRecord_any d c (.slice Ar d.revs.length cr) (.slice Aq d.recs.length cq) Ae Ac ce cc k X (HEN.out.below hX) (HR.out.below hX) (by have := HB.out.dw.len; omega) (fun r hr => by have := HB.out.dw.num r hr; have := HB.out.dw.len; omega) (HP.out.below hX) (HQ.out.below hX) hk HB.out.rl HB.out.el (edit_bounds HB.out h2) HB.out.rcd)
  have HNO := Lib.hid (fun i (h : RecB d c i false) => recs_no HB.out.ok hs h2 h)
  have HYES := Lib.hid (fun h => recs_yes HB.out.ok hs h2 h)
  have HOF := Lib.hid (fun i (hi : i < c.recs.length) => recB_of (d := d) h2 hi)
  have HQE : Hid (∀ n : Int, recsE d.revs c = 118 → n = 118 → n = (if recsE d.revs c ≠ 0 then recsE d.revs c else roomE d c)) := Lib.hid (fun n h1 h3 => by rw [h1, h3]; rfl)
  clear hs h2
  generalize recsE d.revs c = V at HRR HNO HYES HQE
  have HT := Lib.hid (fun T hT R W he hR hP hQ hD hC hRR => ckT30 T hT R d c Ar Aq Ae Ac cr cq ce cc g2 g3 W HB.out he hR hP hQ hD hC hRR)
  obtain ⟨k0, k1, k2, k3, k4⟩ := box5 HC.out
  go_upto_block 6 with fail
  clear k0 k1 k2 k3 k4
  go_cut [] (fun wx => Hid (Below w.heap.size w wx ∧ V = 0))
  case first =>
    go_wp2_with fail
    go_loopw [78] (fun s wr => ∃ k : Nat, s = .int .i64 k ∧ k ≤ c.recs.length ∧ Hid (Below w.heap.size w wr ∧ ∀ j, j < k → RecB d c j true)) (fun s _ => c.recs.length - (intOf s).toNat)
    case atStart => exact ⟨0, rfl, Nat.zero_le _, Below.refl _ _, fun j hj => by omega⟩
    case round =>
      obtain ⟨k, rfl, hk, HI⟩ := hrel
      by_cases hlt : k < c.recs.length
      · have qlt : decide ((k : Int) < (c.recs.length : Int)) = true := by simp; omega
        obtain ⟨d0, d1, -, -⟩ := box2 (HD.out.below HI.out.1 HD.out.lt)
        obtain ⟨k0, k1, k2, k3, k4⟩ := box5 (HC.out.below HI.out.1 HC.out.lt)
        have HR1 := Lib.hid (HRC.out k hlt wr HI.out.1)
        have HO1 := Lib.hid (HOF.out k hlt)
        generalize (befI c.recs k c.recs[k] && rcFull d.revs c c.recs[k]) = bb at HR1 HO1
        go_wp2_with fail
        refine HR1.out.mono ?_
        rintro e w2 ⟨rfl, hb2⟩
        have HB2 := Lib.hid (below_next HI.out.1 hb2)
        clear hb2 d0 d1 k0 k1 k2 k3 k4
        dsimp only
        cases bb with
        | false =>
          have HF := Lib.hid (HNO.out k HO1.out)
          go_wp2_with fail
          exact HRR.out _ _ (HQE.out _ HF.out rfl) HB2.out
        | true =>
          have HJ : Hid (∀ j, j < k + 1 → RecB d c j true) := Lib.hid (fun j hj => by
            by_cases e : j = k
            · rw [e]; exact HO1.out
            · exact HI.out.2 j (by omega))
          go_wp2_with fail
          go_roundw
          case rel => exact ⟨k + 1, by go_num, by omega, HB2.out, HJ.out⟩
          case measure => simp [intOf]; omega
      · have hke : k = c.recs.length := by omega
        have q : decide ((k : Int) < (c.recs.length : Int)) = false := by simp; omega
        have q' : decide (k < c.recs.length) = false := by simp; omega
        have HZ : Hid (V = 0) := Lib.hid (HYES.out fun j hj => HI.out.2 j (by omega))
        have HW := Lib.hid HI.out.1
        clear hke
        go_wp2_with fail
        go_meet
        exact ⟨HW.out, HZ.out⟩
  case rest =>
    have HV := Lib.hid hcut.out
    clear hcut
    have hk := ‹∀ (a : Act) (w : World), Code.wp _ _ _ a w → _›
    exact hk _ _ (HT.out _ (by kernel_rfl) _ _ (HEN.out.below HV.out.1) (HR.out.below HV.out.1) (HP.out.below HV.out.1) (HQ.out.below HV.out.1) (HD.out.below HV.out.1 HD.out.lt) (HC.out.below HV.out.1 HC.out.lt) (fun n w' hn hw => HRR.out n w' (by rw [HV.out.2, hn]; rfl) (below_next HV.out.1 hw)) _ _ _ _ _ _ _ _ _ _ _ _ _ _ _ _ _ _ _ _ _ _ _ _ _ _ _ _ _ _ _ _ _ _ _ _ _ _ _ _ _ _ _ _ _ _ _ _ _ _ _ _ _ _ _ _ _ _ _ _ _ _ _ _ _ _ _ _ _ _ _ _ _ _ _ _ _ _ _ _ _ _ _ _ _ _ _ _ _ _ _ _ _ _ _ _ _ _ _ _ _ _ _)
end Go.Proofs.YtnblfaagchflaaaGreatDoor
