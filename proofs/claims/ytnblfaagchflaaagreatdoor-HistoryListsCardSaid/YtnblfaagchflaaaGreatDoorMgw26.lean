/- The reference's examination of an edit, from the action on. -/
import Derived.Test.YtnblfaagchflaaaGreatDoorMgw22
import Derived.Test.YtnblfaagchflaaaGreatDoorMgw14
import Derived.Test.YtnblfaagchflaaaGreatDoorMgw16
import Derived.Deep.LoopGhost
namespace Go.Proofs.YtnblfaagchflaaaGreatDoor
open Go.RowKit
set_option linter.unusedVariables false
set_option linter.unusedSimpArgs false

set_option maxRecDepth 100000 in
set_option maxHeartbeats 8000000 in
theorem edT8 (T : Code) (hT : Tryz.f94.body.bind (tailAt 8) = some T) (R : Ending → World → Prop) (revs : List Rev) (c : Chg) (x : Edt) (Ar Ae Ac : Option Addr) (dr : Value) (cr ce cc g3 g4 g7 : Nat) (w3 : World)
    (hR : Revs w3 (.slice Ar revs.length cr) revs) (hl : revs.length ≤ 100000) (hlog : ∀ p, LogOk revs p)
    (hD : Blk w3 g3 31 [.slice Ar revs.length cr, dr]) (hC : Blk w3 g4 53 [.int .i64 c.num, .string c.client, .string c.text, .slice Ae c.edits.length ce, .slice Ac c.recs.length cc]) (hX : Blk w3 g7 55 [.string x.path, .int .i64 x.act, .int .i64 x.ty.base, .bool x.ty.k, .bool x.ty.l, .bool x.ty.x, .int .u64 x.sum, .int .i64 x.size, .int .i64 x.base, .string x.frm, .int .i64 x.fnum, .int .i64 x.fence])
    (hRR : ∀ (n : Int) (w' : World), n = oneE (lastOf revs) x → Below w3.heap.size w3 w' → R (.returned (.int .i64 n)) w')
    (u0 u1 u2 u5 u6 u8 u9 u12 u13 u14 u15 u16 u17 u18 u19 u20 u21 u22 u23 u24 u25 u26 u27 u28 u29 u30 u31 u32 u33 u34 u35 u36 u37 u38 u39 u40 u41 u42 u43 u44 u45 u46 u47 u48 u49 u50 u51 u52 u53 u54 u55 u56 u57 u58 u59 u60 u61 u62 u63 u64 u65 u66 u67 u68 u69 u70 u71 u72 u73 u74 u75 u76 u77 u78 u79 u80 u81 u82 u83 u84 u85 u86 u87 u88 u89 u90 u91 u92 u93 u94 u95 u96 u97 u98 u99 u100 u101 u102 u103 u104 u105 u106 u107 u108 u109 u110 u111 u112 u113 u114 u115 u116 u117 u118 u119 u120 u121 u122 u123 u124 u125 u126 u127 u128 u129 u130 u131 u132 u133 u134 u135 u136 u137 u138 u139 u140 u141 u142 u143 u144 u145 u146 u147 : Value) (lv : Bool) (ln : Int) (hlv : lv = isLast (lastOf revs) x.path) (hln : ln = (lastR (lastOf revs) x.path).num) :
    T.wp Tryz.prog (bodyPost Tryz.prog Tryz.f94 R) ⟨#[u0, u1, u2, .pointer (some ⟨g3, 0, none⟩), .pointer (some ⟨g4, 0, none⟩), u5, u6, .pointer (some ⟨g7, 0, none⟩), u8, u9, .bool lv, .int .i64 ln, u12, u13, u14, u15, u16, u17, u18, u19, u20, u21, u22, u23, u24, u25, u26, u27, u28, u29, u30, u31, u32, u33, u34, u35, u36, u37, u38, u39, u40, u41, u42, u43, u44, u45, u46, u47, u48, u49, u50, u51, u52, u53, u54, u55, u56, u57, u58, u59, u60, u61, u62, u63, u64, u65, u66, u67, u68, u69, u70, u71, u72, u73, u74, u75, u76, u77, u78, u79, u80, u81, u82, u83, u84, u85, u86, u87, u88, u89, u90, u91, u92, u93, u94, u95, u96, u97, u98, u99, u100, u101, u102, u103, u104, u105, u106, u107, u108, u109, u110, u111, u112, u113, u114, u115, u116, u117, u118, u119, u120, u121, u122, u123, u124, u125, u126, u127, u128, u129, u130, u131, u132, u133, u134, u135, u136, u137, u138, u139, u140, u141, u142, u143, u144, u145, u146, u147], []⟩ w3 := by
  simp only [Tryz.f94, Option.bind_some, tailAt, hasReg] at hT
  simp at hT
  subst hT
  have HRR := Lib.hid hRR
  have HR := Lib.hid hR
  have HLOG := Lib.hid hlog
  have HLB := Lib.hid (fun p => rLiveB_last hlog p)
  have HLR := Lib.hid (fun p => someR_last hlog p)
  have HBN : Hid (0 ≤ (lastR (lastOf revs) x.path).num ∧ (lastR (lastOf revs) x.path).num ≤ 1000000) := Lib.hid (by
    have h := hlog x.path
    unfold lastR
    rw [h.last, List.getLast?_eq_getElem?]
    by_cases h0 : (logOf revs x.path).length = 0
    · rw [h0, List.getElem?_eq_none (by omega)]; simp [zeroRev]
    · rw [List.getElem?_eq_getElem (by omega)]
      simp only [Option.getD_some]
      rw [h.num]
      have := log_len revs x.path
      omega)
  have HX3 := Lib.hid hX
  have HD3 := Lib.hid hD
  have HC3 := Lib.hid hC
  have HLIVE := Lib.hid (fun p X (hX : Below w3.heap.size w3 X) => refLive_any revs p (.slice Ar revs.length cr) dr X (HR.out.below hX) (by omega))
  have HT18 := Lib.hid (fun T hT R W hR hbs hD hC hX hRR => edT18 T hT R revs c x Ar Ae Ac dr cr ce cc g3 g4 g7 W hR hl HLOG.out hbs hD hC hX hRR)
  have HIL := Lib.hid hlv
  have HLN := Lib.hid hln
  clear hRR hR hlog hD hC hX hlv hln
  generalize lastOf revs = f at HRR HLR HLB HBN HIL HLN HT18 ⊢
  obtain ⟨c0, c1, c2, c3, c4, c5, c6, c7, c8, c9, c10, c11⟩ := box12 HX3.out
  dsimp only
  go_upto_region 8 with fail
  go_cut [76] (fun v wx => ∃ bb, v = .bool bb ∧ Hid (wx = w3 ∧ (bb = true → actE f x ≠ 0) ∧ (bb = false → actE f x = 0)))
  case first =>
    by_cases hlt1 : x.act < 1
    case pos =>
      have q : decide (x.act < 1) = true := by simp; omega
      have HF : Hid (actE f x ≠ 0) := Lib.hid (act_bad1 (.inl hlt1))
      clear hlt1
      go_wp2_with fail
      go_meet
      exact ⟨true, rfl, rfl, fun _ => HF.out, fun h => by cases h⟩
    have dlt : decide (x.act < 1) = false := by simp; omega
    by_cases hgt5 : 5 < x.act
    case pos =>
      have q : decide (5 < x.act) = true := by simp; omega
      have HF : Hid (actE f x ≠ 0) := Lib.hid (act_bad1 (.inr hgt5))
      clear hlt1 hgt5
      go_wp2_with fail
      go_meet
      exact ⟨true, rfl, rfl, fun _ => HF.out, fun h => by cases h⟩
    have dgt : decide (5 < x.act) = false := by simp; omega
    have HR5 : Hid (1 ≤ x.act ∧ x.act ≤ 5) := Lib.hid ⟨by omega, by omega⟩
    clear hlt1 hgt5
    rcases add_cases x.act with ⟨q1, q4, qa⟩ | ⟨q1, q4, qa⟩ | ⟨q1, q4, qa⟩
    all_goals
      have HQA := Lib.hid qa
      clear qa
      cases lv
      all_goals
        go_wp2_with fail
        go_meet
        first
          | exact ⟨true, rfl, rfl, fun _ => act_bad2 (by rw [HQA.out, ← HIL.out]), fun h => by cases h⟩
          | exact ⟨false, rfl, rfl, fun h => (by cases h), fun _ => act_good HR5.out (by rw [HQA.out, ← HIL.out]; rfl)⟩
  case rest =>
    obtain ⟨bb, rfl, HBB⟩ := hcut
    obtain rfl : wc = w3 := HBB.out.1
    cases bb with
    | true =>
      have HF : Hid (113 = oneE f x) := Lib.hid (one113 (HBB.out.2.1 rfl)).symm
      clear HBB
      go_wp2_with fail
      exact HRR.out _ _ HF.out (Below.refl _ _)
    | false =>
      have HO1 : Hid (oneE f x = if x.base ≠ (lastR f x.path).num then 114 else if fromE f x = false then 115 else if typeE f x = false then 116 else 0) := Lib.hid (oneE_of (HBB.out.2.2 rfl))
      clear HBB
      by_cases hbb : x.base = ln
      case neg =>
        have qb : (x.base != ln) = true := by simpa using hbb
        have HF : Hid (114 = oneE f x) := Lib.hid (by rw [HO1.out, if_pos (by rw [← HLN.out]; exact hbb)])
        clear hbb
        go_wp2_with fail
        exact HRR.out _ _ HF.out (Below.refl _ _)
      have qb : (x.base != ln) = false := by simpa using hbb
      have HO2 : Hid (oneE f x = if fromE f x = false then 115 else if typeE f x = false then 116 else 0) := Lib.hid (by rw [HO1.out, if_neg (by rw [← HLN.out]; simp [hbb])])
      have HBS : Hid (0 ≤ x.base ∧ x.base ≤ 1000000) := Lib.hid (by rw [hbb, HLN.out]; exact HBN.out)
      clear hbb
      go_upto_if 83 with fail
      clear qb
      go_cut [] (fun wx => Hid (Below wc.heap.size wc wx ∧ fromE f x = true))
      case first =>
        by_cases h4 : x.act = 4
        · have q4 : (x.act == 4) = true := by simpa using h4
          have HN4 : Hid (x.act = 4) := Lib.hid h4
          clear h4
          obtain ⟨d0, d1, -, -⟩ := box2 HD3.out
          have HLV2 := Lib.hid (HLIVE.out x.frm wc (Below.refl _ _))
          go_wp2_with fail
          refine HLV2.out.mono ?_
          rintro e w4 ⟨rfl, hb4⟩
          rw [HLR.out x.frm]
          have HW4 := Lib.hid hb4
          have HX4 := Lib.hid (HX3.out.below hb4 HX3.out.lt)
          clear hb4 d0 d1 c0 c1 c2 c3 c4 c5 c6 c7 c8 c9 c10 c11
          obtain ⟨c0, c1, c2, c3, c4, c5, c6, c7, c8, c9, c10, c11⟩ := box12 HX4.out
          have HIL2 := Lib.hid (HLB.out x.frm)
          generalize rLiveB revs x.frm = lv2 at HIL2 ⊢
          cases lv2 with
          | false =>
            have HF : Hid (115 = oneE f x) := Lib.hid (by rw [HO2.out, fromE_4 HN4.out, ← HIL2.out]; rfl)
            go_wp2_with fail
            exact HRR.out _ _ HF.out HW4.out
          | true =>
            by_cases hfn : x.fnum = (lastR f x.frm).num
            case neg =>
              have qf : ((lastR f x.frm).num != x.fnum) = true := by simp; exact fun h => hfn h.symm
              have HF : Hid (115 = oneE f x) := Lib.hid (by rw [HO2.out, fromE_4 HN4.out]; simp [hfn])
              clear hfn
              go_wp2_with fail
              exact HRR.out _ _ HF.out HW4.out
            have qf : ((lastR f x.frm).num != x.fnum) = false := by simp [hfn]
            have sq := str_eqB x.frm x.path
            by_cases hfp : x.frm = x.path
            case pos =>
              rw [decide_eq_true hfp] at sq
              have HF : Hid (115 = oneE f x) := Lib.hid (by rw [HO2.out, fromE_4 HN4.out]; simp [hfp])
              clear hfp hfn
              go_wp2_with fail
              exact HRR.out _ _ HF.out HW4.out
            rw [decide_eq_false hfp] at sq
            have HFR : Hid (fromE f x = true) := Lib.hid (by rw [fromE_4 HN4.out, ← HIL2.out]; simp [hfp, hfn])
            clear hfp hfn
            go_wp2_with fail
            go_meet
            exact ⟨HW4.out, HFR.out⟩
        · have q4 : (x.act == 4) = false := by simpa using h4
          have HN4 : Hid (x.act ≠ 4) := Lib.hid h4
          clear h4
          by_cases hfr : x.frm = emptyS
          case neg =>
            have s1 := str_isE hfr
            have s2 := str_ne hfr
            have HF : Hid (115 = oneE f x) := Lib.hid (by rw [HO2.out, fromE_o HN4.out]; simp [hfr])
            clear hfr
            go_wp2_with fail
            exact HRR.out _ _ HF.out (Below.refl _ _)
          have s1 := str_empty hfr
          by_cases hfn : x.fnum = 0
          case neg =>
            have qf : (x.fnum != 0) = true := by simpa using hfn
            have HF : Hid (115 = oneE f x) := Lib.hid (by rw [HO2.out, fromE_o HN4.out]; simp [hfn])
            clear hfr hfn
            go_wp2_with fail
            exact HRR.out _ _ HF.out (Below.refl _ _)
          have qf : (x.fnum != 0) = false := by simpa using hfn
          have HFR : Hid (fromE f x = true) := Lib.hid (by rw [fromE_o HN4.out]; simp [hfr, hfn])
          clear hfr hfn
          go_wp2_with fail
          go_meet
          exact ⟨Below.refl _ _, HFR.out⟩
      case rest =>
        rename_i wc2
        have HW4 := Lib.hid hcut.out.1
        have HO3 : Hid (typV f x = oneE f x) := Lib.hid (by rw [HO2.out, hcut.out.2]; rfl)
        clear hcut
        have hk := ‹∀ (a : Act) (w : World), Code.wp _ _ _ a w → _›
        refine hk _ _ (HT18.out _ (by kernel_rfl) _ _ (HR.out.below HW4.out) HBS.out (HD3.out.below HW4.out HD3.out.lt) (HC3.out.below HW4.out HC3.out.lt) (HX3.out.below HW4.out HX3.out.lt) (fun n w' hn hb => HRR.out n w' (hn.trans HO3.out) (below_next HW4.out hb)) _ _ _ _ _ _ _ _ _ _ _ _ _ _ _ _ _ _ _ _ _ _ _ _ _ _ _ _ _ _ _ _ _ _ _ _ _ _ _ _ _ _ _ _ _ _ _ _ _ _ _ _ _ _ _ _ _ _ _ _ _ _ _ _ _ _ _ _ _ _ _ _ _ _ _ _ _ _ _ _ _ _ _ _ _ _ _ _ _ _ _ _ _ _ _ _ _ _ _ _ _ _ _ _ _ _ _ _ _ _ _ _ _ _ _ _ _ _ _ _ _ _ _ _ _ _ _ _ _ _ _ _ _ _ _ _ _ _ _ _ _ _ _ _ _)
end Go.Proofs.YtnblfaagchflaaaGreatDoor
/- The reference's record: the order of the records. -/
namespace Go.Proofs.YtnblfaagchflaaaGreatDoor
open Go.RowKit
set_option linter.unusedVariables false
set_option linter.unusedSimpArgs false

set_option maxRecDepth 100000 in
set_option maxHeartbeats 8000000 in
theorem rcR2 (ops : Array Oper) (hops : Tryz.f96.body.bind (regAt 2) = some ops) (Q : Exit → Act → World → Prop) (ad : Addr) (n cc j g4 g7 : Nat) (num : Int) (cl tx : ByteArray) (ev : Value) (x y : Rcd) (bi : Bool) (w : World) (hjn : j + 1 < n) (hn : n ≤ 100000)
    (hC : Blk w g4 53 [.int .i64 num, .string cl, .string tx, ev, .slice (some ad) n cc]) (hX : Blk w g7 57 [.string x.frm, .int .i64 x.first, .int .i64 x.last, .string x.to, .int .i64 x.num, .int .i64 x.how]) (hy : ∀ X, Below w.heap.size w X → RcdAt X (ad.add (j * 6)) y)
    (hb : ∀ X, Below w.heap.size w X → Calls Tryz.prog 97 #[.agg #[.string y.frm, .int .i64 y.first, .int .i64 y.last, .string y.to, .int .i64 y.num, .int .i64 y.how], .agg #[.string x.frm, .int .i64 x.first, .int .i64 x.last, .string x.to, .int .i64 x.num, .int .i64 x.how]] X fun e w' => e = .returned (.bool bi) ∧ Below X.heap.size X w')
    (u0 u1 u3 u5 u6 u8 u9 u10 u11 u12 u13 u14 u15 u16 u17 u18 u19 u20 u21 u22 u23 u24 u25 u26 u27 u28 u29 u30 u31 u32 u33 u34 u35 u36 u37 u38 u39 u40 u41 u42 u43 u44 u45 u46 u47 u48 u49 u50 u51 u52 u53 u54 u55 u56 u57 u58 u59 u60 u61 u62 u63 u64 u65 u66 u67 u68 u69 u70 u71 u72 u73 u74 u75 u76 u77 u78 u79 u80 u81 u82 u83 u84 u85 u86 u87 u88 u89 u90 u91 u92 u93 u94 u95 u96 u97 u98 u99 u100 u101 u102 u103 u104 u105 u106 u107 u108 u109 u110 u111 u112 u113 u114 u115 u116 u117 u118 u119 u120 u121 u122 u123 u124 u125 u126 u127 u128 u129 u130 u131 u132 u133 u134 u135 u136 u137 u138 u139 u140 u141 u142 u143 u144 u145 u146 u147 u148 u149 u150 u151 u152 u153 u154 u155 u156 u157 u158 u159 u160 u161 u162 u163 u164 u165 u166 u167 u168 u169 u170 u171 u172 u173 u174 u175 u176 u177 u178 u179 u180 u181 u182 u183 u184 u185 u186 u187 u188 u189 u190 u191 u192 u193 u194 u195 u196 u197 u198 u199 u200 u201 u202 u203 u204 u205 u206 u207 u208 u209 u210 u211 u212 u213 u214 u215 u216 u217 u218 u219 u220 u221 u222 u223 u224 u225 u226 u227 u228 u229 u230 u231 u232 u233 u234 u235 u236 u237 u238 u239 u240 u241 u242 : Value)
    (hQ : ∀ (t30 t31 t32 t33 t34 t35 t36 t37 t38 t39 t40 t41 t42 t43 t44 t45 t46 t47 t48 t49 t50 t51 : Value) (bb : Bool) (w' : World), Hid (Below w.heap.size w w' ∧ bb = (!bi || (decide (x.how < 1) || decide (4 < x.how)))) → Q .normal ⟨#[u0, u1, .int .i64 ((j + 1 : Nat) : Int), u3, .pointer (some ⟨g4, 0, none⟩), u5, u6, .pointer (some ⟨g7, 0, none⟩), u8, u9, u10, u11, u12, u13, u14, u15, u16, u17, u18, u19, u20, u21, u22, u23, u24, u25, u26, u27, u28, u29, t30, t31, t32, t33, t34, t35, t36, t37, t38, t39, t40, t41, t42, t43, t44, t45, t46, t47, t48, t49, t50, t51, .bool bb, u53, u54, u55, u56, u57, u58, u59, u60, u61, u62, u63, u64, u65, u66, u67, u68, u69, u70, u71, u72, u73, u74, u75, u76, u77, u78, u79, u80, u81, u82, u83, u84, u85, u86, u87, u88, u89, u90, u91, u92, u93, u94, u95, u96, u97, u98, u99, u100, u101, u102, u103, u104, u105, u106, u107, u108, u109, u110, u111, u112, u113, u114, u115, u116, u117, u118, u119, u120, u121, u122, u123, u124, u125, u126, u127, u128, u129, u130, u131, u132, u133, u134, u135, u136, u137, u138, u139, u140, u141, u142, u143, u144, u145, u146, u147, u148, u149, u150, u151, u152, u153, u154, u155, u156, u157, u158, u159, u160, u161, u162, u163, u164, u165, u166, u167, u168, u169, u170, u171, u172, u173, u174, u175, u176, u177, u178, u179, u180, u181, u182, u183, u184, u185, u186, u187, u188, u189, u190, u191, u192, u193, u194, u195, u196, u197, u198, u199, u200, u201, u202, u203, u204, u205, u206, u207, u208, u209, u210, u211, u212, u213, u214, u215, u216, u217, u218, u219, u220, u221, u222, u223, u224, u225, u226, u227, u228, u229, u230, u231, u232, u233, u234, u235, u236, u237, u238, u239, u240, u241, u242], []⟩ w') :
    (Code.region 2 ops true).wp Tryz.prog Q ⟨#[u0, u1, .int .i64 ((j + 1 : Nat) : Int), u3, .pointer (some ⟨g4, 0, none⟩), u5, u6, .pointer (some ⟨g7, 0, none⟩), u8, u9, u10, u11, u12, u13, u14, u15, u16, u17, u18, u19, u20, u21, u22, u23, u24, u25, u26, u27, u28, u29, u30, u31, u32, u33, u34, u35, u36, u37, u38, u39, u40, u41, u42, u43, u44, u45, u46, u47, u48, u49, u50, u51, u52, u53, u54, u55, u56, u57, u58, u59, u60, u61, u62, u63, u64, u65, u66, u67, u68, u69, u70, u71, u72, u73, u74, u75, u76, u77, u78, u79, u80, u81, u82, u83, u84, u85, u86, u87, u88, u89, u90, u91, u92, u93, u94, u95, u96, u97, u98, u99, u100, u101, u102, u103, u104, u105, u106, u107, u108, u109, u110, u111, u112, u113, u114, u115, u116, u117, u118, u119, u120, u121, u122, u123, u124, u125, u126, u127, u128, u129, u130, u131, u132, u133, u134, u135, u136, u137, u138, u139, u140, u141, u142, u143, u144, u145, u146, u147, u148, u149, u150, u151, u152, u153, u154, u155, u156, u157, u158, u159, u160, u161, u162, u163, u164, u165, u166, u167, u168, u169, u170, u171, u172, u173, u174, u175, u176, u177, u178, u179, u180, u181, u182, u183, u184, u185, u186, u187, u188, u189, u190, u191, u192, u193, u194, u195, u196, u197, u198, u199, u200, u201, u202, u203, u204, u205, u206, u207, u208, u209, u210, u211, u212, u213, u214, u215, u216, u217, u218, u219, u220, u221, u222, u223, u224, u225, u226, u227, u228, u229, u230, u231, u232, u233, u234, u235, u236, u237, u238, u239, u240, u241, u242], []⟩ w := by
  simp only [Tryz.f96, Option.bind_some, regAt] at hops
  simp at hops
  subst hops
  have HQ := Lib.hid hQ
  have HBE := Lib.hid hb
  have HCC : Hid (∀ w', Below w.heap.size w w' → w'.cell? ⟨g4, 4, none⟩ = some (.slice (some ad) n cc) ∧ w'.cell? (ad.add (j * 6)) = some (.string y.frm) ∧ w'.cell? ⟨(ad.add (j * 6)).block, (ad.add (j * 6)).off + 1, none⟩ = some (.int .i64 y.first) ∧ w'.cell? ⟨(ad.add (j * 6)).block, (ad.add (j * 6)).off + 2, none⟩ = some (.int .i64 y.last) ∧ w'.cell? ⟨(ad.add (j * 6)).block, (ad.add (j * 6)).off + 3, none⟩ = some (.string y.to) ∧ w'.cell? ⟨(ad.add (j * 6)).block, (ad.add (j * 6)).off + 4, none⟩ = some (.int .i64 y.num) ∧ w'.cell? ⟨(ad.add (j * 6)).block, (ad.add (j * 6)).off + 5, none⟩ = some (.int .i64 y.how) ∧ w'.cell? ⟨g7, 0, none⟩ = some (.string x.frm) ∧ w'.cell? ⟨g7, 1, none⟩ = some (.int .i64 x.first) ∧ w'.cell? ⟨g7, 2, none⟩ = some (.int .i64 x.last) ∧ w'.cell? ⟨g7, 3, none⟩ = some (.string x.to) ∧ w'.cell? ⟨g7, 4, none⟩ = some (.int .i64 x.num) ∧ w'.cell? ⟨g7, 5, none⟩ = some (.int .i64 x.how)) := Lib.hid fun w' hb => by
    obtain ⟨a1, a2, a3, a4, a5, a6⟩ := hy w' hb
    obtain ⟨-, -, -, -, k4⟩ := box5 (hC.below hb hC.lt)
    obtain ⟨x0, x1, x2, x3, x4, x5⟩ := box6 (hX.below hb hX.lt)
    exact ⟨k4, a1, a2, a3, a4, a5, a6, x0, x1, x2, x3, x4, x5⟩
  clear hQ hb hC hX hy
  have d0 : decide (0 < j + 1) = true := by simp
  have d1 : decide ((0 : Int) < ((j + 1 : Nat) : Int)) = true := decide_eq_true (by omega)
  have d2 : decide ((0 : Int) < (j : Int) + 1) = true := decide_eq_true (by omega)
  have hjz : (j : Int) < (n : Int) := by omega
  have hnz : (n : Int) ≤ 100000 := by omega
  have hwp : IntKind.i64.wrap (j : Int) = (j : Int) := by rw [IntKind.wrap_i64]; omega
  by_cases h1 : x.how < 1
  · have q1 : decide (x.how < 1) = true := by simpa using h1
    have HF : Hid (true = (!bi || (decide (x.how < 1) || decide (4 < x.how)))) := Lib.hid (by simp [h1])
    clear h1
    cases bi
    all_goals
      obtain ⟨f0, f1, f2, f3, f4, f5, f6, f7, f8, f9, f10, f11, f12⟩ := HCC.out w (Below.refl _ _)
      refine wp_region_noPanic ?_
      first
        | go_region_law ((go_simp; go_at_call 97; refine (HBE.out _ (Below.refl _ _).drew).mono ?_; rintro e w6 ⟨rfl, hb6⟩; have HS6 : Hid (Below w.heap.size w w6) := Lib.hid ((Below.refl _ _).drew.trans hb6); clear hb6; obtain ⟨g0, g1, g2, g3', g4', g5, g6, g7', g8, g9, g10, g11, g12⟩ := HCC.out w6 HS6.out; clear g0 g1 g2 g3' g4' g5 g6 g7' g8 g9 g10 g11))
        | fail
      all_goals exact NoPanic.normal (HQ.out _ _ _ _ _ _ _ _ _ _ _ _ _ _ _ _ _ _ _ _ _ _ true _ ⟨HS6.out, HF.out⟩)
  · have q1 : decide (x.how < 1) = false := by simpa using h1
    by_cases h2 : 4 < x.how
    · have q2 : decide (4 < x.how) = true := by simpa using h2
      have HF : Hid (true = (!bi || (decide (x.how < 1) || decide (4 < x.how)))) := Lib.hid (by simp [h2])
      clear h1 h2
      cases bi
      all_goals
        obtain ⟨f0, f1, f2, f3, f4, f5, f6, f7, f8, f9, f10, f11, f12⟩ := HCC.out w (Below.refl _ _)
        refine wp_region_noPanic ?_
        first
          | go_region_law ((go_simp; go_at_call 97; refine (HBE.out _ (Below.refl _ _).drew).mono ?_; rintro e w6 ⟨rfl, hb6⟩; have HS6 : Hid (Below w.heap.size w w6) := Lib.hid ((Below.refl _ _).drew.trans hb6); clear hb6; obtain ⟨g0, g1, g2, g3', g4', g5, g6, g7', g8, g9, g10, g11, g12⟩ := HCC.out w6 HS6.out; clear g0 g1 g2 g3' g4' g5 g6 g7' g8 g9 g10 g11))
          | fail
        all_goals exact NoPanic.normal (HQ.out _ _ _ _ _ _ _ _ _ _ _ _ _ _ _ _ _ _ _ _ _ _ true _ ⟨HS6.out, HF.out⟩)
    · have q2 : decide (4 < x.how) = false := by simpa using h2
      have HF : Hid ((!bi) = (!bi || (decide (x.how < 1) || decide (4 < x.how)))) := Lib.hid (by simp [h1, h2])
      clear h1 h2
      cases bi
      all_goals
        obtain ⟨f0, f1, f2, f3, f4, f5, f6, f7, f8, f9, f10, f11, f12⟩ := HCC.out w (Below.refl _ _)
        refine wp_region_noPanic ?_
        first
          | go_region_law ((go_simp; go_at_call 97; refine (HBE.out _ (Below.refl _ _).drew).mono ?_; rintro e w6 ⟨rfl, hb6⟩; have HS6 : Hid (Below w.heap.size w w6) := Lib.hid ((Below.refl _ _).drew.trans hb6); clear hb6; obtain ⟨g0, g1, g2, g3', g4', g5, g6, g7', g8, g9, g10, g11, g12⟩ := HCC.out w6 HS6.out; clear g0 g1 g2 g3' g4' g5 g6 g7' g8 g9 g10 g11))
          | fail
        all_goals exact NoPanic.normal (HQ.out _ _ _ _ _ _ _ _ _ _ _ _ _ _ _ _ _ _ _ _ _ _ _ _ ⟨HS6.out, HF.out⟩)
end Go.Proofs.YtnblfaagchflaaaGreatDoor
