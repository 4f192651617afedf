/- The statements' Small, with what its no says. -/
import Derived.Test.YtnblfaagchflaaaGreatDoorMgw16
import Derived.Test.YtnblfaagchflaaaGreatDoorMgw14
import Derived.Test.YtnblfaagchflaaaGreatDoorMgw20
namespace Go.Proofs.YtnblfaagchflaaaGreatDoor
open Go.RowKit
set_option linter.unusedVariables false
set_option linter.unusedSimpArgs false

def SmPost2 (w : World) (l : List Chg) (e : Ending) (w' : World) : Prop := ∃ b, e = .returned (.bool b) ∧ Below w.heap.size w w' ∧ (b = true → smallL l) ∧ (b = false → ¬ smallL l)
set_option maxRecDepth 100000 in
set_option maxHeartbeats 8000000 in
theorem small_both (ps : List ChV) (v : Value) (w : World) (hP : Chgs w v ps) (hl : ps.length ≤ 10000000000000) (hs : ∀ p ∈ ps, chgLen p.1 ≤ 10000000000000) (hz : ∀ p ∈ ps, (∀ x ∈ p.1.edits, x.path.size ≤ 140737488355328 ∧ x.frm.size ≤ 140737488355328) ∧ ∀ x ∈ p.1.recs, x.frm.size ≤ 140737488355328 ∧ x.to.size ≤ 140737488355328) :
    Calls Tryz.prog 5 #[v] w (SmPost2 w (ps.map (·.1))) := by
  obtain ⟨A, c, rfl, hc, hm, -⟩ := id hP.1
  have HP := Lib.hid hP
  have HS := Lib.hid hs
  have HZ := Lib.hid hz
  unfold maxLen at hm
  clear hP hs hz
  go_enter Tryz.func5, Tryz.ntmps5
  go_wp2_with fail
  go_loopw [3, 12] (fun s t wr => ∃ (k : Nat) (tot : Int), s = .int .i64 tot ∧ t = .int .i64 k ∧ k ≤ ps.length ∧ Hid ((k ≤ 40 → tot = lenSum ((ps.take k).map (·.1)) ∧ 0 ≤ tot ∧ tot ≤ k * 10000000000000) ∧ (∀ p ∈ ps.take k, chgSm p.1) ∧ Below w.heap.size w wr)) (fun _ t _ => ps.length - (intOf t).toNat)
  case atStart => exact ⟨0, 0, rfl, rfl, Nat.zero_le _, fun _ => ⟨rfl, by omega, by omega⟩, fun p hp => by simp at hp, Below.refl _ _⟩
  case round =>
    obtain ⟨k, tot, rfl, rfl, hk, HI⟩ := hrel
    by_cases hlt : k < ps.length
    · have hPr := HP.out.below HI.out.2.2
      obtain ⟨ad, rfl, hab, hld⟩ := Chgs.at_ hPr hlt
      have HT := Lib.hid (show ps.take (k + 1) = ps.take k ++ [ps[k]] from List.take_succ_eq_append_getElem hlt)
      have hpm : ps[k] ∈ ps := List.getElem_mem _
      have hok := hPr.2 ps[k] hpm
      have hcl := HS.out ps[k] hpm
      have HPM := Lib.hid (HZ.out ps[k] hpm)
      have HNOT := Lib.hid (fun (h : ¬ chgSm ps[k].1) (hs : smallL (ps.map (·.1))) => h (hs.1 _ (List.mem_map_of_mem hpm)))
      generalize ps[k] = p at hld HT hok hcl HPM HNOT
      clear hpm hPr
      obtain ⟨ch, ev, rv⟩ := p
      obtain ⟨Ae, ce, he, -⟩ := id hok.1
      obtain ⟨Ac, cc, hc2, -⟩ := id hok.2
      change ev = .slice Ae ch.edits.length ce at he
      change rv = .slice Ac ch.recs.length cc at hc2
      subst he hc2
      obtain ⟨x0, x1, x2, x3, x4⟩ := hld
      change wr.cell? (ad.add (k * 5)) = some (.int .i64 ch.num) at x0
      change wr.cell? ⟨(ad.add (k * 5)).block, (ad.add (k * 5)).off + 1, none⟩ = some (.string ch.client) at x1
      change wr.cell? ⟨(ad.add (k * 5)).block, (ad.add (k * 5)).off + 2, none⟩ = some (.string ch.text) at x2
      change wr.cell? ⟨(ad.add (k * 5)).block, (ad.add (k * 5)).off + 3, none⟩ = some (.slice Ae ch.edits.length ce) at x3
      change wr.cell? ⟨(ad.add (k * 5)).block, (ad.add (k * 5)).off + 4, none⟩ = some (.slice Ac ch.recs.length cc) at x4
      unfold chgLen at hcl
      change ch.edits.length + ch.recs.length ≤ 10000000000000 at hcl
      have HOK : Hid (Edts wr (.slice Ae ch.edits.length ce) ch.edits ∧ Rcds wr (.slice Ac ch.recs.length cc) ch.recs) := Lib.hid hok
      clear hok
      have hX1 := blk_new wr [.int .i64 ch.num, .string ch.client, .string ch.text, .slice Ae ch.edits.length ce, .slice Ac ch.recs.length cc] 53
      have hA1 : Below wr.heap.size wr (wr.alloc (.cells #[.int .i64 ch.num, .string ch.client, .string ch.text, .slice Ae ch.edits.length ce, .slice Ac ch.recs.length cc] 53)) := (Below.refl _ _).alloc (Nat.le_refl _) _
      go_upto_region 5 with fail
      clear x0 x1 x2 x3 x4
      generalize wr.alloc (.cells #[.int .i64 ch.num, .string ch.client, .string ch.text, .slice Ae ch.edits.length ce, .slice Ac ch.recs.length cc] 53) = V1 at hX1 hA1 ⊢
      generalize wr = wq at hX1 hA1 HOK HI hab ⊢
      obtain ⟨-, -, -, y3, y4⟩ := box5 hX1
      go_wp2_with fail
      clear y3 y4
      have HX1 := Lib.hid hX1
      have HA1 := Lib.hid hA1
      clear hX1 hA1
      go_loopw [28] (fun s wy => ∃ j : Nat, s = .int .i64 j ∧ j ≤ ch.edits.length ∧ Hid ((∀ x ∈ ch.edits.take j, edtSm x) ∧ Below V1.heap.size V1 wy)) (fun s _ => ch.edits.length - (intOf s).toNat)
      case atStart => exact ⟨0, rfl, Nat.zero_le _, fun x hx => by simp at hx, Below.refl _ _⟩
      case round =>
        obtain ⟨j, rfl, hj, HJ⟩ := hrel
        by_cases hjl : j < ch.edits.length
        · have hEd := (HOK.out.1.below HA1.out).below HJ.out.2
          obtain ⟨ad2, rfl, hab2, hld2⟩ := Edts.at_ hEd hjl
          have HTJ := Lib.hid (show ch.edits.take (j + 1) = ch.edits.take j ++ [ch.edits[j]] from List.take_succ_eq_append_getElem hjl)
          have hzz := HPM.out.1 ch.edits[j] (List.getElem_mem _)
          have HNE := Lib.hid (fun (h : ¬ edtSm ch.edits[j]) (hs : chgSm ch) => h (hs.1 _ (List.getElem_mem _)))
          generalize ch.edits[j] = x at hld2 HTJ hzz HNE
          obtain ⟨x0, x1, x2, x3, x4, x5, x6, x7, x8, x9, x10, x11⟩ := hld2
          have hX2 := blk_new wr [.string x.path, .int .i64 x.act, .int .i64 x.ty.base, .bool x.ty.k, .bool x.ty.l, .bool x.ty.x, .int .u64 x.sum, .int .i64 x.size, .int .i64 x.base, .string x.frm, .int .i64 x.fnum, .int .i64 x.fence] 55
          have hb2 : Below V1.heap.size V1 (wr.alloc (.cells #[.string x.path, .int .i64 x.act, .int .i64 x.ty.base, .bool x.ty.k, .bool x.ty.l, .bool x.ty.x, .int .u64 x.sum, .int .i64 x.size, .int .i64 x.base, .string x.frm, .int .i64 x.fnum, .int .i64 x.fence] 55)) := HJ.out.2.alloc HJ.out.2.size _
          clear hEd
          go_upto_region 9 with fail
          clear x0 x1 x2 x3 x4 x5 x6 x7 x8 x9 x10 x11
          generalize wr.alloc (.cells #[.string x.path, .int .i64 x.act, .int .i64 x.ty.base, .bool x.ty.k, .bool x.ty.l, .bool x.ty.x, .int .u64 x.sum, .int .i64 x.size, .int .i64 x.base, .string x.frm, .int .i64 x.fnum, .int .i64 x.fence] 55) = V2 at hX2 hb2 ⊢
          obtain ⟨y0, -, -, -, -, -, -, -, -, y9, -, -⟩ := box12 hX2
          have HB2 := Lib.hid hb2
          clear hX2 hb2
          by_cases hq : x.path.size + x.frm.size ≤ 500
          · have q : decide ((500 : Int) < (x.path.size : Int) + (x.frm.size : Int)) = false := by simp; omega
            have HQ : Hid (edtSm x) := Lib.hid hq
            clear hq
            go_wp2_with fail
            go_roundw
            case rel => exact ⟨j + 1, by go_num, by omega, fun y hy => by
              rw [HTJ.out] at hy
              rcases List.mem_append.1 hy with hy | hy
              · exact HJ.out.1 y hy
              · rw [List.mem_singleton] at hy; subst hy; exact HQ.out, HB2.out⟩
            case measure => simp [intOf]; omega
          · have q : decide ((500 : Int) < (x.path.size : Int) + (x.frm.size : Int)) = true := by simp; omega
            have HQ : Hid (¬ edtSm x) := Lib.hid hq
            clear hq
            go_wp2_with fail
            go_ret
            exact ⟨false, rfl, below_next HI.out.2.2 (below_next HA1.out HB2.out), fun h => (by cases h), fun _ => HNOT.out (HNE.out HQ.out)⟩
        · have hje : j = ch.edits.length := by omega
          subst hje
          have HES : Hid (∀ x ∈ ch.edits, edtSm x) := Lib.hid (by have := HJ.out.1; rwa [List.take_length] at this)
          have y4 : wr.cell? ⟨wq.heap.size, 4, none⟩ = some (.slice Ac ch.recs.length cc) := (HX1.out.below HJ.out.2 HX1.out.lt).cell 4
          have HJB := Lib.hid HJ.out.2
          clear HJ
          go_wp2_with fail
          clear y4
          generalize wr = V3 at HJB ⊢
          go_loopw [44] (fun s wy => ∃ j : Nat, s = .int .i64 j ∧ j ≤ ch.recs.length ∧ Hid ((∀ x ∈ ch.recs.take j, rcdSm x) ∧ Below V3.heap.size V3 wy)) (fun s _ => ch.recs.length - (intOf s).toNat)
          case atStart => exact ⟨0, rfl, Nat.zero_le _, fun x hx => by simp at hx, Below.refl _ _⟩
          case round =>
            obtain ⟨j, rfl, hj, HJ⟩ := hrel
            by_cases hjl : j < ch.recs.length
            · have hEd := ((HOK.out.2.below HA1.out).below HJB.out).below HJ.out.2
              obtain ⟨ad2, rfl, hab2, hld2⟩ := Rcds.at_ hEd hjl
              have HTJ := Lib.hid (show ch.recs.take (j + 1) = ch.recs.take j ++ [ch.recs[j]] from List.take_succ_eq_append_getElem hjl)
              have hzz := HPM.out.2 ch.recs[j] (List.getElem_mem _)
              have HNE := Lib.hid (fun (h : ¬ rcdSm ch.recs[j]) (hs : chgSm ch) => h (hs.2 _ (List.getElem_mem _)))
              generalize ch.recs[j] = x at hld2 HTJ hzz HNE
              obtain ⟨x0, x1, x2, x3, x4, x5⟩ := hld2
              have hX2 := blk_new wr [.string x.frm, .int .i64 x.first, .int .i64 x.last, .string x.to, .int .i64 x.num, .int .i64 x.how] 57
              have hb2 : Below V3.heap.size V3 (wr.alloc (.cells #[.string x.frm, .int .i64 x.first, .int .i64 x.last, .string x.to, .int .i64 x.num, .int .i64 x.how] 57)) := HJ.out.2.alloc HJ.out.2.size _
              clear hEd
              go_upto_region 15 with fail
              clear x0 x1 x2 x3 x4 x5
              generalize wr.alloc (.cells #[.string x.frm, .int .i64 x.first, .int .i64 x.last, .string x.to, .int .i64 x.num, .int .i64 x.how] 57) = V2 at hX2 hb2 ⊢
              obtain ⟨y0, -, -, y3, -, -⟩ := box6 hX2
              have HB2 := Lib.hid hb2
              clear hX2 hb2
              by_cases hq : x.frm.size + x.to.size ≤ 500
              · have q : decide ((500 : Int) < (x.frm.size : Int) + (x.to.size : Int)) = false := by simp; omega
                have HQ : Hid (rcdSm x) := Lib.hid hq
                clear hq
                go_wp2_with fail
                go_roundw
                case rel => exact ⟨j + 1, by go_num, by omega, fun y hy => by
                  rw [HTJ.out] at hy
                  rcases List.mem_append.1 hy with hy | hy
                  · exact HJ.out.1 y hy
                  · rw [List.mem_singleton] at hy; subst hy; exact HQ.out, HB2.out⟩
                case measure => simp [intOf]; omega
              · have q : decide ((500 : Int) < (x.frm.size : Int) + (x.to.size : Int)) = true := by simp; omega
                have HQ : Hid (¬ rcdSm x) := Lib.hid hq
                clear hq
                go_wp2_with fail
                go_ret
                exact ⟨false, rfl, below_next HI.out.2.2 (below_next HA1.out (below_next HJB.out HB2.out)), fun h => (by cases h), fun _ => HNOT.out (HNE.out HQ.out)⟩
            · have hje : j = ch.recs.length := by omega
              subst hje
              have HRS : Hid (∀ x ∈ ch.recs, rcdSm x) := Lib.hid (by have := HJ.out.1; rwa [List.take_length] at this)
              go_wp2_with fail
              go_roundw
              case rel =>
                refine ⟨k + 1, wrap64 (tot + ((ch.edits.length : Int) + (ch.recs.length : Int))), rfl, by go_num, by omega, ?_, ?_, below_next HI.out.2.2 (below_next HA1.out (below_next HJB.out HJ.out.2))⟩
                · intro h40
                  obtain ⟨i1, i2, i3⟩ := HI.out.1 (by omega)
                  have hwr : wrap64 (tot + ((ch.edits.length : Int) + (ch.recs.length : Int))) = tot + ((ch.edits.length : Int) + (ch.recs.length : Int)) := by unfold wrap64; omega
                  rw [hwr, HT.out, List.map_append, List.map_cons, List.map_nil, lenSum_snoc]
                  refine ⟨?_, by omega, by omega⟩
                  rw [i1]; unfold chgLen; dsimp only; omega
                · intro p hp
                  rw [HT.out] at hp
                  rcases List.mem_append.1 hp with hp | hp
                  · exact HI.out.2.1 p hp
                  · rw [List.mem_singleton] at hp; subst hp; exact ⟨HES.out, HRS.out⟩
              case measure => simp [intOf]; omega
    · have hkk : k = ps.length := by omega
      subst hkk
      have HI2 : Hid ((ps.length ≤ 40 → tot = lenSum (ps.map (·.1)) ∧ 0 ≤ tot ∧ tot ≤ ps.length * 10000000000000) ∧ (∀ c ∈ ps.map (·.1), chgSm c)) := Lib.hid (by
        have h1 := HI.out.1
        have h2 := HI.out.2.1
        rw [List.take_length] at h1 h2
        exact ⟨h1, fun c hc => by obtain ⟨p, hp, rfl⟩ := List.mem_map.1 hc; exact h2 p hp⟩)
      by_cases h40 : ps.length ≤ 40
      · have d1 : decide (ps.length ≤ 40) = true := by simp; omega
        by_cases h200 : tot ≤ 200
        · have d1' : decide ((ps.length : Int) ≤ 40) = true := by simp; omega
          have d2' : decide (tot ≤ 200) = true := by simp; omega
          go_wp2_with fail
          go_ret
          exact ⟨true, rfl, HI.out.2.2, fun _ => ⟨HI2.out.2, by rw [List.length_map]; exact h40, by have := (HI2.out.1 h40).1; omega⟩, fun h => by cases h⟩
        · have d1' : decide ((ps.length : Int) ≤ 40) = true := by simp; omega
          have d2' : decide (tot ≤ 200) = false := by simp; omega
          go_wp2_with fail
          go_ret
          exact ⟨false, rfl, HI.out.2.2, fun h => (by cases h), fun _ hs => by have h1 := (HI2.out.1 h40).1; have h2 := hs.2.2; omega⟩
      · have d1' : decide ((ps.length : Int) ≤ 40) = false := by simp; omega
        go_wp2_with fail
        go_ret
        exact ⟨false, rfl, HI.out.2.2, fun h => (by cases h), fun _ hs => h40 (by have := hs.2.1; rwa [List.length_map] at this)⟩
end Go.Proofs.YtnblfaagchflaaaGreatDoor
/- The reference's record: regions that compare first members. -/
namespace Go.Proofs.YtnblfaagchflaaaGreatDoor
open Go.RowKit
set_option linter.unusedVariables false
set_option linter.unusedSimpArgs false

set_option maxRecDepth 100000 in
set_option maxHeartbeats 8000000 in
theorem rcR29 (ops : Array Oper) (hops : Tryz.f96.body.bind (regAt 29) = some ops) (Q : Exit → Act → World → Prop) (revs : List Rev) (u : Rev) (l : Fil) (Ar : Option Addr) (dr : Value) (cr g3 g16 g20 : Nat) (w : World)
    (hR : Revs w (.slice Ar revs.length cr) revs) (hl : revs.length ≤ 100000) (hns : ∀ r ∈ revs, 0 ≤ r.num ∧ r.num ≤ 1000000) (hn : 0 ≤ u.num ∧ u.num ≤ 1000000) (hD : Blk w g3 31 [.slice Ar revs.length cr, dr]) (hL : Blk w g16 90 [.string l.1, .int .i64 l.2]) (hU : Blk w g20 40 [.string u.path, .int .i64 u.num, .int .i64 u.chg, .int .i64 u.act, .int .i64 u.ty.base, .bool u.ty.k, .bool u.ty.l, .bool u.ty.x, .int .u64 u.sum, .int .i64 u.size, .string u.frm, .int .i64 u.fnum])
    (u0 u1 u2 u4 u5 u6 u7 u8 u9 u10 u11 u12 u13 u14 u15 u17 u18 u19 u21 u22 u23 u24 u25 u26 u27 u28 u29 u30 u31 u32 u33 u34 u35 u36 u37 u38 u39 u40 u41 u42 u43 u44 u45 u46 u47 u48 u49 u50 u51 u52 u53 u54 u55 u56 u57 u58 u59 u60 u61 u62 u63 u64 u65 u66 u67 u68 u69 u70 u71 u72 u73 u74 u75 u76 u77 u78 u79 u80 u81 u82 u83 u84 u85 u86 u87 u88 u89 u90 u91 u92 u93 u94 u95 u96 u97 u98 u99 u100 u101 u102 u103 u104 u105 u106 u107 u108 u109 u110 u111 u112 u113 u114 u115 u116 u117 u118 u119 u120 u121 u122 u123 u124 u125 u126 u127 u128 u129 u130 u131 u132 u133 u134 u135 u136 u137 u138 u139 u140 u141 u142 u143 u144 u145 u146 u147 u148 u149 u150 u151 u152 u153 u154 u155 u156 u157 u158 u159 u160 u161 u162 u163 u164 u165 u166 u167 u168 u169 u170 u171 u172 u173 u174 u175 u176 u177 u178 u179 u180 u181 u182 u183 u184 u185 u186 u187 u188 u189 u190 u191 u192 u193 u194 u195 u196 u197 u198 u199 u200 u201 u202 u203 u204 u205 u206 u207 u208 u209 u210 u211 u212 u213 u214 u215 u216 u217 u218 u219 u220 u221 u222 u223 u224 u225 u226 u227 u228 u229 u230 u231 u232 u233 u234 u235 u236 u237 u238 u239 u240 u241 u242 : Value)
    (hQ : ∀ (t182 t183 t184 t185 : Value) (w' : World), Hid (Below w.heap.size w w') → Q .normal ⟨#[u0, u1, u2, .pointer (some ⟨g3, 0, none⟩), u4, u5, u6, u7, u8, u9, u10, u11, u12, u13, u14, u15, .pointer (some ⟨g16, 0, none⟩), u17, u18, u19, .pointer (some ⟨g20, 0, none⟩), u21, u22, u23, u24, u25, u26, u27, u28, u29, u30, u31, u32, u33, u34, u35, u36, u37, u38, u39, u40, u41, u42, u43, u44, u45, u46, u47, u48, u49, u50, u51, u52, u53, u54, u55, u56, u57, u58, u59, u60, u61, u62, u63, u64, u65, u66, u67, u68, u69, u70, u71, u72, u73, u74, u75, u76, u77, u78, u79, u80, u81, u82, u83, u84, u85, u86, u87, u88, u89, u90, u91, u92, u93, u94, u95, u96, u97, u98, u99, u100, u101, u102, u103, u104, u105, u106, u107, u108, u109, u110, u111, u112, u113, u114, u115, u116, u117, u118, u119, u120, u121, u122, u123, u124, u125, u126, u127, u128, u129, u130, u131, u132, u133, u134, u135, u136, u137, u138, u139, u140, u141, u142, u143, u144, u145, u146, u147, u148, u149, u150, u151, u152, u153, u154, u155, u156, u157, u158, u159, u160, u161, u162, u163, u164, u165, u166, u167, u168, u169, u170, u171, u172, u173, u174, u175, u176, u177, u178, u179, u180, u181, t182, t183, t184, t185, .bool (decide (rFirst revs u = l)), u187, u188, u189, u190, u191, u192, u193, u194, u195, u196, u197, u198, u199, u200, u201, u202, u203, u204, u205, u206, u207, u208, u209, u210, u211, u212, u213, u214, u215, u216, u217, u218, u219, u220, u221, u222, u223, u224, u225, u226, u227, u228, u229, u230, u231, u232, u233, u234, u235, u236, u237, u238, u239, u240, u241, u242], []⟩ w') :
    (Code.region 29 ops true).wp Tryz.prog Q ⟨#[u0, u1, u2, .pointer (some ⟨g3, 0, none⟩), u4, u5, u6, u7, u8, u9, u10, u11, u12, u13, u14, u15, .pointer (some ⟨g16, 0, none⟩), u17, u18, u19, .pointer (some ⟨g20, 0, none⟩), u21, u22, u23, u24, u25, u26, u27, u28, u29, u30, u31, u32, u33, u34, u35, u36, u37, u38, u39, u40, u41, u42, u43, u44, u45, u46, u47, u48, u49, u50, u51, u52, u53, u54, u55, u56, u57, u58, u59, u60, u61, u62, u63, u64, u65, u66, u67, u68, u69, u70, u71, u72, u73, u74, u75, u76, u77, u78, u79, u80, u81, u82, u83, u84, u85, u86, u87, u88, u89, u90, u91, u92, u93, u94, u95, u96, u97, u98, u99, u100, u101, u102, u103, u104, u105, u106, u107, u108, u109, u110, u111, u112, u113, u114, u115, u116, u117, u118, u119, u120, u121, u122, u123, u124, u125, u126, u127, u128, u129, u130, u131, u132, u133, u134, u135, u136, u137, u138, u139, u140, u141, u142, u143, u144, u145, u146, u147, u148, u149, u150, u151, u152, u153, u154, u155, u156, u157, u158, u159, u160, u161, u162, u163, u164, u165, u166, u167, u168, u169, u170, u171, u172, u173, u174, u175, u176, u177, u178, u179, u180, u181, u182, u183, u184, u185, u186, u187, u188, u189, u190, u191, u192, u193, u194, u195, u196, u197, u198, u199, u200, u201, u202, u203, u204, u205, u206, u207, u208, u209, u210, u211, u212, u213, u214, u215, u216, u217, u218, u219, u220, u221, u222, u223, u224, u225, u226, u227, u228, u229, u230, u231, u232, u233, u234, u235, u236, u237, u238, u239, u240, u241, u242], []⟩ w := by
  simp only [Tryz.f96, Option.bind_some, regAt] at hops
  simp at hops
  subst hops
  have HQ := Lib.hid hQ
  have HFI := Lib.hid (fun X (hX : Below w.heap.size w X) => refFirst_any revs u (.slice Ar revs.length cr) dr X (hR.below hX) (by omega) hn hns)
  have hf : ∀ w', Below w.heap.size w w' → w'.cell? ⟨g3, 0, none⟩ = some (.slice Ar revs.length cr) ∧ w'.cell? ⟨g3, 1, none⟩ = some dr ∧ w'.cell? ⟨g16, 0, none⟩ = some (.string l.1) ∧ w'.cell? ⟨g16, 1, none⟩ = some (.int .i64 l.2) := fun w' hb => by
    obtain ⟨a, b, -, -⟩ := box2 (hD.below hb hD.lt)
    obtain ⟨e, f, -, -⟩ := box2 (hL.below hb hL.lt)
    exact ⟨a, b, e, f⟩
  have he := fun w' (hb : Below w.heap.size w w') => box12 (hU.below hb hU.lt)
  have HF := Lib.hid hf
  have HE2 := Lib.hid he
  clear hQ hR hD hL hU hf he hn hns
  obtain ⟨f0, f1, f2, f3⟩ := HF.out w (Below.refl _ _)
  obtain ⟨c0, c1, c2, c3, c4, c5, c6, c7, c8, c9, c10, c11⟩ := HE2.out w (Below.refl _ _)
  obtain ⟨l1, l2⟩ := l
  dsimp only at *
  have heq := fun W => (show (binOp .eql 90 (.agg #[.string (rFirst revs u).1, .int .i64 (rFirst revs u).2]) (.agg #[.string l1, .int .i64 l2])).run Tryz.prog W = .ok (.bool (decide (rFirst revs u = (l1, l2)))) W from run_eql_fil _ _ _ _ W)
  generalize decide (rFirst revs u = (l1, l2)) = bl at heq HQ
  generalize (rFirst revs u).1 = r1 at HFI heq
  generalize (rFirst revs u).2 = r2 at HFI heq
  refine wp_region_noPanic ?_
  go_region_law ((go_simp; go_at_call 124; refine (HFI.out _ (by repeat (first | exact Below.refl _ _ | assumption | with_reducible refine Below.drew ?_ | with_reducible refine below_alloc' ?_ _ | with_reducible refine below12 ?_ (Nat.le_refl _) _))).mono ?_; rintro e w6 ⟨rfl, hb6⟩; have hS6 : Below w.heap.size w w6 := below_next (by repeat (first | exact Below.refl _ _ | assumption | with_reducible refine Below.drew ?_ | with_reducible refine below_alloc' ?_ _ | with_reducible refine below12 ?_ (Nat.le_refl _) _)) hb6; obtain ⟨f4, f5, f6, f7⟩ := HF.out w6 hS6))
  all_goals exact NoPanic.normal (HQ.out _ _ _ _ _ hS6)
set_option maxRecDepth 100000 in
set_option maxHeartbeats 8000000 in
theorem rcR25 (ops : Array Oper) (hops : Tryz.f96.body.bind (regAt 25) = some ops) (Q : Exit → Act → World → Prop) (revs : List Rev) (u : Rev) (l : Fil) (Ar : Option Addr) (dr : Value) (cr g3 g16 g20 : Nat) (w : World)
    (hR : Revs w (.slice Ar revs.length cr) revs) (hl : revs.length ≤ 100000) (hns : ∀ r ∈ revs, 0 ≤ r.num ∧ r.num ≤ 1000000) (hn : 0 ≤ u.num ∧ u.num ≤ 1000000) (hD : Blk w g3 31 [.slice Ar revs.length cr, dr]) (hL : Blk w g16 90 [.string l.1, .int .i64 l.2]) (hU : Blk w g20 40 [.string u.path, .int .i64 u.num, .int .i64 u.chg, .int .i64 u.act, .int .i64 u.ty.base, .bool u.ty.k, .bool u.ty.l, .bool u.ty.x, .int .u64 u.sum, .int .i64 u.size, .string u.frm, .int .i64 u.fnum])
    (u0 u1 u2 u4 u5 u6 u7 u8 u9 u10 u11 u12 u13 u14 u15 u17 u19 u20 u21 u22 u23 u24 u25 u26 u27 u28 u29 u30 u31 u32 u33 u34 u35 u36 u37 u38 u39 u40 u41 u42 u43 u44 u45 u46 u47 u48 u49 u50 u51 u52 u53 u54 u55 u56 u57 u58 u59 u60 u61 u62 u63 u64 u65 u66 u67 u68 u69 u70 u71 u72 u73 u74 u75 u76 u77 u78 u79 u80 u81 u82 u83 u84 u85 u86 u87 u88 u89 u90 u91 u92 u93 u94 u95 u96 u97 u98 u99 u100 u101 u102 u103 u104 u105 u106 u107 u108 u109 u110 u111 u112 u113 u114 u115 u116 u117 u118 u119 u120 u121 u122 u123 u124 u125 u126 u127 u128 u129 u130 u131 u132 u133 u134 u135 u136 u137 u138 u139 u140 u141 u142 u143 u144 u145 u146 u147 u148 u149 u150 u151 u152 u153 u154 u155 u156 u157 u158 u159 u160 u161 u162 u163 u164 u165 u166 u167 u168 u169 u170 u171 u172 u173 u174 u175 u176 u177 u178 u179 u180 u181 u182 u183 u184 u185 u186 u187 u188 u189 u190 u191 u192 u193 u194 u195 u196 u197 u198 u199 u200 u201 u202 u203 u204 u205 u206 u207 u208 u209 u210 u211 u212 u213 u214 u215 u216 u217 u218 u219 u220 u221 u222 u223 u224 u225 u226 u227 u228 u229 u230 u231 u232 u233 u234 u235 u236 u237 u238 u239 u240 u241 u242 : Value)
    (hQ : ∀ (t161 t162 t163 t164 t165 t166 t167 t168 t169 : Value) (w' : World), Hid (Below w.heap.size w w') → Q .normal ⟨#[u0, u1, u2, .pointer (some ⟨g3, 0, none⟩), u4, u5, u6, u7, u8, u9, u10, u11, u12, u13, u14, u15, .pointer (some ⟨g16, 0, none⟩), u17, .pointer (some ⟨g20, 0, none⟩), u19, u20, u21, u22, u23, u24, u25, u26, u27, u28, u29, u30, u31, u32, u33, u34, u35, u36, u37, u38, u39, u40, u41, u42, u43, u44, u45, u46, u47, u48, u49, u50, u51, u52, u53, u54, u55, u56, u57, u58, u59, u60, u61, u62, u63, u64, u65, u66, u67, u68, u69, u70, u71, u72, u73, u74, u75, u76, u77, u78, u79, u80, u81, u82, u83, u84, u85, u86, u87, u88, u89, u90, u91, u92, u93, u94, u95, u96, u97, u98, u99, u100, u101, u102, u103, u104, u105, u106, u107, u108, u109, u110, u111, u112, u113, u114, u115, u116, u117, u118, u119, u120, u121, u122, u123, u124, u125, u126, u127, u128, u129, u130, u131, u132, u133, u134, u135, u136, u137, u138, u139, u140, u141, u142, u143, u144, u145, u146, u147, u148, u149, u150, u151, u152, u153, u154, u155, u156, u157, u158, u159, u160, t161, t162, t163, t164, t165, t166, t167, t168, t169, .bool (decide (u.act = 5) || !decide (rFirst revs u = l)), u171, u172, u173, u174, u175, u176, u177, u178, u179, u180, u181, u182, u183, u184, u185, u186, u187, u188, u189, u190, u191, u192, u193, u194, u195, u196, u197, u198, u199, u200, u201, u202, u203, u204, u205, u206, u207, u208, u209, u210, u211, u212, u213, u214, u215, u216, u217, u218, u219, u220, u221, u222, u223, u224, u225, u226, u227, u228, u229, u230, u231, u232, u233, u234, u235, u236, u237, u238, u239, u240, u241, u242], []⟩ w') :
    (Code.region 25 ops true).wp Tryz.prog Q ⟨#[u0, u1, u2, .pointer (some ⟨g3, 0, none⟩), u4, u5, u6, u7, u8, u9, u10, u11, u12, u13, u14, u15, .pointer (some ⟨g16, 0, none⟩), u17, .pointer (some ⟨g20, 0, none⟩), u19, u20, u21, u22, u23, u24, u25, u26, u27, u28, u29, u30, u31, u32, u33, u34, u35, u36, u37, u38, u39, u40, u41, u42, u43, u44, u45, u46, u47, u48, u49, u50, u51, u52, u53, u54, u55, u56, u57, u58, u59, u60, u61, u62, u63, u64, u65, u66, u67, u68, u69, u70, u71, u72, u73, u74, u75, u76, u77, u78, u79, u80, u81, u82, u83, u84, u85, u86, u87, u88, u89, u90, u91, u92, u93, u94, u95, u96, u97, u98, u99, u100, u101, u102, u103, u104, u105, u106, u107, u108, u109, u110, u111, u112, u113, u114, u115, u116, u117, u118, u119, u120, u121, u122, u123, u124, u125, u126, u127, u128, u129, u130, u131, u132, u133, u134, u135, u136, u137, u138, u139, u140, u141, u142, u143, u144, u145, u146, u147, u148, u149, u150, u151, u152, u153, u154, u155, u156, u157, u158, u159, u160, u161, u162, u163, u164, u165, u166, u167, u168, u169, u170, u171, u172, u173, u174, u175, u176, u177, u178, u179, u180, u181, u182, u183, u184, u185, u186, u187, u188, u189, u190, u191, u192, u193, u194, u195, u196, u197, u198, u199, u200, u201, u202, u203, u204, u205, u206, u207, u208, u209, u210, u211, u212, u213, u214, u215, u216, u217, u218, u219, u220, u221, u222, u223, u224, u225, u226, u227, u228, u229, u230, u231, u232, u233, u234, u235, u236, u237, u238, u239, u240, u241, u242], []⟩ w := by
  simp only [Tryz.f96, Option.bind_some, regAt] at hops
  simp at hops
  subst hops
  have HQ := Lib.hid hQ
  have HFI := Lib.hid (fun X (hX : Below w.heap.size w X) => refFirst_any revs u (.slice Ar revs.length cr) dr X (hR.below hX) (by omega) hn hns)
  have hf : ∀ w', Below w.heap.size w w' → w'.cell? ⟨g3, 0, none⟩ = some (.slice Ar revs.length cr) ∧ w'.cell? ⟨g3, 1, none⟩ = some dr ∧ w'.cell? ⟨g16, 0, none⟩ = some (.string l.1) ∧ w'.cell? ⟨g16, 1, none⟩ = some (.int .i64 l.2) := fun w' hb => by
    obtain ⟨a, b, -, -⟩ := box2 (hD.below hb hD.lt)
    obtain ⟨e, f, -, -⟩ := box2 (hL.below hb hL.lt)
    exact ⟨a, b, e, f⟩
  have he := fun w' (hb : Below w.heap.size w w') => box12 (hU.below hb hU.lt)
  have HF := Lib.hid hf
  have HE2 := Lib.hid he
  clear hQ hR hD hL hU hf he hn hns
  obtain ⟨f0, f1, f2, f3⟩ := HF.out w (Below.refl _ _)
  obtain ⟨c0, c1, c2, c3, c4, c5, c6, c7, c8, c9, c10, c11⟩ := HE2.out w (Below.refl _ _)
  obtain ⟨l1, l2⟩ := l
  dsimp only at *
  have heq := fun W => (show (binOp .neq 90 (.agg #[.string (rFirst revs u).1, .int .i64 (rFirst revs u).2]) (.agg #[.string l1, .int .i64 l2])).run Tryz.prog W = .ok (.bool (!decide (rFirst revs u = (l1, l2)))) W from run_neq_fil _ _ _ _ W)
  generalize decide (rFirst revs u = (l1, l2)) = bl at heq HQ
  generalize (rFirst revs u).1 = r1 at HFI heq
  generalize (rFirst revs u).2 = r2 at HFI heq
  by_cases h5 : u.act = 5
  · have q5 : (u.act == 5) = true := by simpa using h5
    rw [decide_eq_true h5, Bool.true_or] at HQ
    clear h5 heq
    go_quiet (fail)
    exact HQ.out _ _ _ _ _ _ _ _ _ _ (below_dN (Below.refl _ _) _)
  · have q5 : (u.act == 5) = false := by simpa using h5
    rw [decide_eq_false h5, Bool.false_or] at HQ
    clear h5
    refine wp_region_noPanic ?_
    first
      | go_region_law ((go_simp; go_at_call 124; refine (HFI.out _ (by repeat (first | exact Below.refl _ _ | assumption | with_reducible refine Below.drew ?_ | with_reducible refine below_alloc' ?_ _ | with_reducible refine below12 ?_ (Nat.le_refl _) _))).mono ?_; rintro e w6 ⟨rfl, hb6⟩; have hS6 : Below w.heap.size w w6 := below_next (by repeat (first | exact Below.refl _ _ | assumption | with_reducible refine Below.drew ?_ | with_reducible refine below_alloc' ?_ _ | with_reducible refine below12 ?_ (Nat.le_refl _) _)) hb6; obtain ⟨f4, f5, f6, f7⟩ := HF.out w6 hS6))
      | fail
    all_goals exact NoPanic.normal (HQ.out _ _ _ _ _ _ _ _ _ _ hS6)
end Go.Proofs.YtnblfaagchflaaaGreatDoor
