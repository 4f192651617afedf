/- The reference's examination of an edit: its words, and the rest of a function's text from a region on. -/
import Derived.Test.YtnblfaagchflaaaGreatDoorMgw2
import Derived.Test.YtnblfaagchflaaaGreatDoorMzRn
import Derived.Test.YtnblfaagchflaaaGreatDoorMgw14
import Derived.Test.YtnblfaagchflaaaGreatDoorMgw17
namespace Go.Proofs.YtnblfaagchflaaaGreatDoor
open Go.RowKit
set_option linter.unusedVariables false
set_option linter.unusedSimpArgs false

def hasReg (n : Nat) : Code → Bool
  | .region i _ _ => i == n
  | .seq a b => hasReg n a || hasReg n b
  | .cond _ a b => hasReg n a || hasReg n b
  | .block _ a => hasReg n a
  | .loop a => hasReg n a
  | _ => false
/-- What is left of a function's text from the statement on that holds region n. -/
def tailAt (n : Nat) : Code → Option Code
  | .seq a b => if hasReg n a then some (.seq a b) else tailAt n b
  | c => if hasReg n c then some c else none
theorem ret_i {k : IntKind} {a b : Int} (h : a = b) : Ending.returned (.int k a) = .returned (.int k b) := by rw [h]
set_option maxHeartbeats 1000000 in
theorem refCheck_any (b : Int) (k l x : Bool) (w : World) :
    Calls Tryz.prog 121 #[.agg #[.int .i64 b, .bool k, .bool l, .bool x]] w fun e w' => e = .returned (.int .i64 (errOf 90 (tyOk b k x))) ∧ Below w.heap.size w w' := by
  by_cases h0 : 1 ≤ b ∧ b ≤ 3
  · have hb : b = 1 ∨ b = 2 ∨ b = 3 := by omega
    rcases hb with rfl | rfl | rfl <;> cases k <;> cases x
    all_goals
      go_enter Tryz.func121, Tryz.ntmps121
      go_wp2
      go_ret
      exact ⟨rfl, (Below.refl _ _).alloc (Nat.le_refl _) _⟩
  · have H : Hid (tyOk b k x = false) := Lib.hid (by
      unfold tyOk
      have h1 : (b == 1) = false := by rw [beq_eq_false_iff_ne]; omega
      have h2 : (b == 2) = false := by rw [beq_eq_false_iff_ne]; omega
      have h3 : (b == 3) = false := by rw [beq_eq_false_iff_ne]; omega
      simp [h1, h2, h3])
    by_cases hb : b < 1
    · clear h0
      go_enter Tryz.func121, Tryz.ntmps121
      go_wp2
      go_ret
      exact ⟨ret_i (by rw [H.out]; rfl), (Below.refl _ _).alloc (Nat.le_refl _) _⟩
    · have hb3 : 3 < b := by omega
      clear h0
      go_enter Tryz.func121, Tryz.ntmps121
      go_wp2
      go_ret
      exact ⟨ret_i (by rw [H.out]; rfl), (Below.refl _ _).alloc (Nat.le_refl _) _⟩
/-! What editE answers. -/
section
variable {f : ByteArray → Option Rev} {b : ByteArray} {x : Edt}
theorem ed111 (h : validS x.path = false ∨ 200 < x.path.size) : editE f b x = 111 := by unfold editE; rw [if_pos h]
theorem ed112 (h1 : ¬ (validS x.path = false ∨ 200 < x.path.size)) (h : b ≠ emptyS ∧ 0 ≤ cmpP b x.path) : editE f b x = 112 := by unfold editE; rw [if_neg h1, if_pos h]
theorem edOne (h1 : ¬ (validS x.path = false ∨ 200 < x.path.size)) (h : ¬ (b ≠ emptyS ∧ 0 ≤ cmpP b x.path)) : editE f b x = oneE f x := by unfold editE; rw [if_neg h1, if_neg h]
theorem one113 (h : actE f x ≠ 0) : oneE f x = 113 := by
  unfold oneE; rw [if_pos h]
  unfold actE at h ⊢
  split
  · split
    · rfl
    · rename_i h1 h2; rw [if_pos h1, if_neg h2] at h; exact absurd rfl h
  · split
    · split
      · rename_i h1 h2 h3; rw [if_neg h1, if_pos h2, if_pos h3] at h; exact absurd rfl h
      · rfl
    · rfl
theorem act_bad1 (h : x.act < 1 ∨ 5 < x.act) : actE f x ≠ 0 := fun e => by have := acts_ok e; omega
theorem act_bad2 (h : addA x.act = isLast f x.path) : actE f x ≠ 0 := fun e => by
  have := actE_zero e
  rw [h] at this
  cases isLast f x.path <;> simp at this
theorem act_good (h1 : 1 ≤ x.act ∧ x.act ≤ 5) (h : addA x.act = !isLast f x.path) : actE f x = 0 := by
  unfold actE
  by_cases ha : x.act = 1 ∨ x.act = 4
  · have : addA x.act = true := by unfold addA; rcases ha with h | h <;> rw [h] <;> rfl
    rw [this] at h
    rw [if_pos ha, if_neg (by intro hh; rw [hh] at h; cases h)]
  · have : addA x.act = false := by unfold addA; simp; omega
    rw [this] at h
    rw [if_neg ha, if_pos (by omega), if_pos (by cases hh : isLast f x.path; rw [hh] at h; cases h; rfl)]
end
theorem add_cases (a : Int) : ((a == 1) = true ∧ (a == 4) = false ∧ addA a = true) ∨ ((a == 1) = false ∧ (a == 4) = true ∧ addA a = true) ∨ ((a == 1) = false ∧ (a == 4) = false ∧ addA a = false) := by
  unfold addA
  by_cases h1 : a = 1
  · subst h1; exact .inl ⟨rfl, rfl, rfl⟩
  · by_cases h4 : a = 4
    · subst h4; exact .inr (.inl ⟨rfl, rfl, rfl⟩)
    · refine .inr (.inr ⟨by simpa using h1, by simpa using h4, by simp [h1, h4]⟩)
theorem rLiveB_last {revs : List Rev} (hl : ∀ p, LogOk revs p) (p : ByteArray) : rLiveB revs p = isLast (lastOf revs) p := by
  unfold rLiveB isLast; rw [(hl p).rlast]; cases lastOf revs p <;> rfl
theorem someR_last {revs : List Rev} (hl : ∀ p, LogOk revs p) (p : ByteArray) : someR (rLast revs p) = lastR (lastOf revs) p := by
  unfold someR lastR; rw [(hl p).rlast]

end Go.Proofs.YtnblfaagchflaaaGreatDoor
/- The reference's record: the last part (ignored; the copy). -/
namespace Go.Proofs.YtnblfaagchflaaaGreatDoor
open Go.RowKit
set_option linter.unusedVariables false
set_option linter.unusedSimpArgs false

theorem refIgn_val (D : List Rev) (rs : List Rcd) (t : Edt) (x : Rcd) : refIgn D rs t x = if ignB rs x then (decide (t.act = 2) && (decide (t.ty = (someR (rGet D x.to t.base)).ty) && (decide (t.sum = (someR (rGet D x.to t.base)).sum) && decide (t.size = (someR (rGet D x.to t.base)).size)))) else true := by
  unfold refIgn atR someR; simp only [Bool.and_assoc]
theorem refCopy_val (D : List Rev) (t : Edt) (x : Rcd) {s : Rev} (h : atR D x.frm x.last = s) : refCopy D t x = if x.how = 1 then (decide (s.act = 3) == decide (t.act = 3)) && (decide (s.act = 3) || (decide (s.ty = t.ty) && (decide (s.sum = t.sum) && decide (s.size = t.size)))) else true := by
  subst h; unfold refCopy; simp only [Bool.and_assoc]
set_option maxRecDepth 100000 in
set_option maxHeartbeats 8000000 in
theorem rcT35 (T : Code) (hT : Tryz.f96.body.bind (tailAt 35) = some T) (R : Ending → World → Prop) (revs : List Rev) (rs : List Rcd) (x : Rcd) (t : Edt) (Ar : Option Addr) (dr : Value) (cr g3 g7 g8 : Nat) (w : World)
    (hR : Revs w (.slice Ar revs.length cr) revs) (hl : revs.length ≤ 100000) (hD : Blk w g3 31 [.slice Ar revs.length cr, dr])
    (hX : Blk w g7 57 [.string x.frm, .int .i64 x.first, .int .i64 x.last, .string x.to, .int .i64 x.num, .int .i64 x.how])
    (hE : Blk w g8 55 [.string t.path, .int .i64 t.act, .int .i64 t.ty.base, .bool t.ty.k, .bool t.ty.l, .bool t.ty.x, .int .u64 t.sum, .int .i64 t.size, .int .i64 t.base, .string t.frm, .int .i64 t.fnum, .int .i64 t.fence])
    (hRR : ∀ (b : Bool) (w' : World), b = refIgn revs rs t x → Below w.heap.size w w' → R (.returned (.bool b)) w')
    (u0 u1 u2 u4 u5 u6 u10 u11 u12 u13 u14 u15 u16 u17 u18 u19 u20 u21 u22 u23 u24 u25 u26 u27 u28 u29 u30 u31 u32 u33 u34 u35 u36 u37 u38 u39 u40 u41 u42 u43 u44 u45 u46 u47 u48 u49 u50 u51 u52 u53 u54 u55 u56 u57 u58 u59 u60 u61 u62 u63 u64 u65 u66 u67 u68 u69 u70 u71 u72 u73 u74 u75 u76 u77 u78 u79 u80 u81 u82 u83 u84 u85 u86 u87 u88 u89 u90 u91 u92 u93 u94 u95 u96 u97 u98 u99 u100 u101 u102 u103 u104 u105 u106 u107 u108 u109 u110 u111 u112 u113 u114 u115 u116 u117 u118 u119 u120 u121 u122 u123 u124 u125 u126 u127 u128 u129 u130 u131 u132 u133 u134 u135 u136 u137 u138 u139 u140 u141 u142 u143 u144 u145 u146 u147 u148 u149 u150 u151 u152 u153 u154 u155 u156 u157 u158 u159 u160 u161 u162 u163 u164 u165 u166 u167 u168 u169 u170 u171 u172 u173 u174 u175 u176 u177 u178 u179 u180 u181 u182 u183 u184 u185 u186 u187 u188 u189 u190 u191 u192 u193 u194 u195 u196 u197 u198 u199 u200 u201 u202 u203 u204 u205 u206 u207 u208 u209 u210 u211 u212 u213 u214 u215 u216 u217 u218 u219 u220 u221 u222 u223 u224 u225 u226 u227 u228 u229 u230 u231 u232 u233 u234 u235 u236 u237 u238 u239 u240 u241 u242 : Value) :
    T.wp Tryz.prog (bodyPost Tryz.prog Tryz.f96 R) ⟨#[u0, u1, u2, .pointer (some ⟨g3, 0, none⟩), u4, u5, u6, .pointer (some ⟨g7, 0, none⟩), .pointer (some ⟨g8, 0, none⟩), .bool (ignB rs x), u10, u11, u12, u13, u14, u15, u16, u17, u18, u19, u20, u21, u22, u23, u24, u25, u26, u27, u28, u29, u30, u31, u32, u33, u34, u35, u36, u37, u38, u39, u40, u41, u42, u43, u44, u45, u46, u47, u48, u49, u50, u51, u52, u53, u54, u55, u56, u57, u58, u59, u60, u61, u62, u63, u64, u65, u66, u67, u68, u69, u70, u71, u72, u73, u74, u75, u76, u77, u78, u79, u80, u81, u82, u83, u84, u85, u86, u87, u88, u89, u90, u91, u92, u93, u94, u95, u96, u97, u98, u99, u100, u101, u102, u103, u104, u105, u106, u107, u108, u109, u110, u111, u112, u113, u114, u115, u116, u117, u118, u119, u120, u121, u122, u123, u124, u125, u126, u127, u128, u129, u130, u131, u132, u133, u134, u135, u136, u137, u138, u139, u140, u141, u142, u143, u144, u145, u146, u147, u148, u149, u150, u151, u152, u153, u154, u155, u156, u157, u158, u159, u160, u161, u162, u163, u164, u165, u166, u167, u168, u169, u170, u171, u172, u173, u174, u175, u176, u177, u178, u179, u180, u181, u182, u183, u184, u185, u186, u187, u188, u189, u190, u191, u192, u193, u194, u195, u196, u197, u198, u199, u200, u201, u202, u203, u204, u205, u206, u207, u208, u209, u210, u211, u212, u213, u214, u215, u216, u217, u218, u219, u220, u221, u222, u223, u224, u225, u226, u227, u228, u229, u230, u231, u232, u233, u234, u235, u236, u237, u238, u239, u240, u241, u242], []⟩ w := by
  simp only [Tryz.f96, Option.bind_some, tailAt, hasReg] at hT
  simp at hT
  subst hT
  have HRR := Lib.hid hRR
  have HR := Lib.hid hR
  clear hRR hR
  have HD := Lib.hid hD
  have HX := Lib.hid hX
  have HE := Lib.hid hE
  have HV := Lib.hid (refIgn_val revs rs t x)
  clear hD hX hE
  generalize refIgn revs rs t x = V at HRR HV
  cases hig : ignB rs x with
  | false =>
    have HF : Hid (true = V) := Lib.hid (by rw [HV.out, hig]; rfl)
    clear hig
    go_wp2_with fail
    exact HRR.out _ _ HF.out (Below.refl _ _)
  | true =>
    have HW : Hid (V = (decide (t.act = 2) && (decide (t.ty = (someR (rGet revs x.to t.base)).ty) && (decide (t.sum = (someR (rGet revs x.to t.base)).sum) && decide (t.size = (someR (rGet revs x.to t.base)).size))))) := Lib.hid (by rw [HV.out, if_pos hig])
    clear hig HV
    obtain ⟨d0, d1, -, -⟩ := box2 HD.out
    obtain ⟨x0, x1, x2, x3, x4, x5⟩ := box6 HX.out
    obtain ⟨c0, c1, c2, c3, c4, c5, c6, c7, c8, c9, c10, c11⟩ := box12 HE.out
    have HG := Lib.hid (refGet_any revs x.to t.base (.slice Ar revs.length cr) dr w HR.out (by omega))
    go_wp2_with fail
    refine HG.out.mono ?_
    rintro e w2 ⟨rfl, hb2⟩
    generalize someR (rGet revs x.to t.base) = u at HW ⊢
    generalize (rGet revs x.to t.base).isSome = ok
    have hY := blk_new w2 [.string u.path, .int .i64 u.num, .int .i64 u.chg, .int .i64 u.act, .int .i64 u.ty.base, .bool u.ty.k, .bool u.ty.l, .bool u.ty.x, .int .u64 u.sum, .int .i64 u.size, .string u.frm, .int .i64 u.fnum] 40
    have hA : Below w.heap.size w (w2.alloc (.cells #[.string u.path, .int .i64 u.num, .int .i64 u.chg, .int .i64 u.act, .int .i64 u.ty.base, .bool u.ty.k, .bool u.ty.l, .bool u.ty.x, .int .u64 u.sum, .int .i64 u.size, .string u.frm, .int .i64 u.fnum] 40)) := below_alloc' hb2 _
    clear hb2 d0 d1 x0 x1 x2 x3 x4 x5 c0 c1 c2 c3 c4 c5 c6 c7 c8 c9 c10 c11
    go_upto_region 37 with fail
    generalize w2.alloc (.cells #[.string u.path, .int .i64 u.num, .int .i64 u.chg, .int .i64 u.act, .int .i64 u.ty.base, .bool u.ty.k, .bool u.ty.l, .bool u.ty.x, .int .u64 u.sum, .int .i64 u.size, .string u.frm, .int .i64 u.fnum] 40) = w3 at hY hA ⊢
    generalize w2.heap.size = g23 at hY ⊢
    obtain ⟨c0, c1, c2, c3, c4, c5, c6, c7, c8, c9, c10, c11⟩ := box12 (HE.out.below hA HE.out.lt)
    obtain ⟨b0, b1, b2, b3, b4, b5, b6, b7, b8, b9, b10, b11⟩ := box12 hY
    have HB := Lib.hid hA
    clear hA hY
    have hty := run_eql_ty t.ty u.ty
    have hcn := run_eql_con t.sum t.size u.sum u.size
    generalize (decide (t.sum = u.sum) && decide (t.size = u.size)) = bc at hcn HW
    generalize decide (t.ty = u.ty) = bt at hty HW
    by_cases h2 : t.act = 2
    · have q2 : (t.act == 2) = true := by simpa using h2
      rw [decide_eq_true h2] at HW
      clear h2
      cases bt <;> cases bc
      all_goals
        go_wp2_with fail
        exact HRR.out _ _ HW.out.symm HB.out
    · have q2 : (t.act == 2) = false := by simpa using h2
      rw [decide_eq_false h2] at HW
      clear h2
      go_wp2_with fail
      exact HRR.out _ _ HW.out.symm HB.out
set_option maxRecDepth 100000 in
set_option maxHeartbeats 8000000 in
theorem rcT31 (T : Code) (hT : Tryz.f96.body.bind (tailAt 31) = some T) (R : Ending → World → Prop) (revs : List Rev) (rs : List Rcd) (x : Rcd) (t : Edt) (s : Rev) (Ar : Option Addr) (dr : Value) (cr g3 g7 g8 g14 : Nat) (w : World)
    (hR : Revs w (.slice Ar revs.length cr) revs) (hl : revs.length ≤ 100000) (hs : atR revs x.frm x.last = s) (hD : Blk w g3 31 [.slice Ar revs.length cr, dr])
    (hX : Blk w g7 57 [.string x.frm, .int .i64 x.first, .int .i64 x.last, .string x.to, .int .i64 x.num, .int .i64 x.how])
    (hE : Blk w g8 55 [.string t.path, .int .i64 t.act, .int .i64 t.ty.base, .bool t.ty.k, .bool t.ty.l, .bool t.ty.x, .int .u64 t.sum, .int .i64 t.size, .int .i64 t.base, .string t.frm, .int .i64 t.fnum, .int .i64 t.fence])
    (hS : Blk w g14 40 [.string s.path, .int .i64 s.num, .int .i64 s.chg, .int .i64 s.act, .int .i64 s.ty.base, .bool s.ty.k, .bool s.ty.l, .bool s.ty.x, .int .u64 s.sum, .int .i64 s.size, .string s.frm, .int .i64 s.fnum])
    (hRR : ∀ (b : Bool) (w' : World), b = (refCopy revs t x && refIgn revs rs t x) → Below w.heap.size w w' → R (.returned (.bool b)) w')
    (u0 u1 u2 u4 u5 u6 u10 u11 u12 u13 u15 u16 u17 u18 u19 u20 u21 u22 u23 u24 u25 u26 u27 u28 u29 u30 u31 u32 u33 u34 u35 u36 u37 u38 u39 u40 u41 u42 u43 u44 u45 u46 u47 u48 u49 u50 u51 u52 u53 u54 u55 u56 u57 u58 u59 u60 u61 u62 u63 u64 u65 u66 u67 u68 u69 u70 u71 u72 u73 u74 u75 u76 u77 u78 u79 u80 u81 u82 u83 u84 u85 u86 u87 u88 u89 u90 u91 u92 u93 u94 u95 u96 u97 u98 u99 u100 u101 u102 u103 u104 u105 u106 u107 u108 u109 u110 u111 u112 u113 u114 u115 u116 u117 u118 u119 u120 u121 u122 u123 u124 u125 u126 u127 u128 u129 u130 u131 u132 u133 u134 u135 u136 u137 u138 u139 u140 u141 u142 u143 u144 u145 u146 u147 u148 u149 u150 u151 u152 u153 u154 u155 u156 u157 u158 u159 u160 u161 u162 u163 u164 u165 u166 u167 u168 u169 u170 u171 u172 u173 u174 u175 u176 u177 u178 u179 u180 u181 u182 u183 u184 u185 u186 u187 u188 u189 u190 u191 u192 u193 u194 u195 u196 u197 u198 u199 u200 u201 u202 u203 u204 u205 u206 u207 u208 u209 u210 u211 u212 u213 u214 u215 u216 u217 u218 u219 u220 u221 u222 u223 u224 u225 u226 u227 u228 u229 u230 u231 u232 u233 u234 u235 u236 u237 u238 u239 u240 u241 u242 : Value) :
    T.wp Tryz.prog (bodyPost Tryz.prog Tryz.f96 R) ⟨#[u0, u1, u2, .pointer (some ⟨g3, 0, none⟩), u4, u5, u6, .pointer (some ⟨g7, 0, none⟩), .pointer (some ⟨g8, 0, none⟩), .bool (ignB rs x), u10, u11, u12, u13, .pointer (some ⟨g14, 0, none⟩), u15, u16, u17, u18, u19, u20, u21, u22, u23, u24, u25, u26, u27, u28, u29, u30, u31, u32, u33, u34, u35, u36, u37, u38, u39, u40, u41, u42, u43, u44, u45, u46, u47, u48, u49, u50, u51, u52, u53, u54, u55, u56, u57, u58, u59, u60, u61, u62, u63, u64, u65, u66, u67, u68, u69, u70, u71, u72, u73, u74, u75, u76, u77, u78, u79, u80, u81, u82, u83, u84, u85, u86, u87, u88, u89, u90, u91, u92, u93, u94, u95, u96, u97, u98, u99, u100, u101, u102, u103, u104, u105, u106, u107, u108, u109, u110, u111, u112, u113, u114, u115, u116, u117, u118, u119, u120, u121, u122, u123, u124, u125, u126, u127, u128, u129, u130, u131, u132, u133, u134, u135, u136, u137, u138, u139, u140, u141, u142, u143, u144, u145, u146, u147, u148, u149, u150, u151, u152, u153, u154, u155, u156, u157, u158, u159, u160, u161, u162, u163, u164, u165, u166, u167, u168, u169, u170, u171, u172, u173, u174, u175, u176, u177, u178, u179, u180, u181, u182, u183, u184, u185, u186, u187, u188, u189, u190, u191, u192, u193, u194, u195, u196, u197, u198, u199, u200, u201, u202, u203, u204, u205, u206, u207, u208, u209, u210, u211, u212, u213, u214, u215, u216, u217, u218, u219, u220, u221, u222, u223, u224, u225, u226, u227, u228, u229, u230, u231, u232, u233, u234, u235, u236, u237, u238, u239, u240, u241, u242], []⟩ w := by
  simp only [Tryz.f96, Option.bind_some, tailAt, hasReg] at hT
  simp at hT
  subst hT
  have HRR := Lib.hid hRR
  have HR := Lib.hid hR
  clear hRR hR
  have HX := Lib.hid hX
  have HE := Lib.hid hE
  have HS := Lib.hid hS
  have HV := Lib.hid (refCopy_val revs t x hs)
  have HT := Lib.hid (fun T hT R hRR => rcT35 T hT R revs rs x t Ar dr cr g3 g7 g8 w HR.out hl hD hX hE hRR)
  clear hD hX hE hS hs HR
  generalize refCopy revs t x = V at HRR HV
  obtain ⟨x0, x1, x2, x3, x4, x5⟩ := box6 HX.out
  go_upto_if 189 with fail
  go_cut [] (fun wx => Hid (wx = w ∧ V = true))
  case first =>
    by_cases h1 : x.how = 1
    · have q1 : (x.how == 1) = true := by simpa using h1
      have HW : Hid (V = ((decide (s.act = 3) == decide (t.act = 3)) && (decide (s.act = 3) || (decide (s.ty = t.ty) && (decide (s.sum = t.sum) && decide (s.size = t.size)))))) := Lib.hid (by rw [HV.out, if_pos h1])
      clear h1 HV
      obtain ⟨c0, c1, c2, c3, c4, c5, c6, c7, c8, c9, c10, c11⟩ := box12 HE.out
      obtain ⟨b0, b1, b2, b3, b4, b5, b6, b7, b8, b9, b10, b11⟩ := box12 HS.out
      have hty := run_neq_ty s.ty t.ty
      have hcn := run_neq_con s.sum s.size t.sum t.size
      generalize (decide (s.sum = t.sum) && decide (s.size = t.size)) = bc at hcn HW
      generalize decide (s.ty = t.ty) = bt at hty HW
      have HQ3 : Hid ((s.act == 3) = decide (s.act = 3) ∧ (t.act == 3) = decide (t.act = 3)) := Lib.hid ⟨by rw [Bool.eq_iff_iff]; simp, by rw [Bool.eq_iff_iff]; simp⟩
      have qs := HQ3.out.1
      have qt := HQ3.out.2
      generalize decide (s.act = 3) = bs at qs HW
      generalize decide (t.act = 3) = bd at qt HW
      clear HQ3
      cases bs <;> cases bd <;> cases bt <;> cases bc
      all_goals
        go_wp2_with fail
        first
          | (exact HRR.out _ _ (by rw [HW.out]; rfl) (Below.refl _ _))
          | (go_meet
             exact ⟨rfl, HW.out⟩)
    · have q1 : (x.how == 1) = false := by simpa using h1
      have HW : Hid (V = true) := Lib.hid (by rw [HV.out, if_neg h1])
      clear h1 HV
      go_wp2_with fail
      go_meet
      exact ⟨rfl, HW.out⟩
  case rest =>
    obtain rfl : wc = w := hcut.out.1
    have HW : Hid (V = true) := Lib.hid hcut.out.2
    clear hcut
    have hk := ‹∀ (a : Act) (w : World), Code.wp _ _ _ a w → _›
    exact hk _ _ (HT.out _ (by kernel_rfl) _ (fun b w' hb hw => HRR.out b w' (by rw [HW.out, hb]; rfl) hw) _ _ _ _ _ _ _ _ _ _ _ _ _ _ _ _ _ _ _ _ _ _ _ _ _ _ _ _ _ _ _ _ _ _ _ _ _ _ _ _ _ _ _ _ _ _ _ _ _ _ _ _ _ _ _ _ _ _ _ _ _ _ _ _ _ _ _ _ _ _ _ _ _ _ _ _ _ _ _ _ _ _ _ _ _ _ _ _ _ _ _ _ _ _ _ _ _ _ _ _ _ _ _ _ _ _ _ _ _ _ _ _ _ _ _ _ _ _ _ _ _ _ _ _ _ _ _ _ _ _ _ _ _ _ _ _ _ _ _ _ _ _ _ _ _ _ _ _ _ _ _ _ _ _ _ _ _ _ _ _ _ _ _ _ _ _ _ _ _ _ _ _ _ _ _ _ _ _ _ _ _ _ _ _ _ _ _ _ _ _ _ _ _ _ _ _ _ _ _ _ _ _ _ _ _ _ _ _ _ _ _ _ _ _ _ _ _ _ _ _ _ _ _ _ _ _ _ _ _ _ _ _ _ _ _ _ _ _ _)
end Go.Proofs.YtnblfaagchflaaaGreatDoor
