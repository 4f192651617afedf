/- HistoryMoves: the walk. -/
import Derived.Test.YtmhmnchdhacdbaaMzHm
import Derived.Test.YtmhmnchdhacdbaaMgonce
namespace Go.Proofs.Ytmhmnchdhacdbaa
open Go.RowKit
set_option linter.unusedVariables false
set_option linter.unusedSimpArgs false

set_option maxRecDepth 100000 in
set_option maxHeartbeats 4000000 in
theorem movesR11 (ops : Array Oper) (hops : Try.f4.body.bind (regAt 11) = some ops) (Q : Exit → Act → World → Prop) (g5 g8 : Nat) (v x : Rev) (V : World)
    (h5 : Blk V g5 43 [.string v.path, .int .i64 v.num, .int .i64 v.chg, .int .i64 v.act, .int .i64 v.ty.base, .bool v.ty.k, .bool v.ty.l, .bool v.ty.x, .int .u64 v.sum, .int .i64 v.size, .string v.frm, .int .i64 v.fnum]) (h8 : Blk V g8 43 [.string x.path, .int .i64 x.num, .int .i64 x.chg, .int .i64 x.act, .int .i64 x.ty.base, .bool x.ty.k, .bool x.ty.l, .bool x.ty.x, .int .u64 x.sum, .int .i64 x.size, .string x.frm, .int .i64 x.fnum]) (hn : 0 < v.num ∧ v.num ≤ 1000000) (hn2 : 0 < x.num ∧ x.num ≤ 1000000)
    (u0 u1 u2 u3 u4 u6 u7 u9 u10 u11 u12 u13 u14 u15 u16 u17 u18 u19 u20 u21 u22 u23 u24 u25 u26 u27 u28 u29 u30 u31 u32 u33 u34 u35 u36 u37 u38 u39 u40 u41 u42 u43 u44 u45 u46 u47 u48 u49 u50 u51 u52 u53 u54 u55 u56 u57 u58 u59 u60 u61 u62 u63 u64 u65 u66 u67 u68 u69 u70 u71 u72 u73 u74 u75 u76 u77 u78 u79 u80 u81 u82 u83 u84 u85 u86 u87 u88 u89 u90 u91 u92 u93 u94 u95 u96 u97 u98 u99 u100 u101 u102 u103 u104 u105 u106 u107 u108 u109 u110 : Value)
    (hQ : ∀ (t29 t30 t31 t32 t33 t34 t35 t36 t37 t38 t39 t40 t41 t42 t43 t44 t45 t46 t47 t48 t49 t50 t51 t52 t53 t54 t55 t56 t57 : Value), Q .normal ⟨#[u0, u1, u2, u3, u4, .pointer (some ⟨g5, 0, none⟩), u6, u7, .pointer (some ⟨g8, 0, none⟩), u9, u10, u11, u12, u13, u14, u15, u16, u17, u18, u19, u20, u21, u22, u23, u24, u25, u26, u27, u28, t29, t30, t31, t32, t33, t34, t35, t36, t37, t38, t39, t40, t41, t42, t43, t44, t45, t46, t47, t48, t49, t50, t51, t52, t53, t54, t55, t56, t57, .bool (mv1 v x), u59, u60, u61, u62, u63, u64, u65, u66, u67, u68, u69, u70, u71, u72, u73, u74, u75, u76, u77, u78, u79, u80, u81, u82, u83, u84, u85, u86, u87, u88, u89, u90, u91, u92, u93, u94, u95, u96, u97, u98, u99, u100, u101, u102, u103, u104, u105, u106, u107, u108, u109, u110], []⟩ V) :
    (Code.region 11 ops false).wp Try.prog Q ⟨#[u0, u1, u2, u3, u4, .pointer (some ⟨g5, 0, none⟩), u6, u7, .pointer (some ⟨g8, 0, none⟩), u9, u10, u11, u12, u13, u14, u15, u16, u17, u18, u19, u20, u21, u22, u23, u24, u25, u26, u27, u28, u29, u30, u31, u32, u33, u34, u35, u36, u37, u38, u39, u40, u41, u42, u43, u44, u45, u46, u47, u48, u49, u50, u51, u52, u53, u54, u55, u56, u57, u58, u59, u60, u61, u62, u63, u64, u65, u66, u67, u68, u69, u70, u71, u72, u73, u74, u75, u76, u77, u78, u79, u80, u81, u82, u83, u84, u85, u86, u87, u88, u89, u90, u91, u92, u93, u94, u95, u96, u97, u98, u99, u100, u101, u102, u103, u104, u105, u106, u107, u108, u109, u110], []⟩ V := by
  simp only [Try.f4, Option.bind_some, regAt] at hops
  simp at hops
  subst hops
  have HQ := Lib.hid hQ
  clear hQ
  obtain ⟨a0, a1, a2, a3, a4, a5, a6, a7, a8, a9, a10, a11⟩ := box12 h5
  obtain ⟨b0, b1, b2, b3, b4, b5, b6, b7, b8, b9, b10, b11⟩ := box12 h8
  have HE : Hid (mv1 v x = (decide (x.chg = v.chg) && decide (x.act = 4) && decide (v.act = 5) && decide (x.frm = v.path) && decide (x.fnum = v.num - 1))) := Lib.hid rfl
  by_cases c0 : x.chg = v.chg
  case neg =>
    have e : mv1 v x = false := by rw [HE.out]; simp [c0]
    have q0 : (x.chg == v.chg) = false := by simpa using c0
    rw [e] at HQ
    clear c0 e
    go_wp2_with fail
    exact HQ.out ..
  have q0 : (x.chg == v.chg) = true := by simpa using c0
  by_cases c1 : x.act = 4
  case neg =>
    have e : mv1 v x = false := by rw [HE.out]; simp [c0, c1]
    have q1 : (x.act == 4) = false := by simpa using c1
    rw [e] at HQ
    clear c0 c1 e
    go_wp2_with fail
    exact HQ.out ..
  have q1 : (x.act == 4) = true := by simpa using c1
  by_cases c2 : v.act = 5
  case neg =>
    have e : mv1 v x = false := by rw [HE.out]; simp [c0, c1, c2]
    have q2 : (v.act == 5) = false := by simpa using c2
    rw [e] at HQ
    clear c0 c1 c2 e
    go_wp2_with fail
    exact HQ.out ..
  have q2 : (v.act == 5) = true := by simpa using c2
  by_cases c3 : x.frm = v.path
  case neg =>
    have e : mv1 v x = false := by rw [HE.out]; simp [c0, c1, c2, c3]
    have q3 := str_eqB x.frm v.path
    rw [decide_eq_false c3] at q3
    rw [e] at HQ
    clear c0 c1 c2 c3 e
    go_wp2_with fail
    exact HQ.out ..
  have q3 := str_eqB x.frm v.path
  rw [decide_eq_true c3] at q3
  by_cases c4 : x.fnum = v.num - 1
  case neg =>
    have e : mv1 v x = false := by rw [HE.out]; simp [c0, c1, c2, c3, c4]
    have q4 : (x.fnum == v.num - 1) = false := by simpa using c4
    rw [e] at HQ
    clear c0 c1 c2 c3 c4 e
    go_wp2_with fail
    exact HQ.out ..
  have q4 : (x.fnum == v.num - 1) = true := by simpa using c4
  have e : mv1 v x = true := by rw [HE.out]; simp [c0, c1, c2, c3, c4]
  rw [e] at HQ
  clear c0 c1 c2 c3 c4 e
  go_wp2_with fail
  exact HQ.out ..
set_option maxRecDepth 100000 in
set_option maxHeartbeats 4000000 in
theorem movesR13 (ops : Array Oper) (hops : Try.f4.body.bind (regAt 13) = some ops) (Q : Exit → Act → World → Prop) (g5 g8 : Nat) (v x : Rev) (V : World)
    (h5 : Blk V g5 43 [.string v.path, .int .i64 v.num, .int .i64 v.chg, .int .i64 v.act, .int .i64 v.ty.base, .bool v.ty.k, .bool v.ty.l, .bool v.ty.x, .int .u64 v.sum, .int .i64 v.size, .string v.frm, .int .i64 v.fnum]) (h8 : Blk V g8 43 [.string x.path, .int .i64 x.num, .int .i64 x.chg, .int .i64 x.act, .int .i64 x.ty.base, .bool x.ty.k, .bool x.ty.l, .bool x.ty.x, .int .u64 x.sum, .int .i64 x.size, .string x.frm, .int .i64 x.fnum]) (hn : 0 < v.num ∧ v.num ≤ 1000000) (hn2 : 0 < x.num ∧ x.num ≤ 1000000)
    (u0 u1 u2 u3 u4 u6 u7 u9 u10 u11 u12 u13 u14 u15 u16 u17 u18 u19 u20 u21 u22 u23 u24 u25 u26 u27 u28 u29 u30 u31 u32 u33 u34 u35 u36 u37 u38 u39 u40 u41 u42 u43 u44 u45 u46 u47 u48 u49 u50 u51 u52 u53 u54 u55 u56 u57 u58 u59 u60 u61 u62 u63 u64 u65 u66 u67 u68 u69 u70 u71 u72 u73 u74 u75 u76 u77 u78 u79 u80 u81 u82 u83 u84 u85 u86 u87 u88 u89 u90 u91 u92 u93 u94 u95 u96 u97 u98 u99 u100 u101 u102 u103 u104 u105 u106 u107 u108 u109 u110 : Value)
    (hQ : ∀ (t61 t62 t63 t64 t65 t66 t67 t68 t69 t70 t71 t72 t73 t74 t75 t76 t77 t78 t79 t80 t81 t82 t83 t84 t85 t86 t87 t88 t89 : Value), Q .normal ⟨#[u0, u1, u2, u3, u4, .pointer (some ⟨g5, 0, none⟩), u6, u7, .pointer (some ⟨g8, 0, none⟩), u9, u10, u11, u12, u13, u14, u15, u16, u17, u18, u19, u20, u21, u22, u23, u24, u25, u26, u27, u28, u29, u30, u31, u32, u33, u34, u35, u36, u37, u38, u39, u40, u41, u42, u43, u44, u45, u46, u47, u48, u49, u50, u51, u52, u53, u54, u55, u56, u57, u58, u59, u60, t61, t62, t63, t64, t65, t66, t67, t68, t69, t70, t71, t72, t73, t74, t75, t76, t77, t78, t79, t80, t81, t82, t83, t84, t85, t86, t87, t88, t89, .bool (mv2 v x), u91, u92, u93, u94, u95, u96, u97, u98, u99, u100, u101, u102, u103, u104, u105, u106, u107, u108, u109, u110], []⟩ V) :
    (Code.region 13 ops false).wp Try.prog Q ⟨#[u0, u1, u2, u3, u4, .pointer (some ⟨g5, 0, none⟩), u6, u7, .pointer (some ⟨g8, 0, none⟩), u9, u10, u11, u12, u13, u14, u15, u16, u17, u18, u19, u20, u21, u22, u23, u24, u25, u26, u27, u28, u29, u30, u31, u32, u33, u34, u35, u36, u37, u38, u39, u40, u41, u42, u43, u44, u45, u46, u47, u48, u49, u50, u51, u52, u53, u54, u55, u56, u57, u58, u59, u60, u61, u62, u63, u64, u65, u66, u67, u68, u69, u70, u71, u72, u73, u74, u75, u76, u77, u78, u79, u80, u81, u82, u83, u84, u85, u86, u87, u88, u89, u90, u91, u92, u93, u94, u95, u96, u97, u98, u99, u100, u101, u102, u103, u104, u105, u106, u107, u108, u109, u110], []⟩ V := by
  simp only [Try.f4, Option.bind_some, regAt] at hops
  simp at hops
  subst hops
  have HQ := Lib.hid hQ
  clear hQ
  obtain ⟨a0, a1, a2, a3, a4, a5, a6, a7, a8, a9, a10, a11⟩ := box12 h5
  obtain ⟨b0, b1, b2, b3, b4, b5, b6, b7, b8, b9, b10, b11⟩ := box12 h8
  have HE : Hid (mv2 v x = (decide (x.chg = v.chg) && decide (v.act = 4) && decide (x.act = 5) && decide (v.frm = x.path) && decide (v.fnum = x.num - 1))) := Lib.hid rfl
  by_cases c0 : x.chg = v.chg
  case neg =>
    have e : mv2 v x = false := by rw [HE.out]; simp [c0]
    have q0 : (x.chg == v.chg) = false := by simpa using c0
    rw [e] at HQ
    clear c0 e
    go_wp2_with fail
    exact HQ.out ..
  have q0 : (x.chg == v.chg) = true := by simpa using c0
  by_cases c1 : v.act = 4
  case neg =>
    have e : mv2 v x = false := by rw [HE.out]; simp [c0, c1]
    have q1 : (v.act == 4) = false := by simpa using c1
    rw [e] at HQ
    clear c0 c1 e
    go_wp2_with fail
    exact HQ.out ..
  have q1 : (v.act == 4) = true := by simpa using c1
  by_cases c2 : x.act = 5
  case neg =>
    have e : mv2 v x = false := by rw [HE.out]; simp [c0, c1, c2]
    have q2 : (x.act == 5) = false := by simpa using c2
    rw [e] at HQ
    clear c0 c1 c2 e
    go_wp2_with fail
    exact HQ.out ..
  have q2 : (x.act == 5) = true := by simpa using c2
  by_cases c3 : v.frm = x.path
  case neg =>
    have e : mv2 v x = false := by rw [HE.out]; simp [c0, c1, c2, c3]
    have q3 := str_eqB v.frm x.path
    rw [decide_eq_false c3] at q3
    rw [e] at HQ
    clear c0 c1 c2 c3 e
    go_wp2_with fail
    exact HQ.out ..
  have q3 := str_eqB v.frm x.path
  rw [decide_eq_true c3] at q3
  by_cases c4 : v.fnum = x.num - 1
  case neg =>
    have e : mv2 v x = false := by rw [HE.out]; simp [c0, c1, c2, c3, c4]
    have q4 : (v.fnum == x.num - 1) = false := by simpa using c4
    rw [e] at HQ
    clear c0 c1 c2 c3 c4 e
    go_wp2_with fail
    exact HQ.out ..
  have q4 : (v.fnum == x.num - 1) = true := by simpa using c4
  have e : mv2 v x = true := by rw [HE.out]; simp [c0, c1, c2, c3, c4]
  rw [e] at HQ
  clear c0 c1 c2 c3 c4 e
  go_wp2_with fail
  exact HQ.out ..
/-- The number of revisions whose move matches v's. -/
def mvK (revs : List Rev) (v : Rev) (j : Nat) : Nat := mvN (revs.take j) v
theorem mvK_next (revs : List Rev) (v : Rev) (j : Nat) (h : j < revs.length) : mvK revs v (j + 1) = mvK revs v j + (if mv1 v revs[j] then 1 else 0) + (if mv2 v revs[j] then 1 else 0) := by
  unfold mvK
  rw [List.take_succ_eq_append_getElem h, mvN_app]
  unfold mvN
  simp only [List.countP_cons, List.countP_nil]
  omega
theorem mvK_le (revs : List Rev) (v : Rev) (j : Nat) : mvK revs v j ≤ j + j := by
  unfold mvK mvN
  have h1 := List.countP_le_length (p := mv1 v) (l := revs.take j)
  have h2 := List.countP_le_length (p := mv2 v) (l := revs.take j)
  rw [List.length_take] at h1 h2
  omega

set_option maxRecDepth 100000 in
set_option maxHeartbeats 8000000 in
theorem histMoves_any (ps : List ChV) (v : Value) (w : World) (hP : Chgs w v ps) (hz : sizeOk ps) (hr : ∀ p ∈ ps, ∀ r ∈ p.1.recs, r.last ≤ 9223372036854775807) :
    Calls Try.prog 4 #[v] w fun e w' => e = .returned (.bool true) ∧ Below w.heap.size w w' := by
  have HSM := Lib.hid (small_any ps v w hP (by have := hz.1; omega) hz.2.1 hz.2.2)
  have HPL := Lib.hid (fun X (hX : Below w.heap.size w X) (hs : smallL (ps.map (·.1))) => play_any ps v X (hP.below hX) hs hr)
  clear hP hz hr
  go_enter Try.func4, Try.ntmps4
  go_wp2_with fail
  refine HSM.out.mono ?_
  rintro e w2 ⟨b, rfl, hb2, hsm⟩
  have HB2 := Lib.hid hb2
  cases b with
  | false =>
    clear hb2 hsm
    go_wp2_with fail
    refine (awake_any w2).mono ?_
    rintro e w3 ⟨rfl, hb3⟩
    have HB3 := Lib.hid hb3
    clear hb3
    go_wp2_with fail
    go_ret
    exact ⟨rfl, below_next HB2.out HB3.out⟩
  | true =>
    have HP2 := Lib.hid (HPL.out w2 hb2 (hsm rfl))
    clear hb2 hsm HPL
    go_wp2_with fail
    refine HP2.out.mono ?_
    rintro e w3 ⟨dv, dr, d, rfl, hb3, hd, hpl, -, -⟩
    obtain ⟨Ar, cr, rfl, hcr, hmr, -⟩ := id hd.1
    obtain ⟨Aq, cq, rfl, -⟩ := id hd.2.1
    unfold maxLen at hmr
    have HMV := Lib.hid (plays_moves hpl)
    have HW := Lib.hid hd.2.2
    have hB4 := blk_new w3 [.slice Ar d.revs.length cr, .slice Aq d.recs.length cq] 31
    have hb4 : Below w.heap.size w (w3.alloc (.cells #[.slice Ar d.revs.length cr, .slice Aq d.recs.length cq] 31)) := below_next HB2.out (below_alloc' hb3 _)
    have hR4 := hd.1.below ((Below.refl _ _).alloc (Nat.le_refl _) (.cells #[.slice Ar d.revs.length cr, .slice Aq d.recs.length cq] 31))
    have hlen : d.revs.length ≤ 512 := hd.2.2.len
    clear hb3 hd hpl HP2 HSM
    go_upto_region 4 with fail
    generalize w3.alloc (.cells #[.slice Ar d.revs.length cr, .slice Aq d.recs.length cq] 31) = W4 at hB4 hb4 hR4 ⊢
    have HB4 := Lib.hid hB4
    have Hb4 := Lib.hid hb4
    have HR4 := Lib.hid hR4
    obtain ⟨d0, -, -, -⟩ := box2 hB4
    generalize w3.heap.size = g3 at HB4 d0 hB4 ⊢
    clear hB4 hb4 hR4
    go_wp2_with fail
    clear d0
    go_loopw [18] (fun s wr => ∃ k : Nat, s = .int .i64 k ∧ k ≤ d.revs.length ∧ Hid (Below W4.heap.size W4 wr)) (fun s _ => d.revs.length - (intOf s).toNat)
    case atStart => exact ⟨0, rfl, Nat.zero_le _, Below.refl _ _⟩
    case round =>
      obtain ⟨k, rfl, hk, HI⟩ := hrel
      by_cases hlt : k < d.revs.length
      · obtain ⟨ad, rfl, hab, hld⟩ := Revs.at_ (HR4.out.below HI.out) hlt
        have hvm : d.revs[k] ∈ d.revs := List.getElem_mem _
        have HM := Lib.hid (HMV.out _ hvm)
        have HN := Lib.hid (HW.out.num _ hvm)
        generalize d.revs[k] = x at hld HM HN
        clear hvm
        obtain ⟨x0, x1, x2, x3, x4, x5, x6, x7, x8, x9, x10, x11⟩ := hld
        have hX := blk_new wr [.string x.path, .int .i64 x.num, .int .i64 x.chg, .int .i64 x.act, .int .i64 x.ty.base, .bool x.ty.k, .bool x.ty.l, .bool x.ty.x, .int .u64 x.sum, .int .i64 x.size, .string x.frm, .int .i64 x.fnum] 43
        have hA1 := HI.out.alloc HI.out.size (.cells #[.string x.path, .int .i64 x.num, .int .i64 x.chg, .int .i64 x.act, .int .i64 x.ty.base, .bool x.ty.k, .bool x.ty.l, .bool x.ty.x, .int .u64 x.sum, .int .i64 x.size, .string x.frm, .int .i64 x.fnum] 43)
        go_upto_region 7 with fail
        clear x0 x1 x2 x3 x4 x5 x6 x7 x8 x9 x10 x11
        generalize wr.alloc (.cells #[.string x.path, .int .i64 x.num, .int .i64 x.chg, .int .i64 x.act, .int .i64 x.ty.base, .bool x.ty.k, .bool x.ty.l, .bool x.ty.x, .int .u64 x.sum, .int .i64 x.size, .string x.frm, .int .i64 x.fnum] 43) = V1 at hX hA1 ⊢
        generalize wr.heap.size = g5 at hX ⊢
        have d0 : V1.cell? ⟨g3, 0, none⟩ = some (.slice (some ad) d.revs.length cr) := (HB4.out.below hA1 HB4.out.lt).cell 0
        have HX := Lib.hid hX
        have HA1 := Lib.hid hA1
        clear hX hA1
        go_wp2_with fail
        clear d0
        go_loopw [6, 25] (fun n s wy => ∃ j : Nat, s = .int .i64 j ∧ n = .int .i64 (mvK d.revs x j) ∧ j ≤ d.revs.length ∧ Hid (Below V1.heap.size V1 wy)) (fun _ s _ => d.revs.length - (intOf s).toNat)
        case atStart => exact ⟨0, rfl, rfl, Nat.zero_le _, Below.refl _ _⟩
        case round =>
          obtain ⟨j, rfl, rfl, hj, HJ⟩ := hrel
          by_cases hjl : j < d.revs.length
          · obtain ⟨ad2, had, hab2, hld⟩ := Revs.at_ (HR4.out.below (below_next HA1.out HJ.out)) hjl
            injection had with had
            subst had
            have HK := Lib.hid (mvK_next d.revs x j hjl)
            have hle := mvK_le d.revs x j
            have HN2 := Lib.hid (HW.out.num _ (List.getElem_mem hjl))
            generalize d.revs[j] = y at hld HK HN2
            obtain ⟨x0, x1, x2, x3, x4, x5, x6, x7, x8, x9, x10, x11⟩ := hld
            have hY := blk_new wr [.string y.path, .int .i64 y.num, .int .i64 y.chg, .int .i64 y.act, .int .i64 y.ty.base, .bool y.ty.k, .bool y.ty.l, .bool y.ty.x, .int .u64 y.sum, .int .i64 y.size, .string y.frm, .int .i64 y.fnum] 43
            have hA2 := HJ.out.alloc HJ.out.size (.cells #[.string y.path, .int .i64 y.num, .int .i64 y.chg, .int .i64 y.act, .int .i64 y.ty.base, .bool y.ty.k, .bool y.ty.l, .bool y.ty.x, .int .u64 y.sum, .int .i64 y.size, .string y.frm, .int .i64 y.fnum] 43)
            go_upto_region 11 with fail
            clear x0 x1 x2 x3 x4 x5 x6 x7 x8 x9 x10 x11
            generalize wr.alloc (.cells #[.string y.path, .int .i64 y.num, .int .i64 y.chg, .int .i64 y.act, .int .i64 y.ty.base, .bool y.ty.k, .bool y.ty.l, .bool y.ty.x, .int .u64 y.sum, .int .i64 y.size, .string y.frm, .int .i64 y.fnum] 43) = V2 at hY hA2 ⊢
            generalize wr.heap.size = g8 at hY ⊢
            have HY := Lib.hid hY
            have HA2 := Lib.hid hA2
            clear hY hA2
            refine movesR11 _ (by kernel_rfl) _ g5 g8 x y V2 (HX.out.below HA2.out HX.out.lt) HY.out (by have := HN.out; omega) (by have := HN2.out; omega) _ _ _ _ _ _ _ _ _ _ _ _ _ _ _ _ _ _ _ _ _ _ _ _ _ _ _ _ _ _ _ _ _ _ _ _ _ _ _ _ _ _ _ _ _ _ _ _ _ _ _ _ _ _ _ _ _ _ _ _ _ _ _ _ _ _ _ _ _ _ _ _ _ _ _ _ _ _ _ _ _ _ _ _ _ _ _ _ _ _ _ _ _ _ _ _ _ _ _ _ _ _ _ _ _ _ _ _ _ ?_
            intro t29 t30 t31 t32 t33 t34 t35 t36 t37 t38 t39 t40 t41 t42 t43 t44 t45 t46 t47 t48 t49 t50 t51 t52 t53 t54 t55 t56 t57
            cases hm1 : mv1 x y
            · rw [hm1] at HK
              clear hm1
              go_upto_region 13 with fail
              refine movesR13 _ (by kernel_rfl) _ g5 g8 x y V2 (HX.out.below HA2.out HX.out.lt) HY.out (by have := HN.out; omega) (by have := HN2.out; omega) _ _ _ _ _ _ _ _ _ _ _ _ _ _ _ _ _ _ _ _ _ _ _ _ _ _ _ _ _ _ _ _ _ _ _ _ _ _ _ _ _ _ _ _ _ _ _ _ _ _ _ _ _ _ _ _ _ _ _ _ _ _ _ _ _ _ _ _ _ _ _ _ _ _ _ _ _ _ _ _ _ _ _ _ _ _ _ _ _ _ _ _ _ _ _ _ _ _ _ _ _ _ _ _ _ _ _ _ _ ?_
              intro t61 t62 t63 t64 t65 t66 t67 t68 t69 t70 t71 t72 t73 t74 t75 t76 t77 t78 t79 t80 t81 t82 t83 t84 t85 t86 t87 t88 t89
              cases hm2 : mv2 x y
              · rw [hm2] at HK
                clear hm2
                go_wp2_with fail
                go_roundw
                case rel => exact ⟨j + 1, by go_num, by rw [HK.out]; simp, by omega, HA2.out⟩
                case measure => simp [intOf]; omega
              · rw [hm2] at HK
                clear hm2
                go_wp2_with fail
                go_roundw
                case rel => exact ⟨j + 1, by go_num, by rw [HK.out]; simp, by omega, HA2.out⟩
                case measure => simp [intOf]; omega
            · rw [hm1] at HK
              clear hm1
              go_upto_region 13 with fail
              refine movesR13 _ (by kernel_rfl) _ g5 g8 x y V2 (HX.out.below HA2.out HX.out.lt) HY.out (by have := HN.out; omega) (by have := HN2.out; omega) _ _ _ _ _ _ _ _ _ _ _ _ _ _ _ _ _ _ _ _ _ _ _ _ _ _ _ _ _ _ _ _ _ _ _ _ _ _ _ _ _ _ _ _ _ _ _ _ _ _ _ _ _ _ _ _ _ _ _ _ _ _ _ _ _ _ _ _ _ _ _ _ _ _ _ _ _ _ _ _ _ _ _ _ _ _ _ _ _ _ _ _ _ _ _ _ _ _ _ _ _ _ _ _ _ _ _ _ _ ?_
              intro s61 s62 s63 s64 s65 s66 s67 s68 s69 s70 s71 s72 s73 s74 s75 s76 s77 s78 s79 s80 s81 s82 s83 s84 s85 s86 s87 s88 s89
              cases hm2 : mv2 x y
              · rw [hm2] at HK
                clear hm2
                go_wp2_with fail
                go_roundw
                case rel => exact ⟨j + 1, by go_num, by rw [HK.out]; simp, by omega, HA2.out⟩
                case measure => simp [intOf]; omega
              · rw [hm2] at HK
                clear hm2
                go_wp2_with fail
                go_roundw
                case rel => exact ⟨j + 1, by go_num, by rw [HK.out]; simp, by omega, HA2.out⟩
                case measure => simp [intOf]; omega
          · have hje : j = d.revs.length := by omega
            subst hje
            have hn : mvK d.revs x d.revs.length = if x.act = 4 ∨ x.act = 5 then 1 else 0 := by unfold mvK; rw [List.take_length]; exact HM.out
            have HXJ := Lib.hid (HX.out.below HJ.out HX.out.lt)
            obtain ⟨-, -, -, y3, -, -, -, -, -, -, -, -⟩ := box12 HXJ.out
            by_cases h5 : x.act = 5
            · rw [if_pos (.inr h5)] at hn
              rw [hn]
              have q5 : (x.act == 5) = true := by simpa using h5
              clear hn h5
              go_wp2_with fail
              go_roundw
              case rel => exact ⟨k + 1, by go_num, by omega, below_next HA1.out HJ.out⟩
              case measure => simp [intOf]; omega
            · by_cases h4 : x.act = 4
              · rw [if_pos (.inl h4)] at hn
                rw [hn]
                have q5 : (x.act == 5) = false := by simpa using h5
                have q4 : (x.act == 4) = true := by simpa using h4
                clear hn h4 h5
                go_wp2_with fail
                go_roundw
                case rel => exact ⟨k + 1, by go_num, by omega, below_next HA1.out HJ.out⟩
                case measure => simp [intOf]; omega
              · rw [if_neg (by omega)] at hn
                rw [hn]
                have q5 : (x.act == 5) = false := by simpa using h5
                have q4 : (x.act == 4) = false := by simpa using h4
                clear hn h4 h5
                go_wp2_with fail
                go_roundw
                case rel => exact ⟨k + 1, by go_num, by omega, below_next HA1.out HJ.out⟩
                case measure => simp [intOf]; omega
      · have hkk : k = d.revs.length := by omega
        clear HMV
        go_wp2_with fail
        refine (awake_any wr).mono ?_
        rintro e w6 ⟨rfl, hb6⟩
        have HB6 := Lib.hid hb6
        clear hb6
        go_wp2_with fail
        go_ret
        exact ⟨rfl, below_next Hb4.out (below_next HI.out HB6.out)⟩
end Go.Proofs.Ytmhmnchdhacdbaa
