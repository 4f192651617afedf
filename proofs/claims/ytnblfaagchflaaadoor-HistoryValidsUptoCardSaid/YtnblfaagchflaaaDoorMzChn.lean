/- The reference's Changes: from the edit on, within a round. -/
import Derived.Test.YtnblfaagchflaaaDoorMzChm
import Derived.Deep.CutBlock
namespace Go.Proofs.YtnblfaagchflaaaDoor
open Go.RowKit
set_option linter.unusedVariables false
set_option linter.unusedSimpArgs false

set_option maxRecDepth 100000 in
set_option maxHeartbeats 8000000 in
theorem cgR5 (ops : Array Oper) (hops : Tryd.f12.body.bind (regAt 5) = some ops) (Q_ : Exit → Act → World → Prop) (base g c g5 : Nat) (Q : List ChV) (ch : Chg) (ev rv : Value) (r : Rev) (V1 : World)
    (h : ChO V1 base (.slice (some ⟨g, 0, none⟩) (Q.length + 1) c) Q (ch, ev, rv)) (hm : Q.length ≤ 100000) (hB : Blk V1 g5 33 [.string r.path, .int .i64 r.num, .int .i64 r.chg, .int .i64 r.act, .int .i64 r.ty.base, .bool r.ty.k, .bool r.ty.l, .bool r.ty.x, .int .u64 r.sum, .int .i64 r.size, .string r.frm, .int .i64 r.fnum])
    (u0 u1 u2 u4 u6 u7 u8 u9 u10 u11 u12 u13 u14 u15 u16 u17 u18 u19 u20 u21 u22 u23 u24 u25 u26 u27 u28 u29 u30 u31 u32 u33 u34 u35 u36 u37 u38 u39 u40 u41 u42 u43 u44 u45 u46 u47 u48 u49 u50 u51 u52 u53 u54 u55 u56 u57 u58 u59 u60 u61 u62 u63 u64 u65 u66 u67 u68 u69 u70 u71 u72 u73 u74 u75 u76 u77 u78 u79 u80 u81 u82 u83 u84 u85 u86 u87 u88 u89 u90 u91 u92 u93 u94 u95 u96 u97 u98 : Value)
    (hQ : ∀ (t16 t17 t18 t19 t20 t21 t22 t23 t24 t25 t26 t27 t28 t29 : Value) (w' : World), Hid (Below V1.heap.size V1 w') → Q_ .normal ⟨#[u0, u1, u2, .slice (some ⟨g, 0, none⟩) (Q.length + 1) c, u4, .pointer (some ⟨g5, 0, none⟩), u6, u7, u8, u9, u10, u11, u12, u13, u14, u15, t16, t17, t18, t19, t20, t21, t22, t23, t24, t25, t26, t27, t28, t29, .bool (!decide (ch.num = r.chg)), u31, u32, u33, u34, u35, u36, u37, u38, u39, u40, u41, u42, u43, u44, u45, u46, u47, u48, u49, u50, u51, u52, u53, u54, u55, u56, u57, u58, u59, u60, u61, u62, u63, u64, u65, u66, u67, u68, u69, u70, u71, u72, u73, u74, u75, u76, u77, u78, u79, u80, u81, u82, u83, u84, u85, u86, u87, u88, u89, u90, u91, u92, u93, u94, u95, u96, u97, u98], []⟩ w') :
    (Code.region 5 ops true).wp Tryd.prog Q_ ⟨#[u0, u1, u2, .slice (some ⟨g, 0, none⟩) (Q.length + 1) c, u4, .pointer (some ⟨g5, 0, none⟩), u6, u7, u8, u9, u10, u11, u12, u13, u14, u15, u16, u17, u18, u19, u20, u21, u22, u23, u24, u25, u26, u27, u28, u29, u30, u31, u32, u33, u34, u35, u36, u37, u38, u39, u40, u41, u42, u43, u44, u45, u46, u47, u48, u49, u50, u51, u52, u53, u54, u55, u56, u57, u58, u59, u60, u61, u62, u63, u64, u65, u66, u67, u68, u69, u70, u71, u72, u73, u74, u75, u76, u77, u78, u79, u80, u81, u82, u83, u84, u85, u86, u87, u88, u89, u90, u91, u92, u93, u94, u95, u96, u97, u98], []⟩ V1 := by
  simp only [Tryd.f12, Option.bind_some, regAt] at hops
  simp at hops
  subst hops
  have HQ := Lib.hid hQ
  have c1 : V1.cell? ⟨g, Q.length * 5, none⟩ = some (.int .i64 ch.num) := (own_at h.own cells_at.1).1
  obtain ⟨a0, a1, a2, a3, a4, a5, a6, a7, a8, a9, a10, a11⟩ := box12 hB
  clear hQ h hB
  have q1 : (((Q.length : Nat) : Int) + 1 == 0) = false := by rw [beq_eq_false_iff_ne]; omega
  have q2 : IntKind.i64.wrap ((Q.length : Nat) : Int) = (Q.length : Int) := IntWalk.i64_in _ (by omega)
  have q4 : (Q.length : Int) < (Q.length : Int) + 1 := by omega
  have q5 : Q.length < Q.length + 1 := by omega
  have q6 : (0 : Int) ≤ (Q.length : Int) := by omega
  go_quiet (fail)
  all_goals exact HQ.out _ _ _ _ _ _ _ _ _ _ _ _ _ _ _ (below_dN (Below.refl _ _) _)
def subAt (n : Nat) : Code → Option Code
  | .seq a b => if hasReg n b then subAt n b else (match a with
    | .region i o k => some (.seq (.region i o k) b)
    | c => subAt n c)
  | .block _ a => subAt n a
  | .loop a => subAt n a
  | .cond _ a b => if hasReg n a then subAt n a else subAt n b
  | c => some c
theorem rec_take (rs : List Rcd) (p : Rcd → Bool) (k : Nat) (h : k < rs.length) : (rs.take (k + 1)).filter p = (rs.take k).filter p ++ (if p rs[k] = true then [rs[k]] else []) := by
  rw [List.take_succ_eq_append_getElem h, List.filter_append]
  congr 1
  rw [List.filter_cons]
  by_cases e : p rs[k] = true
  · simp [e]
  · simp [e]
def ofRev (r : Rev) (x : Rcd) : Bool := decide (x.to = r.path) && decide (x.num = r.num)
/-- The state of the loop over the records. -/
structure CgT (w0 wr : World) (g c g1 g5 : Nat) (D : Dep) (Ar Aq : Option Addr) (cr cq : Nat) (Q : List ChV) (ch : Chg) (ev rv : Value) (r : Rev) : Prop where
  cho : ChO wr w0.heap.size (.slice (some ⟨g, 0, none⟩) (Q.length + 1) c) Q (ch, ev, rv)
  bel : Below w0.heap.size w0 wr
  box5 : Blk wr g5 33 [.string r.path, .int .i64 r.num, .int .i64 r.chg, .int .i64 r.act, .int .i64 r.ty.base, .bool r.ty.k, .bool r.ty.l, .bool r.ty.x, .int .u64 r.sum, .int .i64 r.size, .string r.frm, .int .i64 r.fnum]
  ne : rv.ownBlock ≠ some g5
theorem CgT.under {w0 wr X : World} {g c g1 g5 : Nat} {D : Dep} {Ar Aq : Option Addr} {cr cq : Nat} {Q : List ChV} {ch : Chg} {ev rv : Value} {r : Rev} (h : CgT w0 wr g c g1 g5 D Ar Aq cr cq Q ch ev rv r) (hX : Below wr.heap.size wr X) : CgT w0 X g c g1 g5 D Ar Aq cr cq Q ch ev rv r :=
  ⟨h.cho.below hX, below_next h.bel hX, h.box5.below' hX, h.ne⟩
theorem ChO.lt {w : World} {base g n c : Nat} {Q : List ChV} {p : ChV} (h : ChO w base (.slice (some ⟨g, 0, none⟩) n c) Q p) : base ≤ g ∧ g < w.heap.size := h.own.lt g rfl
set_option maxRecDepth 100000 in
set_option maxHeartbeats 8000000 in
theorem cgT7 (T : Code) (hT : Tryd.f12.body.bind (subAt 7) = some T) (Q_ : Exit → Act → World → Prop) (w0 : World) (g c g1 g5 : Nat) (D : Dep) (Ar Aq : Option Addr) (cr cq : Nat) (Q : List ChV) (ch : Chg) (ev rv : Value) (r : Rev) (V1 : World) (n : Nat) (hn : n = Q.length + 1)
    (h : ChO V1 w0.heap.size (.slice (some ⟨g, 0, none⟩) (Q.length + 1) c) Q (ch, ev, rv)) (hb : Below w0.heap.size w0 V1) (hB : Blk V1 g5 33 [.string r.path, .int .i64 r.num, .int .i64 r.chg, .int .i64 r.act, .int .i64 r.ty.base, .bool r.ty.k, .bool r.ty.l, .bool r.ty.x, .int .u64 r.sum, .int .i64 r.size, .string r.frm, .int .i64 r.fnum]) (hD : Blk w0 g1 25 [.slice Ar D.revs.length cr, .slice Aq D.recs.length cq]) (hQd : Rcds w0 (.slice Aq D.recs.length cq) D.recs)
    (hne : ev.ownBlock ≠ some g5) (hnr : rv.ownBlock ≠ some g5) (hgg : g ≠ g5) (hm : Q.length ≤ 1000) (hle : ch.edits.length ≤ 1000) (hlr : ch.recs.length ≤ 50000) (hdr : D.recs.length ≤ 1000)
    (u0 u2 u4 u6 u7 u8 u9 u10 u11 u12 u13 u14 u15 u16 u17 u18 u19 u20 u21 u22 u23 u24 u25 u26 u27 u28 u29 u30 u31 u32 u33 u34 u35 u36 u37 u38 u39 u40 u41 u42 u43 u44 u45 u46 u47 u48 u49 u50 u51 u52 u53 u54 u55 u56 u57 u58 u59 u60 u61 u62 u63 u64 u65 u66 u67 u68 u69 u70 u71 u72 u73 u74 u75 u76 u77 u78 u79 u80 u81 u82 u83 u84 u85 u86 u87 u88 u89 u90 u91 u92 u93 u94 u95 u96 u97 u98 : Value)
    (hQ : ∀ (t6 t8 : Value) (t37 t38 t39 t40 t41 t42 t43 t44 t45 t46 t47 t48 t49 t50 t51 t52 t53 t54 t55 t56 t57 t58 t59 t60 t61 t62 t63 t64 t65 t66 t67 t68 t69 t70 t71 t72 t73 t74 t75 t76 t77 t78 t79 t80 t81 t82 t83 t84 t85 t86 t87 t88 t89 t90 t91 t92 t93 t94 t95 t96 : Value) (ev' rv' : Value) (w' : World), Hid (ChO w' w0.heap.size (.slice (some ⟨g, 0, none⟩) (Q.length + 1) c) Q (chAdd D r ch, ev', rv') ∧ Below w0.heap.size w0 w') → Q_ .normal ⟨#[u0, .pointer (some ⟨g1, 0, none⟩), u2, .slice (some ⟨g, 0, none⟩) n c, u4, .pointer (some ⟨g5, 0, none⟩), t6, u7, t8, u9, u10, u11, u12, u13, u14, u15, u16, u17, u18, u19, u20, u21, u22, u23, u24, u25, u26, u27, u28, u29, u30, u31, u32, u33, u34, u35, u36, t37, t38, t39, t40, t41, t42, t43, t44, t45, t46, t47, t48, t49, t50, t51, t52, t53, t54, t55, t56, t57, t58, t59, t60, t61, t62, t63, t64, t65, t66, t67, t68, t69, t70, t71, t72, t73, t74, t75, t76, t77, t78, t79, t80, t81, t82, t83, t84, t85, t86, t87, t88, t89, t90, t91, t92, t93, t94, t95, t96, u97, u98], []⟩ w') :
    T.wp Tryd.prog Q_ ⟨#[u0, .pointer (some ⟨g1, 0, none⟩), u2, .slice (some ⟨g, 0, none⟩) n c, u4, .pointer (some ⟨g5, 0, none⟩), u6, u7, u8, u9, u10, u11, u12, u13, u14, u15, u16, u17, u18, u19, u20, u21, u22, u23, u24, u25, u26, u27, u28, u29, u30, u31, u32, u33, u34, u35, u36, u37, u38, u39, u40, u41, u42, u43, u44, u45, u46, u47, u48, u49, u50, u51, u52, u53, u54, u55, u56, u57, u58, u59, u60, u61, u62, u63, u64, u65, u66, u67, u68, u69, u70, u71, u72, u73, u74, u75, u76, u77, u78, u79, u80, u81, u82, u83, u84, u85, u86, u87, u88, u89, u90, u91, u92, u93, u94, u95, u96, u97, u98], []⟩ V1 := by
  subst hn
  simp only [Tryd.f12, Option.bind_some, subAt, hasReg] at hT
  simp at hT
  subst hT
  have HQ := Lib.hid hQ
  have HO := Lib.hid h
  have HBB := Lib.hid hb
  have HB := Lib.hid hB
  have HD := Lib.hid hD
  have HQD := Lib.hid hQd
  obtain ⟨A', c', e', hcq, hmq, -⟩ := id hQd
  injection e' with e1 e2 e3
  subst e1 e3
  unfold maxLen at hmq
  clear hQ h hb hB hD hQd e2
  have q2 : IntKind.i64.wrap ((Q.length : Nat) : Int) = (Q.length : Int) := IntWalk.i64_in _ (by omega)
  have q4 : (Q.length : Int) < (Q.length : Int) + 1 := by omega
  have q5 : Q.length < Q.length + 1 := by omega
  have q6 : (0 : Int) ≤ (Q.length : Int) := by omega
  go_upto_region 8 with fail
  refine cgR8 _ (by kernel_rfl) _ w0.heap.size g c g5 Q ch ev rv r V1 HO.out HBB.out.size HB.out hne hgg hle _ _ _ _ _ _ _ _ _ _ _ _ _ _ _ _ _ _ _ _ _ _ _ _ _ _ _ _ _ _ _ _ _ _ _ _ _ _ _ _ _ _ _ _ _ _ _ _ _ _ _ _ _ _ _ _ _ _ _ _ _ _ _ _ _ _ _ _ _ _ _ _ _ _ _ _ _ _ _ _ _ _ _ _ _ _ _ _ _ _ _ _ _ _ _ _ _ ?_
  intro t42 t43 t44 t45 t46 t47 t48 t49 t50 t51 t52 t53 t54 t55 t56 t57 t58 t59 t60 t61 t62 t63 t64 t65 t66 ev' w8 H8
  clear q2 q4 q5 q6
  have HST : Hid (CgT w0 w8 g c g1 g5 D Ar Aq cr cq Q (⟨ch.num, ch.client, ch.text, ch.edits ++ [edtW r], ch.recs ++ (D.recs.take 0).filter (ofRev r)⟩ : Chg) ev' rv r) := Lib.hid (by
    have hlt := HO.out.lt
    refine ⟨?_, H8.out.2.below HBB.out (fun k e => ((HO.out.rows _ (List.mem_append_right _ (List.mem_cons_self ..))).1.lt k e).1) hlt.1, H8.out.2.blk HB.out hne hgg, hnr⟩
    rw [List.take_zero, List.filter_nil, List.append_nil]
    exact H8.out.1)
  clear H8
  obtain ⟨d0, d1, -, -⟩ := box2 (HD.out.below HST.out.bel HD.out.lt)
  go_wp2_with fail
  clear d0 d1
  go_loopw [70] (fun s wr => ∃ (k : Nat) (rv' : Value), s = .int .i64 k ∧ k ≤ D.recs.length ∧ Hid (CgT w0 wr g c g1 g5 D Ar Aq cr cq Q (⟨ch.num, ch.client, ch.text, ch.edits ++ [edtW r], ch.recs ++ (D.recs.take k).filter (ofRev r)⟩ : Chg) ev' rv' r)) (fun s _ => D.recs.length - (intOf s).toNat)
  case atStart => exact ⟨0, rv, rfl, Nat.zero_le _, HST.out⟩
  case round =>
    obtain ⟨k, rv', rfl, hk, HI⟩ := hrel
    by_cases hlt : k < D.recs.length
    · obtain ⟨ad, rfl, hab, hld⟩ := Rcds.at_ (HQD.out.below HI.out.bel) hlt
      have HT := Lib.hid (rec_take D.recs (ofRev r) k hlt)
      have HLN : Hid ((ch.recs ++ (D.recs.take k).filter (ofRev r)).length ≤ 100000) := Lib.hid (by
        rw [List.length_append]
        have h1 := List.length_filter_le (ofRev r) (D.recs.take k)
        rw [List.length_take] at h1
        omega)
      generalize D.recs[k] = x at hld HT
      obtain ⟨x0, x1, x2, x3, x4, x5⟩ := hld
      have hX := blk_new wr [.string x.frm, .int .i64 x.first, .int .i64 x.last, .string x.to, .int .i64 x.num, .int .i64 x.how] 50
      have hA1 : Below wr.heap.size wr (wr.alloc (.cells #[.string x.frm, .int .i64 x.first, .int .i64 x.last, .string x.to, .int .i64 x.num, .int .i64 x.how] 50)) := (Below.refl _ _).alloc (Nat.le_refl _) _
      go_upto_region 12 with fail
      clear x0 x1 x2 x3 x4 x5
      generalize wr.alloc (.cells #[.string x.frm, .int .i64 x.first, .int .i64 x.last, .string x.to, .int .i64 x.num, .int .i64 x.how] 50) = V2 at hX hA1 ⊢
      generalize wr.heap.size = g8 at hX ⊢
      have HX := Lib.hid hX
      have HS2 := Lib.hid (HI.out.under hA1)
      clear hA1
      obtain ⟨x0, x1, x2, x3, x4, x5⟩ := box6 hX
      obtain ⟨y0, y1, y2, y3, y4, y5, y6, y7, y8, y9, y10, y11⟩ := box12 HS2.out.box5
      clear hX
      have qp := str_eqB x.to r.path
      by_cases hp : x.to = r.path
      · rw [decide_eq_true hp] at qp
        by_cases hn : x.num = r.num
        · have qn : (x.num == r.num) = true := by simpa using hn
          rw [if_pos (by unfold ofRev; simp [hp, hn])] at HT
          clear hp hn
          go_upto_region 13 with fail
          clear x0 x1 x2 x3 x4 x5 y0 y1 y2 y3 y4 y5 y6 y7 y8 y9 y10 y11 qp qn
          refine cgR13 _ (by kernel_rfl) _ w0.heap.size g c g8 Q _ ev' rv' x V2 HS2.out.cho HS2.out.bel.size HX.out HLN.out _ _ _ _ _ _ _ _ _ _ _ _ _ _ _ _ _ _ _ _ _ _ _ _ _ _ _ _ _ _ _ _ _ _ _ _ _ _ _ _ _ _ _ _ _ _ _ _ _ _ _ _ _ _ _ _ _ _ _ _ _ _ _ _ _ _ _ _ _ _ _ _ _ _ _ _ _ _ _ _ _ _ _ _ _ _ _ _ _ _ _ _ _ _ _ _ _ ?_
          intro t86 t87 t88 t89 t90 t91 t92 t93 t94 t95 rv2 w3 H3
          have HR3 : Hid (CgT w0 w3 g c g1 g5 D Ar (some ad) cr cq Q (⟨ch.num, ch.client, ch.text, ch.edits ++ [edtW r], ch.recs ++ (D.recs.take (k + 1)).filter (ofRev r)⟩ : Chg) ev' rv2 r) := Lib.hid (by
            have hlt := HS2.out.cho.lt
            refine ⟨?_, H3.out.2.below HS2.out.bel (fun k e => ((HS2.out.cho.rows _ (List.mem_append_right _ (List.mem_cons_self ..))).2.lt k e).1) hlt.1, H3.out.2.blk HS2.out.box5 HS2.out.ne hgg, H3.out.2.ne HS2.out.box5.lt HS2.out.ne⟩
            rw [HT.out, ← List.append_assoc]
            exact H3.out.1)
          clear H3
          go_wp2_with fail
          go_roundw
          case rel => exact ⟨k + 1, rv2, by go_num, by omega, HR3.out⟩
          case measure => simp [intOf]; omega
        · have qn : (x.num == r.num) = false := by simpa using hn
          rw [if_neg (by unfold ofRev; simp [hn]), List.append_nil] at HT
          have HR3 : Hid (CgT w0 V2 g c g1 g5 D Ar (some ad) cr cq Q (⟨ch.num, ch.client, ch.text, ch.edits ++ [edtW r], ch.recs ++ (D.recs.take (k + 1)).filter (ofRev r)⟩ : Chg) ev' rv' r) := Lib.hid (by rw [HT.out]; exact HS2.out)
          clear hp hn
          go_wp2_with fail
          go_roundw
          case rel => exact ⟨k + 1, rv', by go_num, by omega, HR3.out⟩
          case measure => simp [intOf]; omega
      · rw [decide_eq_false hp] at qp
        rw [if_neg (by unfold ofRev; simp [hp]), List.append_nil] at HT
        have HR3 : Hid (CgT w0 V2 g c g1 g5 D Ar (some ad) cr cq Q (⟨ch.num, ch.client, ch.text, ch.edits ++ [edtW r], ch.recs ++ (D.recs.take (k + 1)).filter (ofRev r)⟩ : Chg) ev' rv' r) := Lib.hid (by rw [HT.out]; exact HS2.out)
        clear hp
        go_wp2_with fail
        go_roundw
        case rel => exact ⟨k + 1, rv', by go_num, by omega, HR3.out⟩
        case measure => simp [intOf]; omega
    · have hkk : k = D.recs.length := by omega
      have HF : Hid (ChO wr w0.heap.size (.slice (some ⟨g, 0, none⟩) (Q.length + 1) c) Q (chAdd D r ch, ev', rv') ∧ Below w0.heap.size w0 wr) := Lib.hid (by
        have h1 := HI.out.cho
        rw [hkk, List.take_length] at h1
        exact ⟨h1, HI.out.bel⟩)
      clear hkk
      go_wp2_with fail
      exact HQ.out _ _ _ _ _ _ _ _ _ _ _ _ _ _ _ _ _ _ _ _ _ _ _ _ _ _ _ _ _ _ _ _ _ _ _ _ _ _ _ _ _ _ _ _ _ _ _ _ _ _ _ _ _ _ _ _ _ _ _ _ _ _ _ _ _ HF.out
end Go.Proofs.YtnblfaagchflaaaDoor
