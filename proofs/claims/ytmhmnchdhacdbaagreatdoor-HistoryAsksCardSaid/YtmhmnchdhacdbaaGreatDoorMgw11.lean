/- Region 24 of history.Valid: one more edit of the change that is made anew. -/
import Derived.Test.YtmhmnchdhacdbaaGreatDoorMgv1
import Derived.Test.YtmhmnchdhacdbaaGreatDoorGreat
import Derived.Test.YtmhmnchdhacdbaaGreatDoorMgv0
import Derived.Laws.EntriesVeiled
namespace Go.Proofs.YtmhmnchdhacdbaaGreatDoor
open Go.RowKit
set_option linter.unusedVariables false
set_option linter.unusedSimpArgs false

theorem edtElem : ElemOk Tryz.prog 54 58 12 96 := elemOk_of Tryz.underlying54 (z := zeroEdt.val) (by kernel_rfl) rfl (by decide)
/-- The change that Valid makes anew, in block gC, its edits a row of its own. -/
structure VE (V wx : World) (gC : Nat) (num : Int) (v1 : Value) (n : Nat) (xs : List Value) : Prop where
  bel : Below V.heap.size V wx
  le : V.heap.size ≤ gC
  box : Blk wx gC 56 [.int .i64 num, .string ⟨#[]⟩, .string ⟨#[]⟩, v1, .slice none 0 0]
  one : wx.ownsRow V.heap.size 58 12 v1 n xs
  ne1 : v1.ownBlock ≠ some gC
theorem VE.under {V wr X : World} {gC : Nat} {num : Int} {v1 : Value} {n : Nat} {xs : List Value} (h : VE V wr gC num v1 n xs) (hX : Below wr.heap.size wr X) : VE V X gC num v1 n xs :=
  ⟨below_next h.bel hX, h.le, h.box.below hX h.box.lt, own_below h.one hX, h.ne1⟩
theorem VE.push {V wr X w5 : World} {gC : Nat} {num : Int} {v1 v3 : Value} {n n' : Nat} {xs xs' : List Value} (h : VE V wr gC num v1 n xs) (hX : Below wr.heap.size wr X) (ho : w5.ownsRow V.heap.size 58 12 v3 n' xs') (hg : X.grownBy w5 v1.ownBlock) (hw : v3.ownBlock = v1.ownBlock ∨ v3.ownBlock = some X.heap.size) :
    VE V (w5.setCell ⟨gC, 3, none⟩ v3) gC num v3 n' xs' := by
  have l1 := h.one.lt
  have lb := h.box.lt
  have hs := hX.size
  have n3 : v3.ownBlock ≠ some gC := fun e => by
    rcases hw with hw | hw
    · exact h.ne1 (hw ▸ e)
    · rw [hw] at e; injection e with e; omega
  have b5 : Below V.heap.size V w5 := (below_next h.bel hX).grown hg (by have := h.bel.size; omega) (fun k e => (l1 k e).1)
  exact ⟨b5.setCell (p := ⟨gC, 3, none⟩) h.le _, h.le, ((h.box.below hX lb).grown hg (fun e => h.ne1 e.symm)).set_ 3 v3, own_setCell ho (p := ⟨gC, 3, none⟩) n3 _, n3⟩
theorem box5f {w : World} {g : Nat} {e : TypeId} {a b c d x : Value} (h : Blk w g e [a, b, c, d, x]) : w.cell? ⟨g, 3, none⟩ = some d ∧ w.frozen? ⟨g, 3, none⟩ = false := ⟨h.cell 3, h.frozen 3⟩

set_option maxRecDepth 100000 in
set_option maxHeartbeats 8000000 in
theorem region24 (ops : Array Oper) (hops : Tryz.f24.body.bind (regAt 24) = some ops) (Q : Exit → Act → World → Prop) (gD gC n k : Nat) (num : Int) (x : Edt) (v1 dv dr : Value) (xs : List Value) (V V1 : World)
    (hR : VE V V1 gC num v1 n xs) (hB : Blk V1 gD 28 [dv, dr]) (hsl : (∃ A m c, dv = .slice A m c) ∧ ∃ A m c, dr = .slice A m c) (hn : n ≤ 100000)
    (hrev : ∀ X, Below V1.heap.size V1 X → Calls Tryz.prog 54 #[.agg #[dv, dr], .int .i64 k] X fun e w' => e = .returned (.agg #[.string x.path, .int .i64 x.act, .int .i64 x.ty.base, .bool x.ty.k, .bool x.ty.l, .bool x.ty.x, .int .u64 x.sum, .int .i64 x.size, .int .i64 x.base, .string x.frm, .int .i64 x.fnum, .int .i64 x.fence]) ∧ Below X.heap.size X w')
    (u0 u2 u3 u4 u5 u6 u7 u8 u9 u10 u11 u14 u15 u16 u17 u18 u19 u20 u21 u22 u23 u24 u25 u26 u27 u28 u29 u30 u31 u32 u33 u34 u35 u36 u37 u38 u39 u40 u41 u42 u43 u44 u45 u46 u47 u48 u49 u50 u51 u52 u53 u54 u55 u56 u57 u58 u59 u60 u61 u62 u63 u64 u65 u66 u67 u68 u69 u70 u71 u72 u73 u74 u75 u76 u77 u78 u79 u80 u81 u82 u83 u84 u85 u86 u87 u88 u89 u90 u91 u92 u93 u94 u95 u96 u97 u98 u99 u100 u101 u102 u103 u104 u105 u106 u107 u108 u109 u110 u111 u112 u113 u114 u115 u116 u117 u118 u119 u120 u121 u122 u123 u124 u125 u126 u127 u128 u129 u130 u131 u132 u133 u134 u135 : Value)
    (hQ : ∀ (t102 t103 t104 t105 t106 t107 t108 t109 : Value) (v3 : Value) (w' : World), Hid (VE V w' gC num v3 (n + 1) (xs ++ [.string x.path, .int .i64 x.act, .int .i64 x.ty.base, .bool x.ty.k, .bool x.ty.l, .bool x.ty.x, .int .u64 x.sum, .int .i64 x.size, .int .i64 x.base, .string x.frm, .int .i64 x.fnum, .int .i64 x.fence])) → Q .normal ⟨#[u0, .pointer (some ⟨gD, 0, none⟩), u2, u3, u4, u5, u6, u7, u8, u9, u10, u11, .int .i64 k, .pointer (some ⟨gC, 0, none⟩), u14, u15, u16, u17, u18, u19, u20, u21, u22, u23, u24, u25, u26, u27, u28, u29, u30, u31, u32, u33, u34, u35, u36, u37, u38, u39, u40, u41, u42, u43, u44, u45, u46, u47, u48, u49, u50, u51, u52, u53, u54, u55, u56, u57, u58, u59, u60, u61, u62, u63, u64, u65, u66, u67, u68, u69, u70, u71, u72, u73, u74, u75, u76, u77, u78, u79, u80, u81, u82, u83, u84, u85, u86, u87, u88, u89, u90, u91, u92, u93, u94, u95, u96, u97, u98, u99, u100, u101, t102, t103, t104, t105, t106, t107, t108, t109, u110, u111, u112, u113, u114, u115, u116, u117, u118, u119, u120, u121, u122, u123, u124, u125, u126, u127, u128, u129, u130, u131, u132, u133, u134, u135], []⟩ w') :
    (Code.region 24 ops true).wp Tryz.prog Q ⟨#[u0, .pointer (some ⟨gD, 0, none⟩), u2, u3, u4, u5, u6, u7, u8, u9, u10, u11, .int .i64 k, .pointer (some ⟨gC, 0, none⟩), u14, u15, u16, u17, u18, u19, u20, u21, u22, u23, u24, u25, u26, u27, u28, u29, u30, u31, u32, u33, u34, u35, u36, u37, u38, u39, u40, u41, u42, u43, u44, u45, u46, u47, u48, u49, u50, u51, u52, u53, u54, u55, u56, u57, u58, u59, u60, u61, u62, u63, u64, u65, u66, u67, u68, u69, u70, u71, u72, u73, u74, u75, u76, u77, u78, u79, u80, u81, u82, u83, u84, u85, u86, u87, u88, u89, u90, u91, u92, u93, u94, u95, u96, u97, u98, u99, u100, u101, u102, u103, u104, u105, u106, u107, u108, u109, u110, u111, u112, u113, u114, u115, u116, u117, u118, u119, u120, u121, u122, u123, u124, u125, u126, u127, u128, u129, u130, u131, u132, u133, u134, u135], []⟩ V1 := by
  obtain ⟨⟨Av, mv, cv, rfl⟩, Ar, mr, cr, rfl⟩ := hsl
  simp only [Tryz.f24, Option.bind_some, regAt] at hops
  simp at hops
  subst hops
  obtain ⟨A1, c1, hv1⟩ := own_slice hR.one
  subst hv1
  have HQ := Lib.hid hQ
  have HR := Lib.hid hR
  have HB := Lib.hid hB
  have HRV2 := Lib.hid hrev
  clear hQ hR hB hrev
  have hf : ∀ w', Below V1.heap.size V1 w' → w'.cell? ⟨gC, 3, none⟩ = some (.slice A1 n c1) ∧ w'.cell? ⟨gD, 0, none⟩ = some (.slice Av mv cv) ∧ w'.cell? ⟨gD, 1, none⟩ = some (.slice Ar mr cr) := fun w' hb => ⟨(HR.out.box.below hb HR.out.box.lt).cell 3, (HB.out.below hb HB.out.lt).cell 0, (HB.out.below hb HB.out.lt).cell 1⟩
  have HF := Lib.hid hf
  clear hf
  obtain ⟨f0, f1, f2⟩ := HF.out V1 (Below.refl _ _)
  refine wp_region_noPanic ?_
  go_region_law (first
    | (refine step_app rfl rfl edtElem (own_below (own_below HR.out.one hS5) ((Below.refl _ _).alloc (Nat.le_refl _) _)) (by simp [Act.eval, Act.put]) (row_new w5 [.string x.path, .int .i64 x.act, .int .i64 x.ty.base, .bool x.ty.k, .bool x.ty.l, .bool x.ty.x, .int .u64 x.sum, .int .i64 x.size, .int .i64 x.base, .string x.frm, .int .i64 x.fnum, .int .i64 x.fence] _ 12 1 rfl (by decide) _ rfl) (by simp [Act.eval, Act.put]) (by simp [Value.oneCell']) (by omega) (by unfold maxLen; omega) (by have := hS5.size; have := HR.out.bel.size; simp; omega) ?_; intro A6 c6' w6 hO6 hG6 hw6; have hbx := (HR.out.box.below (below_next hS5 ((Below.refl _ _).alloc (Nat.le_refl _) _)) HR.out.box.lt).grown hG6 (fun e => HR.out.ne1 e.symm); obtain ⟨b0, g0⟩ := box5f hbx)
    | (go_simp; go_at_call 54; refine (HRV2.out _ (Below.refl _ _).drew).mono ?_; rintro e w5 ⟨rfl, hX5⟩; have hS5 : Below V1.heap.size V1 w5 := (Below.refl _ _).drew.trans hX5; obtain ⟨f5, f6, f7⟩ := HF.out w5 hS5; obtain ⟨f8, f9, f10⟩ := HF.out (w5.alloc (.cells #[.string x.path, .int .i64 x.act, .int .i64 x.ty.base, .bool x.ty.k, .bool x.ty.l, .bool x.ty.x, .int .u64 x.sum, .int .i64 x.size, .int .i64 x.base, .string x.frm, .int .i64 x.fnum, .int .i64 x.fence] 58)) (hS5.alloc hS5.size _)))
  all_goals exact NoPanic.normal (HQ.out _ _ _ _ _ _ _ _ _ _ (HR.out.push (below_next hS5 ((Below.refl _ _).alloc (Nat.le_refl _) _)) hO6 hG6 hw6))
end Go.Proofs.YtmhmnchdhacdbaaGreatDoor
/- history.Valid at a depot of one revision and no record. -/
namespace Go.Proofs.YtmhmnchdhacdbaaGreatDoor
open Go.RowKit
set_option linter.unusedVariables false
set_option linter.unusedSimpArgs false

def CMap (w : World) (B : Nat) : Prop := ∃ f, FMap filV (fun n : Int => Value.int .i64 n) w B f
def RMap (w : World) (B : Nat) : Prop := FMap (fun n : Int => Value.int .i64 n) (fun v : Value => v) w B (fun _ => none)
theorem CMap.below {w w' : World} {B : Nat} (h : CMap w B) (hb : Below w.heap.size w w') : CMap w' B := by obtain ⟨f, h⟩ := h; exact ⟨f, FMap.below h hb⟩
theorem RMap.below {w w' : World} {B : Nat} (h : RMap w B) (hb : Below w.heap.size w w') : RMap w' B := FMap.below h hb
theorem RMap.look {w : World} {B : Nat} (h : RMap w B) (n : Int) : (Instr.lookup 93 (.map (some B)) (.int .i64 n) false).run Tryz.prog w = .ok (.slice none 0 0) w :=
  FMap.lookup h (keyOk_int Tryz.underlying3) Tryz.underlying93 (Tryz.zeroValue26 w) n false

/-- The state of Valid's second loop at one revision: k revisions are made anew. -/
structure VS (w wr : World) (g11 gr : Nat) (dv dr mv mr : Value) (r : Rev) (k : Nat) : Prop where
  bel : Below w.heap.size w wr
  le : w.heap.size ≤ g11
  boxD : Blk wr w.heap.size 28 [dv, dr]
  boxM : Blk wr g11 28 [mv, mr]
  rmap : RMap wr gr
  dep : (k = 0 ∧ mv = .slice none 0 0 ∧ mr = .slice none 0 0) ∨ (k ≠ 0 ∧ Revs wr mv [r] ∧ Rcds wr mr [])
theorem VS.zero {w wr : World} {g11 gr : Nat} {dv dr mv mr : Value} {r : Rev} {k : Nat} (h : VS w wr g11 gr dv dr mv mr r k) (hk : k = 0) : k = 0 ∧ mv = .slice none 0 0 ∧ mr = .slice none 0 0 := by
  rcases h.dep with h | h
  · exact h
  · exact absurd hk h.1

set_option maxRecDepth 100000 in
set_option maxHeartbeats 8000000 in
theorem valid_one (r : Rev) (dv dr : Value) (w : World) (hR : Revs w dv [r]) (hQ : Rcds w dr []) (hn : 0 < r.num ∧ r.num ≤ 1000000) (c0 : Chg) (hc0 : c0 = ⟨r.chg, ⟨#[]⟩, ⟨#[]⟩, [edtOf r], []⟩) (hA : appE ⟨[], []⟩ c0 = 0) (hN : newRevs ⟨[], []⟩ c0 = [r]) (hW : ChgW c0) :
    Calls Tryz.prog 24 #[.agg #[dv, dr]] w fun e w' => e = .returned (.bool true) ∧ Below w.heap.size w w' := by
  obtain ⟨revs, hrevs⟩ : ∃ l, l = [r] := ⟨_, rfl⟩
  have hlen : revs.length = 1 := by rw [hrevs]; rfl
  rw [← hrevs] at hR
  obtain ⟨Ar, cr, rfl, hcr, hmr, -⟩ := id hR
  obtain ⟨Aq, cq, rfl, hcq, hmq, -⟩ := id hQ
  unfold maxLen at hmr hmq
  have HRV := Lib.hid hrevs
  have HR := Lib.hid hR
  have HQ := Lib.hid hQ
  have HLEN := Lib.hid hlen
  have HC0 := Lib.hid hc0
  have HAP := Lib.hid hA
  have HNW := Lib.hid hN
  have HCW := Lib.hid hW
  clear hrevs hR hQ hc0 hA hN hW
  have q1 : decide ((512 : Int) < (revs.length : Int)) = false := by simp; omega
  have hB0 := blk_new w [.slice Ar revs.length cr, .slice Aq 0 cq] 28
  have hb0 : Below w.heap.size w (w.alloc (.cells #[.slice Ar revs.length cr, .slice Aq 0 cq] 28)) := (Below.refl _ _).alloc (Nat.le_refl _) _
  clear hlen
  go_enter Tryz.func24, Tryz.ntmps24
  go_upto_region 1 with fail
  generalize w.alloc (.cells #[.slice Ar revs.length cr, .slice Aq 0 cq] 28) = W1 at hB0 hb0 ⊢
  obtain ⟨d0, d1, -, -⟩ := box2 hB0
  have hmm := @run_makeMap Tryz.prog
  have hM1 := FMap.new filV (fun n : Int => Value.int .i64 n) W1
  have hW2 : Below W1.heap.size W1 (W1.alloc (.map #[] 0)) := (Below.refl _ _).alloc (Nat.le_refl _) _
  go_upto_region 4 with fail
  have hsz1 := hB0.lt
  generalize hg1 : W1.heap.size = gm at hM1 hsz1 ⊢
  have hle1 : w.heap.size ≤ gm := by omega
  have HS1 : Hid (CMap (W1.alloc (.map #[] 0)) gm ∧ Blk (W1.alloc (.map #[] 0)) w.heap.size 28 [.slice Ar revs.length cr, .slice Aq 0 cq] ∧ Below w.heap.size w (W1.alloc (.map #[] 0))) := Lib.hid ⟨⟨_, hM1⟩, hB0.alloc _, hb0.alloc hb0.size _⟩
  clear hM1 d0 d1 hB0 hb0 hW2 hg1
  generalize W1.alloc (.map #[] 0) = W2 at HS1 ⊢
  have d0 : W2.cell? ⟨w.heap.size, 0, none⟩ = some (.slice Ar revs.length cr) := HS1.out.2.1.cell 0
  go_wp2_with fail
  clear d0
  go_loopw [30] (fun s wr => ∃ k : Nat, s = .int .i64 k ∧ k ≤ revs.length ∧ Hid (CMap wr gm ∧ Blk wr w.heap.size 28 [.slice Ar revs.length cr, .slice Aq 0 cq] ∧ Below w.heap.size w wr)) (fun s _ => revs.length - (intOf s).toNat)
  case atStart => exact ⟨0, rfl, Nat.zero_le _, HS1.out⟩
  case round =>
    obtain ⟨k, rfl, hk, HI⟩ := hrel
    by_cases hlt : k < revs.length
    · obtain ⟨ad, rfl, hab, hld⟩ := Revs.at_ (HR.out.below HI.out.2.2) hlt
      generalize revs[k] = x at hld
      obtain ⟨x0, x1, x2, x3, x4, x5, x6, x7, x8, x9, x10, x11⟩ := hld
      have hX := blk_new wr [.string x.path, .int .i64 x.num, .int .i64 x.chg, .int .i64 x.act, .int .i64 x.ty.base, .bool x.ty.k, .bool x.ty.l, .bool x.ty.x, .int .u64 x.sum, .int .i64 x.size, .string x.frm, .int .i64 x.fnum] 36
      have hA1 : Below wr.heap.size wr (wr.alloc (.cells #[.string x.path, .int .i64 x.num, .int .i64 x.chg, .int .i64 x.act, .int .i64 x.ty.base, .bool x.ty.k, .bool x.ty.l, .bool x.ty.x, .int .u64 x.sum, .int .i64 x.size, .string x.frm, .int .i64 x.fnum] 36)) := (Below.refl _ _).alloc (Nat.le_refl _) _
      go_upto_region 7 with fail
      clear x0 x1 x2 x3 x4 x5 x6 x7 x8 x9 x10 x11
      generalize wr.alloc (.cells #[.string x.path, .int .i64 x.num, .int .i64 x.chg, .int .i64 x.act, .int .i64 x.ty.base, .bool x.ty.k, .bool x.ty.l, .bool x.ty.x, .int .u64 x.sum, .int .i64 x.size, .string x.frm, .int .i64 x.fnum] 36) = V1 at hX hA1 ⊢
      obtain ⟨f, hf⟩ := CMap.below HI.out.1 hA1
      obtain ⟨c0', c1', c2', -, -, -, -, -, -, -, -, -⟩ := box12 hX
      obtain ⟨w3, hup, hf3, hg3, hs3⟩ := FMap.update hf keyOk_fil Tryz.underlying90 (x.path, x.num) x.chg
      have hup' : (Instr.mapUpdate 90 (.map (some gm)) (.agg #[.string x.path, .int .i64 x.num]) (.int .i64 x.chg)).run Tryz.prog V1 = .ok () w3 := hup
      have HN : Hid (CMap w3 gm ∧ Blk w3 w.heap.size 28 [.slice (some ad) revs.length cr, .slice Aq 0 cq] ∧ Below w.heap.size w w3) := Lib.hid ⟨⟨_, hf3⟩, (HI.out.2.1.below hA1 HI.out.2.1.lt).turn (FMap.obj hf) hg3, (below_next HI.out.2.2 hA1).grown hg3 (below_next HI.out.2.2 hA1).size (fun j e => by injection e with e; omega)⟩
      clear hup hf hf3 hg3 hs3 hX hA1
      go_wp2_with fail
      go_roundw
      case rel => exact ⟨k + 1, by go_num, by omega, HN.out⟩
      case measure => simp [intOf]; omega
    · have hkk : k = revs.length := by omega
      subst hkk
      generalize wr = W3 at HI ⊢
      have hM2 := FMap.new (fun n : Int => Value.int .i64 n) (fun v : Value => v) W3
      have hR2 : RMap (W3.alloc (.map #[] 0)) W3.heap.size := hM2
      have hA2 : Below W3.heap.size W3 (W3.alloc (.map #[] 0)) := (Below.refl _ _).alloc (Nat.le_refl _) _
      have hmm := @run_makeMap Tryz.prog
      go_upto_region 10 with fail
      generalize W3.alloc (.map #[] 0) = W4 at hM2 hR2 hA2 ⊢
      clear hM2
      have HR2 := Lib.hid hR2
      have HD4 : Hid (Blk W4 w.heap.size 28 [.slice Ar revs.length cr, .slice Aq 0 cq] ∧ Below w.heap.size w W4) := Lib.hid ⟨HI.out.2.1.below hA2 HI.out.2.1.lt, below_next HI.out.2.2 hA2⟩
      have d1 : W4.cell? ⟨w.heap.size, 1, none⟩ = some (.slice Aq 0 cq) := HD4.out.1.cell 1
      clear hR2 hA2 hmm
      go_wp2_with fail
      refine wp_loop_rounds 1 ?_
      rw [rounds_succ]
      go_upto_region 18 with fail
      clear d1
      generalize W3.heap.size = gr at HR2 ⊢
      clear HS1 HI
      have HV4 : Hid (VS w (W4.alloc (.cells #[.slice none 0 0, .slice none 0 0] 28)) W4.heap.size gr (.slice Ar revs.length cr) (.slice Aq 0 cq) (.slice none 0 0) (.slice none 0 0) r 0) := Lib.hid
        ⟨HD4.out.2.alloc HD4.out.2.size _, HD4.out.2.size, HD4.out.1.alloc _, blk_new W4 _ _, HR2.out.below ((Below.refl _ _).alloc (Nat.le_refl _) _), .inl ⟨rfl, rfl, rfl⟩⟩
      have hg11 : w.heap.size < W4.heap.size := HD4.out.1.lt
      go_wp2_with fail
      generalize W4.alloc (.cells #[.slice none 0 0, .slice none 0 0] 28) = W5 at HV4 ⊢
      generalize W4.heap.size = g11 at HV4 hg11 ⊢
      clear HD4 HR2
      go_loopw [12] (fun s wr => ∃ (k : Nat) (mv mr : Value), s = .int .i64 k ∧ k ≤ revs.length ∧ Hid (VS w wr g11 gr (.slice Ar revs.length cr) (.slice Aq 0 cq) mv mr r k)) (fun s _ => revs.length - (intOf s).toNat)
      case atStart => exact ⟨0, _, _, rfl, Nat.zero_le _, HV4.out⟩
      case round =>
        obtain ⟨k, mv, mr, rfl, hk, HI⟩ := hrel
        clear HV4
        by_cases hlt : k < revs.length
        · have hk0 : k = 0 := by have := HLEN.out; omega
          obtain ⟨-, hmv, hmr⟩ := HI.out.zero hk0
          subst hmv hmr
          obtain ⟨ad, rfl, hab, hld⟩ := Revs.at_ (HR.out.below HI.out.bel) hlt
          have hrk : revs[k] = r := by subst hk0; simp [HRV.out]
          rw [hrk] at hld
          obtain ⟨x0, x1, x2, x3, x4, x5, x6, x7, x8, x9, x10, x11⟩ := hld
          have HK0 := Lib.hid hk0
          clear hk0 hrk x0 x1 x3 x4 x5 x6 x7 x8 x9 x10 x11
          have e0 : wr.cell? ⟨w.heap.size, 0, none⟩ = some (.slice (some ad) revs.length cr) := HI.out.boxD.cell 0
          have hX := blk_new wr [.int .i64 r.chg, .string ⟨#[]⟩, .string ⟨#[]⟩, .slice none 0 0, .slice none 0 0] 56
          have hA1 : Below wr.heap.size wr (wr.alloc (.cells #[.int .i64 r.chg, .string ⟨#[]⟩, .string ⟨#[]⟩, .slice none 0 0, .slice none 0 0] 56)) := (Below.refl _ _).alloc (Nat.le_refl _) _
          go_upto_region 22 with fail
          clear x2 e0
          have HVE : Hid (VE wr (wr.alloc (.cells #[.int .i64 r.chg, .string ⟨#[]⟩, .string ⟨#[]⟩, .slice none 0 0, .slice none 0 0] 56)) wr.heap.size r.chg (.slice none 0 0) 0 []) := Lib.hid ⟨hA1, Nat.le_refl _, hX, World.ownsRow_nil _ _ _ _, fun e => by cases e⟩
          generalize wr.alloc (.cells #[.int .i64 r.chg, .string ⟨#[]⟩, .string ⟨#[]⟩, .slice none 0 0, .slice none 0 0] 56) = V1 at hX hA1 HVE ⊢
          clear hX hA1
          generalize wr = U at HI HVE hab ⊢
          go_loopw [12] (fun s wy => ∃ (j : Nat) (v1 : Value) (es : List Edt), s = .int .i64 j ∧ j ≤ revs.length ∧ Hid (es = (revs.take j).map edtOf ∧ VE U wy U.heap.size r.chg v1 es.length (es.flatMap Edt.cells))) (fun s _ => revs.length - (intOf s).toNat)
          case atStart => exact ⟨k, _, [], rfl, hk, by rw [HK0.out]; rfl, HVE.out⟩
          case round =>
            obtain ⟨j, v1, es, rfl, hj, HJ⟩ := hrel
            clear HVE
            have hbU := below_next HI.out.bel HJ.out.2.bel
            have e0 : wr.cell? ⟨w.heap.size, 0, none⟩ = some (.slice (some ad) revs.length cr) := (HI.out.boxD.below HJ.out.2.bel HI.out.boxD.lt).cell 0
            have e1 : wr.cell? ⟨U.heap.size, 0, none⟩ = some (.int .i64 r.chg) := HJ.out.2.box.cell 0
            by_cases hjl : j < revs.length
            · obtain ⟨ad', had, hab', hld⟩ := Revs.at_ (HR.out.below hbU) hjl
              injection had with had
              subst had
              have hrj : revs[j] = r := by have := HLEN.out; have hj0 : j = 0 := by omega
                                           subst hj0; simp [HRV.out]
              rw [hrj] at hld
              have x2 := hld.2.2.1
              have HRJ := Lib.hid hrj
              have HBU := Lib.hid hbU
              have d1 : decide (j < revs.length) = true := by simp; omega
              clear hld hrj hbU
              go_wp2_with fail
              go_quiet (fail)
              clear x2 e0 e1
              have HJ2 := Lib.hid (HJ.out.2.under (below_dN (Below.refl wr.heap.size wr) nq))
              have HD2 : Hid (Blk (wr.drewN nq) w.heap.size 28 [.slice (some ad) revs.length cr, .slice Aq 0 cq]) := Lib.hid (HI.out.boxD.below HJ2.out.bel HI.out.boxD.lt)
              have HEO := Lib.hid (fun X (hX : Below (wr.drewN nq).heap.size (wr.drewN nq) X) => editOf_any revs j (.slice (some ad) revs.length cr) (.slice Aq 0 cq) X (HR.out.below (below_next (below_dN HBU.out nq) hX)) hjl r HRJ.out hn)
              have hes : es.length ≤ 100000 := by have := HLEN.out; rw [HJ.out.1, List.length_map, List.length_take]; omega
              generalize wr.drewN nq = wz at HJ2 HD2 HEO ⊢
              go_upto_region 24 with fail
              refine region24 _ (by kernel_rfl) _ w.heap.size U.heap.size es.length j r.chg (edtOf r) v1 (.slice (some ad) revs.length cr) (.slice Aq 0 cq) _ U wz HJ2.out HD2.out ⟨⟨_, _, _, rfl⟩, _, _, _, rfl⟩ hes HEO.out _ _ _ _ _ _ _ _ _ _ _ _ _ _ _ _ _ _ _ _ _ _ _ _ _ _ _ _ _ _ _ _ _ _ _ _ _ _ _ _ _ _ _ _ _ _ _ _ _ _ _ _ _ _ _ _ _ _ _ _ _ _ _ _ _ _ _ _ _ _ _ _ _ _ _ _ _ _ _ _ _ _ _ _ _ _ _ _ _ _ _ _ _ _ _ _ _ _ _ _ _ _ _ _ _ _ _ _ _ _ _ _ _ _ _ _ _ _ _ _ _ _ _ _ _ _ _ _ _ _ _ _ _ ?_
              intro t102 t103 t104 t105 t106 t107 t108 t109 v3 w6 HQ2
              go_wp2_with fail
              go_roundw
              case rel =>
                refine ⟨j + 1, v3, es ++ [edtOf r], by go_num, by omega, ?_, ?_⟩
                · rw [List.take_succ_eq_append_getElem hjl, List.map_append, HRJ.out, HJ.out.1]; rfl
                · have := HQ2.out
                  rw [List.length_append, List.flatMap_append, List.flatMap_cons, List.flatMap_nil, List.append_nil]
                  exact this
              case measure => simp [intOf]; omega
            · have d1 : decide (j < revs.length) = false := by simp; omega
              have HES : Hid (es = [edtOf r]) := Lib.hid (by rw [HJ.out.1, List.take_of_length_le (by omega), HRV.out]; rfl)
              clear hbU
              go_wp2_with fail
              go_quiet (fail)
              clear e0 e1
              have hes := HES.out
              subst hes
              have HJ2 : Hid (VE U (wr.drewN nq) U.heap.size r.chg v1 1 (edtOf r).cells) := Lib.hid (by have := HJ.out.2.under (below_dN (Below.refl wr.heap.size wr) nq); simpa using this)
              clear HJ HES
              generalize wr.drewN nq = wz at HJ2 ⊢
              obtain ⟨A1, c1, hv1⟩ := own_slice HJ2.out.one
              subst hv1
              have hUz := HJ2.out.bel
              have hg11U : g11 < U.heap.size := HI.out.boxM.lt
              have hlk := RMap.look (HI.out.rmap.below hUz) r.chg
              have e1 : wz.cell? ⟨U.heap.size, 0, none⟩ = some (.int .i64 r.chg) := HJ2.out.box.cell 0
              have e4 : wz.cell? ⟨U.heap.size, 4, none⟩ = some (.slice none 0 0) := HJ2.out.box.cell 4
              have f4 : wz.frozen? ⟨U.heap.size, 4, none⟩ = false := HJ2.out.box.frozen 4
              have HC2 : Hid (Blk (wz.setCell ⟨U.heap.size, 4, none⟩ (.slice none 0 0)) U.heap.size 56 [.int .i64 r.chg, .string ⟨#[]⟩, .string ⟨#[]⟩, .slice A1 1 c1, .slice none 0 0]) := Lib.hid (HJ2.out.box.set_ 4 _)
              have HO2 : Hid (Row (wz.setCell ⟨U.heap.size, 4, none⟩ (.slice none 0 0)) 12 (.slice A1 1 c1) 1 (edtOf r).cells) := Lib.hid (Row.of_own (own_setCell HJ2.out.one (p := ⟨U.heap.size, 4, none⟩) HJ2.out.ne1 _))
              have HU2 : Hid (Below U.heap.size U (wz.setCell ⟨U.heap.size, 4, none⟩ (.slice none 0 0))) := Lib.hid (hUz.setCell (p := ⟨U.heap.size, 4, none⟩) (Nat.le_refl _) _)
              clear hUz
              go_upto_region 26 with fail
              clear hlk e1 e4 f4 HJ2
              generalize wz.setCell ⟨U.heap.size, 4, none⟩ (.slice none 0 0) = w2 at HC2 HO2 HU2 ⊢
              have HM2 := Lib.hid (HI.out.boxM.below HU2.out HI.out.boxM.lt)
              obtain ⟨m0, m1, -, -⟩ := box2 HM2.out
              obtain ⟨y0, y1, y2, y3, y4⟩ := box5 HC2.out
              have hc0' := HC0.out
              subst hc0'
              have HAA := Lib.hid (append_any ⟨[], []⟩ ⟨r.chg, ⟨#[]⟩, ⟨#[]⟩, [edtOf r], []⟩ (.slice none 0 0) (.slice none 0 0) (.slice A1 1 c1) (.slice none 0 0) w2 (Revs.nil_ _) (Rcds.nil_ _) (by unfold Edts; simpa using HO2.out) (Rcds.nil_ _) depW_nil HCW.out)
              go_wp2_with fail
              refine HAA.out.mono ?_
              rintro e V2 ⟨hb2, ⟨hn0, rfl⟩ | ⟨h0, dv', dr', rs, rfl, hR', hQ', hpm', hpw', hf1, hf2⟩⟩
              · exact absurd HAP.out hn0
              · clear m0 m1 y0 y1 y2 y3 y4
                have hrs : rs = [] := by simpa using hpm'
                subst hrs
                rw [HNW.out] at hR'
                obtain ⟨A5, c5, rfl, -⟩ := id hR'
                obtain ⟨A6, c6, rfl, -⟩ := id hQ'
                have hR1 : Revs V2 (.slice A5 1 c5) [r] := hR'
                have hQ1 : Rcds V2 (.slice A6 0 c6) [] := hQ'
                have hUV := below_next HU2.out hb2
                have hle2 := HU2.out.size
                have h3a := (HI.out.boxM.below hUV HI.out.boxM.lt).alloc (.cells #[.slice A5 1 c5, .slice A6 0 c6] 28)
                have hUa : Below U.heap.size U (V2.alloc (.cells #[.slice A5 1 c5, .slice A6 0 c6] 28)) := hUV.alloc hUV.size _
                have hx6 := blk_new V2 [.slice A5 1 c5, .slice A6 0 c6] 28
                have hr6 := hR1.below ((Below.refl _ _).alloc (Nat.le_refl _) (.cells #[.slice A5 1 c5, .slice A6 0 c6] 28))
                have hq6 := hQ1.below ((Below.refl _ _).alloc (Nat.le_refl _) (.cells #[.slice A5 1 c5, .slice A6 0 c6] 28))
                have HFR : Hid (Fresh w2.heap.size (.slice A5 1 c5) ∧ Fresh w2.heap.size (.slice A6 0 c6)) := Lib.hid ⟨hf1, hf2⟩
                clear hR' hQ' hR1 hQ1 hpm' hpw' hf1 hf2 hb2 hUV h0
                go_upto_region 27 with fail
                generalize V2.alloc (.cells #[.slice A5 1 c5, .slice A6 0 c6] 28) = V3 at h3a hUa hx6 hr6 hq6 ⊢
                obtain ⟨z0, z1, f0, f1⟩ := box2 h3a
                obtain ⟨w0, w1, -, -⟩ := box2 hx6
                have HUA := Lib.hid hUa
                have H3A := Lib.hid h3a
                have HR6 := Lib.hid hr6
                have HQ6 := Lib.hid hq6
                clear hUa h3a hr6 hq6 hx6
                go_wp2_with fail
                go_roundw
                case rel =>
                  have n1 : (Value.slice A5 1 c5).ownBlock ≠ some g11 := fun e => by have := HFR.out.1 _ e; omega
                  have n2 : (Value.slice A6 0 c6).ownBlock ≠ some g11 := fun e => by have := HFR.out.2 _ e; omega
                  have hbw := below_next HI.out.bel HUA.out
                  refine ⟨j, .slice A5 1 c5, .slice A6 0 c6, rfl, hj, (hbw.setCell (p := ⟨g11, 0, none⟩) (by simp; omega) _).setCell (p := ⟨g11, 1, none⟩) (by simp; omega) _, HI.out.le, ?_, (H3A.out.set_ 0 _).set_ 1 _, ?_, .inr ⟨by have := HLEN.out; omega, Row.setCell_far (Row.setCell_far HR6.out n1) n1, Row.setCell_far (Row.setCell_far HQ6.out n2) n2⟩⟩
                  · exact ((HI.out.boxD.below HUA.out HI.out.boxD.lt).far (p := ⟨g11, 0, none⟩) (by simp; omega) _).far (p := ⟨g11, 1, none⟩) (by simp; omega) _
                  · have hm := HI.out.rmap.below HUA.out
                    have hob := FMap.obj hm
                    have hne : gr ≠ g11 := fun e => by
                      obtain ⟨es', c', ho⟩ := hob
                      have hb := H3A.out
                      unfold Blk at hb
                      rw [← e, ho] at hb
                      cases hb
                    exact FMap.keep (FMap.keep hm (Below.heap_setCell _ _ _ _ hne)) (Below.heap_setCell _ _ _ _ hne)
                case measure => simp [intOf]; have := HLEN.out; have := HK0.out; omega
        · have hkk : k = revs.length := by omega
          have hk0 : k ≠ 0 := by have := HLEN.out; omega
          have hdep : Revs wr mv [r] ∧ Rcds wr mr [] := by
            rcases HI.out.dep with h | h
            · exact absurd h.1 hk0
            · exact h.2
          obtain ⟨A5, c5, rfl, -⟩ := id hdep.1
          obtain ⟨A6, c6, rfl, -⟩ := id hdep.2
          have hRw := HR.out.below HI.out.bel
          have hd1 : Revs wr (.slice A5 1 c5) [r] := hdep.1
          have hd2 : Rcds wr (.slice A6 0 c6) [] := hdep.2
          have hQw : Rcds wr (.slice Aq 0 cq) [] := HQ.out.below HI.out.bel
          have hE1 := equal_rev [r] revs (.slice A5 1 c5) (.slice Ar revs.length cr) wr hd1 hRw
          rw [show decide ([r] = revs) = true by simp [HRV.out]] at hE1
          have HE1 := Lib.hid hE1
          have HE2 := Lib.hid (fun X (hX : Below wr.heap.size wr X) => equal_rcd [] [] (.slice A6 0 c6) (.slice Aq 0 cq) X (hd2.below hX) (hQw.below hX))
          have e0 : wr.cell? ⟨w.heap.size, 0, none⟩ = some (.slice Ar revs.length cr) := HI.out.boxD.cell 0
          have m0 : wr.cell? ⟨g11, 0, none⟩ = some (.slice A5 1 c5) := HI.out.boxM.cell 0
          have dlt : decide (k < revs.length) = false := by simp; omega
          clear hkk hk0 hdep hRw hd1 hd2 hQw hE1
          go_wp2_with fail
          refine HE1.out.mono ?_
          rintro e w7 ⟨rfl, hb7⟩
          have e1 : w7.cell? ⟨w.heap.size, 1, none⟩ = some (.slice Aq 0 cq) := (HI.out.boxD.below hb7 HI.out.boxD.lt).cell 1
          have m1 : w7.cell? ⟨g11, 1, none⟩ = some (.slice A6 0 c6) := (HI.out.boxM.below hb7 HI.out.boxM.lt).cell 1
          have HE3 := Lib.hid (HE2.out w7 hb7)
          have HB7 := Lib.hid hb7
          clear hb7 e0 m0
          go_wp2_with fail
          refine HE3.out.mono ?_
          rintro e w8 ⟨rfl, hb8⟩
          have HB8 := Lib.hid hb8
          clear hb8 e1 m1
          go_wp2_with fail
          go_ret
          exact ⟨rfl, below_next HI.out.bel (below_next HB7.out HB8.out)⟩
end Go.Proofs.YtmhmnchdhacdbaaGreatDoor
/- greatest at At and Last. -/
namespace Go.Proofs.YtmhmnchdhacdbaaGreatDoor
open Go.RowKit
set_option linter.unusedVariables false
set_option linter.unusedSimpArgs false

set_option maxRecDepth 100000 in
set_option maxHeartbeats 1000000 in
theorem at_fn (m : Int) (B : Nat) (r : Rev) (w : World) (hB : w.cell? ⟨B, 0, none⟩ = some (.int .i64 m)) : Calls Tryz.prog 29 #[.agg #[.string r.path, .int .i64 r.num, .int .i64 r.chg, .int .i64 r.act, .int .i64 r.ty.base, .bool r.ty.k, .bool r.ty.l, .bool r.ty.x, .int .u64 r.sum, .int .i64 r.size, .string r.frm, .int .i64 r.fnum], .pointer (some ⟨B, 0, none⟩)] w fun e w' => e = .returned (.bool ((fun v : Rev => decide (v.chg ≤ m)) r)) ∧ Below w.heap.size w w' := by
  have hBl := cell_lt hB
  go_enter Tryz.func29, Tryz.ntmps29
  go_wp2_with fail
  go_ret
  exact ⟨ret_bool (rfl), (Below.refl _ _).alloc (Nat.le_refl _) _⟩

set_option maxRecDepth 100000 in
set_option maxHeartbeats 8000000 in
theorem greatest_at (revs : List Rev) (q : ByteArray) (m : Int) (B : Nat) (dv dr : Value) (w : World) (hR : Revs w dv revs) (hB : w.cell? ⟨B, 0, none⟩ = some (.int .i64 m)) (hl : revs.length ≤ 1000000) :
    Calls Tryz.prog 26 #[.agg #[dv, dr], .string q, .func (.func 29) #[] #[.pointer (some ⟨B, 0, none⟩)]] w
      fun e w' => e = .returned (.tuple #[.agg #[.string (someR (greatest revs q (fun v : Rev => decide (v.chg ≤ m)))).path, .int .i64 (someR (greatest revs q (fun v : Rev => decide (v.chg ≤ m)))).num, .int .i64 (someR (greatest revs q (fun v : Rev => decide (v.chg ≤ m)))).chg, .int .i64 (someR (greatest revs q (fun v : Rev => decide (v.chg ≤ m)))).act, .int .i64 (someR (greatest revs q (fun v : Rev => decide (v.chg ≤ m)))).ty.base, .bool (someR (greatest revs q (fun v : Rev => decide (v.chg ≤ m)))).ty.k, .bool (someR (greatest revs q (fun v : Rev => decide (v.chg ≤ m)))).ty.l, .bool (someR (greatest revs q (fun v : Rev => decide (v.chg ≤ m)))).ty.x, .int .u64 (someR (greatest revs q (fun v : Rev => decide (v.chg ≤ m)))).sum, .int .i64 (someR (greatest revs q (fun v : Rev => decide (v.chg ≤ m)))).size, .string (someR (greatest revs q (fun v : Rev => decide (v.chg ≤ m)))).frm, .int .i64 (someR (greatest revs q (fun v : Rev => decide (v.chg ≤ m)))).fnum], .bool (greatest revs q (fun v : Rev => decide (v.chg ≤ m))).isSome]) ∧ Below w.heap.size w w' := by
  obtain ⟨Ar, cr, rfl, hcr, hmr, -⟩ := id hR
  have HR := Lib.hid hR
  clear hR
  unfold maxLen at hmr
  rw [greatest_eq]
  have HF := Lib.hid (fun (r : Rev) (W : World) (hb : Below w.heap.size w W) => at_fn m B r W (cell_below hB hb (cell_lt hB)))
  have hb0 : Below w.heap.size w (((w.alloc (.cells #[.slice Ar revs.length cr, dr] 28)).alloc (.cells #[.string ⟨#[]⟩, .int .i64 0, .int .i64 0, .int .i64 0, .int .i64 0, .bool false, .bool false, .bool false, .int .u64 0, .int .i64 0, .string ⟨#[]⟩, .int .i64 0] 36)).alloc (.cells #[.string ⟨#[]⟩, .int .i64 0, .int .i64 0, .int .i64 0, .int .i64 0, .bool false, .bool false, .bool false, .int .u64 0, .int .i64 0, .string ⟨#[]⟩, .int .i64 0] 36)) := (((Below.refl _ _).alloc (Nat.le_refl _) _).alloc (by simp) _).alloc (by simp; omega) _
  generalize (fun v : Rev => decide (v.chg ≤ m)) = p at HF ⊢
  go_enter Tryz.func26, Tryz.ntmps26
  go_wp2_with fail
  go_loopw [9, 15] (fun o i wr => ∃ (k : Nat), k ≤ revs.length ∧ i = .int .i64 k ∧ Below w.heap.size w wr ∧ o = .bool ((revs.take k).foldl (gStep q p) none).isSome ∧ Blk wr (w.heap.size + 1) 36 [.string ⟨#[]⟩, .int .i64 0, .int .i64 0, .int .i64 0, .int .i64 0, .bool false, .bool false, .bool false, .int .u64 0, .int .i64 0, .string ⟨#[]⟩, .int .i64 0] ∧ Blk wr (w.heap.size + 1 + 1) 36 [.string (someR ((revs.take k).foldl (gStep q p) none)).path, .int .i64 (someR ((revs.take k).foldl (gStep q p) none)).num, .int .i64 (someR ((revs.take k).foldl (gStep q p) none)).chg, .int .i64 (someR ((revs.take k).foldl (gStep q p) none)).act, .int .i64 (someR ((revs.take k).foldl (gStep q p) none)).ty.base, .bool (someR ((revs.take k).foldl (gStep q p) none)).ty.k, .bool (someR ((revs.take k).foldl (gStep q p) none)).ty.l, .bool (someR ((revs.take k).foldl (gStep q p) none)).ty.x, .int .u64 (someR ((revs.take k).foldl (gStep q p) none)).sum, .int .i64 (someR ((revs.take k).foldl (gStep q p) none)).size, .string (someR ((revs.take k).foldl (gStep q p) none)).frm, .int .i64 (someR ((revs.take k).foldl (gStep q p) none)).fnum]) (fun _ i _ => revs.length - (intOf i).toNat)
  case atStart =>
    refine ⟨0, Nat.zero_le _, rfl, hb0, rfl, ?_, ?_⟩
    · have := blk_new (w.alloc (.cells #[.slice Ar revs.length cr, dr] 28)) [.string ⟨#[]⟩, .int .i64 0, .int .i64 0, .int .i64 0, .int .i64 0, .bool false, .bool false, .bool false, .int .u64 0, .int .i64 0, .string ⟨#[]⟩, .int .i64 0] 36
      have := this.alloc (.cells #[.string ⟨#[]⟩, .int .i64 0, .int .i64 0, .int .i64 0, .int .i64 0, .bool false, .bool false, .bool false, .int .u64 0, .int .i64 0, .string ⟨#[]⟩, .int .i64 0] 36)
      simpa using this
    · have := blk_new ((w.alloc (.cells #[.slice Ar revs.length cr, dr] 28)).alloc (.cells #[.string ⟨#[]⟩, .int .i64 0, .int .i64 0, .int .i64 0, .int .i64 0, .bool false, .bool false, .bool false, .int .u64 0, .int .i64 0, .string ⟨#[]⟩, .int .i64 0] 36)) [.string ⟨#[]⟩, .int .i64 0, .int .i64 0, .int .i64 0, .int .i64 0, .bool false, .bool false, .bool false, .int .u64 0, .int .i64 0, .string ⟨#[]⟩, .int .i64 0] 36
      simp only [World.size_alloc] at this
      exact this
  case round =>
    obtain ⟨k, hk, rfl, hbr, rfl, hZ, hF⟩ := hrel
    by_cases hlt : k < revs.length
    · obtain ⟨ad, rfl, hab, hld⟩ := Revs.at_ (HR.out.below hbr) hlt
      have HT := Lib.hid (show revs.take (k + 1) = revs.take k ++ [revs[k]] from List.take_succ_eq_append_getElem hlt)
      have HG : Hid ((revs.take (k + 1)).foldl (gStep q p) none = gStep q p ((revs.take k).foldl (gStep q p) none) revs[k]) := Lib.hid (by rw [HT.out, List.foldl_append]; rfl)
      generalize revs[k] = r at hld HT HG
      generalize (revs.take k).foldl (gStep q p) none = o at hF HG
      obtain ⟨x0, x1, x2, x3, x4, x5, x6, x7, x8, x9, x10, x11⟩ := hld
      have hbx := hbr.alloc hbr.size (.cells #[.string r.path, .int .i64 r.num, .int .i64 r.chg, .int .i64 r.act, .int .i64 r.ty.base, .bool r.ty.k, .bool r.ty.l, .bool r.ty.x, .int .u64 r.sum, .int .i64 r.size, .string r.frm, .int .i64 r.fnum] 36)
      have hZx := hZ.alloc (.cells #[.string r.path, .int .i64 r.num, .int .i64 r.chg, .int .i64 r.act, .int .i64 r.ty.base, .bool r.ty.k, .bool r.ty.l, .bool r.ty.x, .int .u64 r.sum, .int .i64 r.size, .string r.frm, .int .i64 r.fnum] 36)
      have hFx := hF.alloc (.cells #[.string r.path, .int .i64 r.num, .int .i64 r.chg, .int .i64 r.act, .int .i64 r.ty.base, .bool r.ty.k, .bool r.ty.l, .bool r.ty.x, .int .u64 r.sum, .int .i64 r.size, .string r.frm, .int .i64 r.fnum] 36)
      have hX := blk_new wr [.string r.path, .int .i64 r.num, .int .i64 r.chg, .int .i64 r.act, .int .i64 r.ty.base, .bool r.ty.k, .bool r.ty.l, .bool r.ty.x, .int .u64 r.sum, .int .i64 r.size, .string r.frm, .int .i64 r.fnum] 36
      by_cases hp : r.path = q
      · have HC := Lib.hid (HF.out r (wr.alloc (.cells #[.string r.path, .int .i64 r.num, .int .i64 r.chg, .int .i64 r.act, .int .i64 r.ty.base, .bool r.ty.k, .bool r.ty.l, .bool r.ty.x, .int .u64 r.sum, .int .i64 r.size, .string r.frm, .int .i64 r.fnum] 36)) hbx)
        cases hpr : p r
        · rw [hpr] at HC
          have HS : Hid (gStep q p o r = o) := Lib.hid (by unfold gStep; rw [hpr]; simp)
          clear hpr
          subst hp
          go_wp2_with fail
          refine HC.out.mono ?_
          rintro e w2 ⟨rfl, hb2⟩
          go_wp2_with fail
          go_roundw
          case rel => exact ⟨k + 1, by omega, by go_num, below_next hbx hb2, by rw [HG.out, HS.out], hZx.below hb2 hZx.lt, by rw [HG.out, HS.out]; exact hFx.below hb2 hFx.lt⟩
          case measure => simp [intOf]; omega
        · rw [hpr] at HC
          have hnew : ∀ b : Bool, o.isSome = false ∨ (someR o).num < r.num → gStep q p o r = some r := by
            intro b h
            unfold gStep
            rw [if_pos ⟨hp, hpr⟩]
            cases o with
            | none => rfl
            | some x => rcases h with h | h
                        · cases h
                        · exact if_pos h
          have hold : o.isSome = true → ¬ (someR o).num < r.num → gStep q p o r = o := by
            intro h1 h2
            unfold gStep
            rw [if_pos ⟨hp, hpr⟩]
            cases o with
            | none => cases h1
            | some x => exact if_neg h2
          clear hpr
          subst hp
          by_cases hn : o.isSome = false ∨ (someR o).num < r.num
          · have HS := Lib.hid (hnew true hn)
            clear hnew hold
            cases hos : o.isSome
            · clear hn
              go_wp2_with fail
              refine HC.out.mono ?_
              rintro e w2 ⟨rfl, hb2⟩
              have hX2 := hX.below hb2 hX.lt
              have hF2 := hFx.below hb2 hFx.lt
              have hZ2 := hZx.below hb2 hZx.lt
              have hbw2 := below_next hbx hb2
              obtain ⟨c0, c1, c2, c3, c4, c5, c6, c7, c8, c9, c10, c11⟩ := box12 hX2
              obtain ⟨f0, f1, f2, f3, f4, f5, f6, f7, f8, f9, f10, f11⟩ := box12 hF2
              obtain ⟨y0, y1, y2, y3, y4, y5, y6, y7, y8, y9, y10, y11⟩ := frz12 hF2
              clear hb2
              have hF3 := set12 hF2 r
              have hB3 := below12 hbw2 (show w.heap.size ≤ w.heap.size + 1 + 1 by omega) r
              have hZ3 := far12 hZ2 (show w.heap.size + 1 + 1 ≠ w.heap.size + 1 by omega) r
              go_wp2_with fail
              go_roundw
              case rel => exact ⟨k + 1, by omega, by go_num, hB3, by rw [HG.out, HS.out]; rfl, hZ3, by rw [HG.out, HS.out]; exact hF3⟩
              case measure => simp [intOf]; omega
            · have hn2 : (someR o).num < r.num := by rcases hn with h | h; (rw [hos] at h; cases h); exact h
              clear hn
              go_wp2_with fail
              refine HC.out.mono ?_
              rintro e w2 ⟨rfl, hb2⟩
              have hX2 := hX.below hb2 hX.lt
              have hF2 := hFx.below hb2 hFx.lt
              have hZ2 := hZx.below hb2 hZx.lt
              have hbw2 := below_next hbx hb2
              obtain ⟨c0, c1, c2, c3, c4, c5, c6, c7, c8, c9, c10, c11⟩ := box12 hX2
              obtain ⟨f0, f1, f2, f3, f4, f5, f6, f7, f8, f9, f10, f11⟩ := box12 hF2
              obtain ⟨y0, y1, y2, y3, y4, y5, y6, y7, y8, y9, y10, y11⟩ := frz12 hF2
              clear hb2
              have hF3 := set12 hF2 r
              have hB3 := below12 hbw2 (show w.heap.size ≤ w.heap.size + 1 + 1 by omega) r
              have hZ3 := far12 hZ2 (show w.heap.size + 1 + 1 ≠ w.heap.size + 1 by omega) r
              go_wp2_with fail
              go_roundw
              case rel => exact ⟨k + 1, by omega, by go_num, hB3, by rw [HG.out, HS.out]; rfl, hZ3, by rw [HG.out, HS.out]; exact hF3⟩
              case measure => simp [intOf]; omega
          · rw [not_or] at hn
            have hos : o.isSome = true := by
              cases h : o.isSome
              · exact absurd h hn.1
              · rfl
            have hn2 : ¬ (someR o).num < r.num := hn.2
            have HS := Lib.hid (hold hos hn2)
            clear hnew hold hn
            go_wp2_with fail
            refine HC.out.mono ?_
            rintro e w2 ⟨rfl, hb2⟩
            have hX2 := hX.below hb2 hX.lt
            have hF2 := hFx.below hb2 hFx.lt
            have hZ2 := hZx.below hb2 hZx.lt
            have hbw2 := below_next hbx hb2
            obtain ⟨c0, c1, c2, c3, c4, c5, c6, c7, c8, c9, c10, c11⟩ := box12 hX2
            obtain ⟨f0, f1, f2, f3, f4, f5, f6, f7, f8, f9, f10, f11⟩ := box12 hF2
            clear hb2
            go_wp2_with fail
            go_roundw
            case rel => exact ⟨k + 1, by omega, by go_num, hbw2, by rw [HG.out, HS.out, hos], hZ2, by rw [HG.out, HS.out]; exact hF2⟩
            case measure => simp [intOf]; omega
      · have HS : Hid (gStep q p o r = o) := Lib.hid (by unfold gStep; rw [if_neg (fun h => hp h.1)])
        have sq := str_eqB r.path q
        rw [show decide (r.path = q) = false by simpa using hp] at sq
        clear hp
        go_wp2_with fail
        go_roundw
        case rel => exact ⟨k + 1, by omega, by go_num, hbx, by rw [HG.out, HS.out], hZx, by rw [HG.out, HS.out]; exact hFx⟩
        case measure => simp [intOf]; omega
    · rw [List.take_of_length_le (by omega)] at hF ⊢
      obtain ⟨o, ho⟩ : ∃ o, revs.foldl (gStep q p) none = o := ⟨_, rfl⟩
      rw [ho] at hF ⊢
      obtain ⟨r, hr⟩ : ∃ r, someR o = r := ⟨_, rfl⟩
      rw [hr] at hF
      have HO := Lib.hid ho
      have HR2 := Lib.hid hr
      clear ho hr
      obtain ⟨f0, f1, f2, f3, f4, f5, f6, f7, f8, f9, f10, f11⟩ := box12 hF
      obtain ⟨z0, z1, z2, z3, z4, z5, z6, z7, z8, z9, z10, z11⟩ := box12 hZ
      obtain ⟨y0, y1, y2, y3, y4, y5, y6, y7, y8, y9, y10, y11⟩ := frz12 hZ
      go_wp2_with fail
      have hZ3 := set12 hZ r
      have hB3 := below12 hbr (show w.heap.size ≤ w.heap.size + 1 by omega) r
      generalize ((((((((((((wr.setCell ⟨w.heap.size + 1, 0, none⟩ (.string r.path)).setCell ⟨w.heap.size + 1, 1, none⟩ (.int .i64 r.num)).setCell ⟨w.heap.size + 1, 2, none⟩ (.int .i64 r.chg)).setCell ⟨w.heap.size + 1, 3, none⟩ (.int .i64 r.act)).setCell ⟨w.heap.size + 1, 4, none⟩ (.int .i64 r.ty.base)).setCell ⟨w.heap.size + 1, 5, none⟩ (.bool r.ty.k)).setCell ⟨w.heap.size + 1, 6, none⟩ (.bool r.ty.l)).setCell ⟨w.heap.size + 1, 7, none⟩ (.bool r.ty.x)).setCell ⟨w.heap.size + 1, 8, none⟩ (.int .u64 r.sum)).setCell ⟨w.heap.size + 1, 9, none⟩ (.int .i64 r.size)).setCell ⟨w.heap.size + 1, 10, none⟩ (.string r.frm)).setCell ⟨w.heap.size + 1, 11, none⟩ (.int .i64 r.fnum)) = W3 at hZ3 hB3 ⊢
      obtain ⟨e0, e1, e2, e3, e4, e5, e6, e7, e8, e9, e10, e11⟩ := box12 hZ3
      exact bodyPost_ret (v := .tuple #[.agg #[.string r.path, .int .i64 r.num, .int .i64 r.chg, .int .i64 r.act, .int .i64 r.ty.base, .bool r.ty.k, .bool r.ty.l, .bool r.ty.x, .int .u64 r.sum, .int .i64 r.size, .string r.frm, .int .i64 r.fnum], .bool o.isSome]) (by simp [results, Tryz.results26, go_sem, e0, e1, e2, e3, e4, e5, e6, e7, e8, e9, e10, e11]) rfl ⟨by rw [HO.out, HR2.out], hB3⟩
set_option maxRecDepth 100000 in
set_option maxHeartbeats 1000000 in
theorem last_fn (r : Rev) (w : World) : Calls Tryz.prog 27 #[.agg #[.string r.path, .int .i64 r.num, .int .i64 r.chg, .int .i64 r.act, .int .i64 r.ty.base, .bool r.ty.k, .bool r.ty.l, .bool r.ty.x, .int .u64 r.sum, .int .i64 r.size, .string r.frm, .int .i64 r.fnum]] w fun e w' => e = .returned (.bool ((fun _ : Rev => true) r)) ∧ Below w.heap.size w w' := by
  go_enter Tryz.func27, Tryz.ntmps27
  go_wp2_with fail
  go_ret
  exact ⟨ret_bool (rfl), (Below.refl _ _).alloc (Nat.le_refl _) _⟩

set_option maxRecDepth 100000 in
set_option maxHeartbeats 8000000 in
theorem greatest_last (revs : List Rev) (q : ByteArray) (dv dr : Value) (w : World) (hR : Revs w dv revs) (hl : revs.length ≤ 1000000) :
    Calls Tryz.prog 26 #[.agg #[dv, dr], .string q, .func (.func 27) #[] #[]] w
      fun e w' => e = .returned (.tuple #[.agg #[.string (someR (greatest revs q (fun _ : Rev => true))).path, .int .i64 (someR (greatest revs q (fun _ : Rev => true))).num, .int .i64 (someR (greatest revs q (fun _ : Rev => true))).chg, .int .i64 (someR (greatest revs q (fun _ : Rev => true))).act, .int .i64 (someR (greatest revs q (fun _ : Rev => true))).ty.base, .bool (someR (greatest revs q (fun _ : Rev => true))).ty.k, .bool (someR (greatest revs q (fun _ : Rev => true))).ty.l, .bool (someR (greatest revs q (fun _ : Rev => true))).ty.x, .int .u64 (someR (greatest revs q (fun _ : Rev => true))).sum, .int .i64 (someR (greatest revs q (fun _ : Rev => true))).size, .string (someR (greatest revs q (fun _ : Rev => true))).frm, .int .i64 (someR (greatest revs q (fun _ : Rev => true))).fnum], .bool (greatest revs q (fun _ : Rev => true)).isSome]) ∧ Below w.heap.size w w' := by
  obtain ⟨Ar, cr, rfl, hcr, hmr, -⟩ := id hR
  have HR := Lib.hid hR
  clear hR
  unfold maxLen at hmr
  rw [greatest_eq]
  have HF := Lib.hid (fun (r : Rev) (W : World) (hb : Below w.heap.size w W) => last_fn r W)
  have hb0 : Below w.heap.size w (((w.alloc (.cells #[.slice Ar revs.length cr, dr] 28)).alloc (.cells #[.string ⟨#[]⟩, .int .i64 0, .int .i64 0, .int .i64 0, .int .i64 0, .bool false, .bool false, .bool false, .int .u64 0, .int .i64 0, .string ⟨#[]⟩, .int .i64 0] 36)).alloc (.cells #[.string ⟨#[]⟩, .int .i64 0, .int .i64 0, .int .i64 0, .int .i64 0, .bool false, .bool false, .bool false, .int .u64 0, .int .i64 0, .string ⟨#[]⟩, .int .i64 0] 36)) := (((Below.refl _ _).alloc (Nat.le_refl _) _).alloc (by simp) _).alloc (by simp; omega) _
  generalize (fun _ : Rev => true) = p at HF ⊢
  go_enter Tryz.func26, Tryz.ntmps26
  go_wp2_with fail
  go_loopw [9, 15] (fun o i wr => ∃ (k : Nat), k ≤ revs.length ∧ i = .int .i64 k ∧ Below w.heap.size w wr ∧ o = .bool ((revs.take k).foldl (gStep q p) none).isSome ∧ Blk wr (w.heap.size + 1) 36 [.string ⟨#[]⟩, .int .i64 0, .int .i64 0, .int .i64 0, .int .i64 0, .bool false, .bool false, .bool false, .int .u64 0, .int .i64 0, .string ⟨#[]⟩, .int .i64 0] ∧ Blk wr (w.heap.size + 1 + 1) 36 [.string (someR ((revs.take k).foldl (gStep q p) none)).path, .int .i64 (someR ((revs.take k).foldl (gStep q p) none)).num, .int .i64 (someR ((revs.take k).foldl (gStep q p) none)).chg, .int .i64 (someR ((revs.take k).foldl (gStep q p) none)).act, .int .i64 (someR ((revs.take k).foldl (gStep q p) none)).ty.base, .bool (someR ((revs.take k).foldl (gStep q p) none)).ty.k, .bool (someR ((revs.take k).foldl (gStep q p) none)).ty.l, .bool (someR ((revs.take k).foldl (gStep q p) none)).ty.x, .int .u64 (someR ((revs.take k).foldl (gStep q p) none)).sum, .int .i64 (someR ((revs.take k).foldl (gStep q p) none)).size, .string (someR ((revs.take k).foldl (gStep q p) none)).frm, .int .i64 (someR ((revs.take k).foldl (gStep q p) none)).fnum]) (fun _ i _ => revs.length - (intOf i).toNat)
  case atStart =>
    refine ⟨0, Nat.zero_le _, rfl, hb0, rfl, ?_, ?_⟩
    · have := blk_new (w.alloc (.cells #[.slice Ar revs.length cr, dr] 28)) [.string ⟨#[]⟩, .int .i64 0, .int .i64 0, .int .i64 0, .int .i64 0, .bool false, .bool false, .bool false, .int .u64 0, .int .i64 0, .string ⟨#[]⟩, .int .i64 0] 36
      have := this.alloc (.cells #[.string ⟨#[]⟩, .int .i64 0, .int .i64 0, .int .i64 0, .int .i64 0, .bool false, .bool false, .bool false, .int .u64 0, .int .i64 0, .string ⟨#[]⟩, .int .i64 0] 36)
      simpa using this
    · have := blk_new ((w.alloc (.cells #[.slice Ar revs.length cr, dr] 28)).alloc (.cells #[.string ⟨#[]⟩, .int .i64 0, .int .i64 0, .int .i64 0, .int .i64 0, .bool false, .bool false, .bool false, .int .u64 0, .int .i64 0, .string ⟨#[]⟩, .int .i64 0] 36)) [.string ⟨#[]⟩, .int .i64 0, .int .i64 0, .int .i64 0, .int .i64 0, .bool false, .bool false, .bool false, .int .u64 0, .int .i64 0, .string ⟨#[]⟩, .int .i64 0] 36
      simp only [World.size_alloc] at this
      exact this
  case round =>
    obtain ⟨k, hk, rfl, hbr, rfl, hZ, hF⟩ := hrel
    by_cases hlt : k < revs.length
    · obtain ⟨ad, rfl, hab, hld⟩ := Revs.at_ (HR.out.below hbr) hlt
      have HT := Lib.hid (show revs.take (k + 1) = revs.take k ++ [revs[k]] from List.take_succ_eq_append_getElem hlt)
      have HG : Hid ((revs.take (k + 1)).foldl (gStep q p) none = gStep q p ((revs.take k).foldl (gStep q p) none) revs[k]) := Lib.hid (by rw [HT.out, List.foldl_append]; rfl)
      generalize revs[k] = r at hld HT HG
      generalize (revs.take k).foldl (gStep q p) none = o at hF HG
      obtain ⟨x0, x1, x2, x3, x4, x5, x6, x7, x8, x9, x10, x11⟩ := hld
      have hbx := hbr.alloc hbr.size (.cells #[.string r.path, .int .i64 r.num, .int .i64 r.chg, .int .i64 r.act, .int .i64 r.ty.base, .bool r.ty.k, .bool r.ty.l, .bool r.ty.x, .int .u64 r.sum, .int .i64 r.size, .string r.frm, .int .i64 r.fnum] 36)
      have hZx := hZ.alloc (.cells #[.string r.path, .int .i64 r.num, .int .i64 r.chg, .int .i64 r.act, .int .i64 r.ty.base, .bool r.ty.k, .bool r.ty.l, .bool r.ty.x, .int .u64 r.sum, .int .i64 r.size, .string r.frm, .int .i64 r.fnum] 36)
      have hFx := hF.alloc (.cells #[.string r.path, .int .i64 r.num, .int .i64 r.chg, .int .i64 r.act, .int .i64 r.ty.base, .bool r.ty.k, .bool r.ty.l, .bool r.ty.x, .int .u64 r.sum, .int .i64 r.size, .string r.frm, .int .i64 r.fnum] 36)
      have hX := blk_new wr [.string r.path, .int .i64 r.num, .int .i64 r.chg, .int .i64 r.act, .int .i64 r.ty.base, .bool r.ty.k, .bool r.ty.l, .bool r.ty.x, .int .u64 r.sum, .int .i64 r.size, .string r.frm, .int .i64 r.fnum] 36
      by_cases hp : r.path = q
      · have HC := Lib.hid (HF.out r (wr.alloc (.cells #[.string r.path, .int .i64 r.num, .int .i64 r.chg, .int .i64 r.act, .int .i64 r.ty.base, .bool r.ty.k, .bool r.ty.l, .bool r.ty.x, .int .u64 r.sum, .int .i64 r.size, .string r.frm, .int .i64 r.fnum] 36)) hbx)
        cases hpr : p r
        · rw [hpr] at HC
          have HS : Hid (gStep q p o r = o) := Lib.hid (by unfold gStep; rw [hpr]; simp)
          clear hpr
          subst hp
          go_wp2_with fail
          refine HC.out.mono ?_
          rintro e w2 ⟨rfl, hb2⟩
          go_wp2_with fail
          go_roundw
          case rel => exact ⟨k + 1, by omega, by go_num, below_next hbx hb2, by rw [HG.out, HS.out], hZx.below hb2 hZx.lt, by rw [HG.out, HS.out]; exact hFx.below hb2 hFx.lt⟩
          case measure => simp [intOf]; omega
        · rw [hpr] at HC
          have hnew : ∀ b : Bool, o.isSome = false ∨ (someR o).num < r.num → gStep q p o r = some r := by
            intro b h
            unfold gStep
            rw [if_pos ⟨hp, hpr⟩]
            cases o with
            | none => rfl
            | some x => rcases h with h | h
                        · cases h
                        · exact if_pos h
          have hold : o.isSome = true → ¬ (someR o).num < r.num → gStep q p o r = o := by
            intro h1 h2
            unfold gStep
            rw [if_pos ⟨hp, hpr⟩]
            cases o with
            | none => cases h1
            | some x => exact if_neg h2
          clear hpr
          subst hp
          by_cases hn : o.isSome = false ∨ (someR o).num < r.num
          · have HS := Lib.hid (hnew true hn)
            clear hnew hold
            cases hos : o.isSome
            · clear hn
              go_wp2_with fail
              refine HC.out.mono ?_
              rintro e w2 ⟨rfl, hb2⟩
              have hX2 := hX.below hb2 hX.lt
              have hF2 := hFx.below hb2 hFx.lt
              have hZ2 := hZx.below hb2 hZx.lt
              have hbw2 := below_next hbx hb2
              obtain ⟨c0, c1, c2, c3, c4, c5, c6, c7, c8, c9, c10, c11⟩ := box12 hX2
              obtain ⟨f0, f1, f2, f3, f4, f5, f6, f7, f8, f9, f10, f11⟩ := box12 hF2
              obtain ⟨y0, y1, y2, y3, y4, y5, y6, y7, y8, y9, y10, y11⟩ := frz12 hF2
              clear hb2
              have hF3 := set12 hF2 r
              have hB3 := below12 hbw2 (show w.heap.size ≤ w.heap.size + 1 + 1 by omega) r
              have hZ3 := far12 hZ2 (show w.heap.size + 1 + 1 ≠ w.heap.size + 1 by omega) r
              go_wp2_with fail
              go_roundw
              case rel => exact ⟨k + 1, by omega, by go_num, hB3, by rw [HG.out, HS.out]; rfl, hZ3, by rw [HG.out, HS.out]; exact hF3⟩
              case measure => simp [intOf]; omega
            · have hn2 : (someR o).num < r.num := by rcases hn with h | h; (rw [hos] at h; cases h); exact h
              clear hn
              go_wp2_with fail
              refine HC.out.mono ?_
              rintro e w2 ⟨rfl, hb2⟩
              have hX2 := hX.below hb2 hX.lt
              have hF2 := hFx.below hb2 hFx.lt
              have hZ2 := hZx.below hb2 hZx.lt
              have hbw2 := below_next hbx hb2
              obtain ⟨c0, c1, c2, c3, c4, c5, c6, c7, c8, c9, c10, c11⟩ := box12 hX2
              obtain ⟨f0, f1, f2, f3, f4, f5, f6, f7, f8, f9, f10, f11⟩ := box12 hF2
              obtain ⟨y0, y1, y2, y3, y4, y5, y6, y7, y8, y9, y10, y11⟩ := frz12 hF2
              clear hb2
              have hF3 := set12 hF2 r
              have hB3 := below12 hbw2 (show w.heap.size ≤ w.heap.size + 1 + 1 by omega) r
              have hZ3 := far12 hZ2 (show w.heap.size + 1 + 1 ≠ w.heap.size + 1 by omega) r
              go_wp2_with fail
              go_roundw
              case rel => exact ⟨k + 1, by omega, by go_num, hB3, by rw [HG.out, HS.out]; rfl, hZ3, by rw [HG.out, HS.out]; exact hF3⟩
              case measure => simp [intOf]; omega
          · rw [not_or] at hn
            have hos : o.isSome = true := by
              cases h : o.isSome
              · exact absurd h hn.1
              · rfl
            have hn2 : ¬ (someR o).num < r.num := hn.2
            have HS := Lib.hid (hold hos hn2)
            clear hnew hold hn
            go_wp2_with fail
            refine HC.out.mono ?_
            rintro e w2 ⟨rfl, hb2⟩
            have hX2 := hX.below hb2 hX.lt
            have hF2 := hFx.below hb2 hFx.lt
            have hZ2 := hZx.below hb2 hZx.lt
            have hbw2 := below_next hbx hb2
            obtain ⟨c0, c1, c2, c3, c4, c5, c6, c7, c8, c9, c10, c11⟩ := box12 hX2
            obtain ⟨f0, f1, f2, f3, f4, f5, f6, f7, f8, f9, f10, f11⟩ := box12 hF2
            clear hb2
            go_wp2_with fail
            go_roundw
            case rel => exact ⟨k + 1, by omega, by go_num, hbw2, by rw [HG.out, HS.out, hos], hZ2, by rw [HG.out, HS.out]; exact hF2⟩
            case measure => simp [intOf]; omega
      · have HS : Hid (gStep q p o r = o) := Lib.hid (by unfold gStep; rw [if_neg (fun h => hp h.1)])
        have sq := str_eqB r.path q
        rw [show decide (r.path = q) = false by simpa using hp] at sq
        clear hp
        go_wp2_with fail
        go_roundw
        case rel => exact ⟨k + 1, by omega, by go_num, hbx, by rw [HG.out, HS.out], hZx, by rw [HG.out, HS.out]; exact hFx⟩
        case measure => simp [intOf]; omega
    · rw [List.take_of_length_le (by omega)] at hF ⊢
      obtain ⟨o, ho⟩ : ∃ o, revs.foldl (gStep q p) none = o := ⟨_, rfl⟩
      rw [ho] at hF ⊢
      obtain ⟨r, hr⟩ : ∃ r, someR o = r := ⟨_, rfl⟩
      rw [hr] at hF
      have HO := Lib.hid ho
      have HR2 := Lib.hid hr
      clear ho hr
      obtain ⟨f0, f1, f2, f3, f4, f5, f6, f7, f8, f9, f10, f11⟩ := box12 hF
      obtain ⟨z0, z1, z2, z3, z4, z5, z6, z7, z8, z9, z10, z11⟩ := box12 hZ
      obtain ⟨y0, y1, y2, y3, y4, y5, y6, y7, y8, y9, y10, y11⟩ := frz12 hZ
      go_wp2_with fail
      have hZ3 := set12 hZ r
      have hB3 := below12 hbr (show w.heap.size ≤ w.heap.size + 1 by omega) r
      generalize ((((((((((((wr.setCell ⟨w.heap.size + 1, 0, none⟩ (.string r.path)).setCell ⟨w.heap.size + 1, 1, none⟩ (.int .i64 r.num)).setCell ⟨w.heap.size + 1, 2, none⟩ (.int .i64 r.chg)).setCell ⟨w.heap.size + 1, 3, none⟩ (.int .i64 r.act)).setCell ⟨w.heap.size + 1, 4, none⟩ (.int .i64 r.ty.base)).setCell ⟨w.heap.size + 1, 5, none⟩ (.bool r.ty.k)).setCell ⟨w.heap.size + 1, 6, none⟩ (.bool r.ty.l)).setCell ⟨w.heap.size + 1, 7, none⟩ (.bool r.ty.x)).setCell ⟨w.heap.size + 1, 8, none⟩ (.int .u64 r.sum)).setCell ⟨w.heap.size + 1, 9, none⟩ (.int .i64 r.size)).setCell ⟨w.heap.size + 1, 10, none⟩ (.string r.frm)).setCell ⟨w.heap.size + 1, 11, none⟩ (.int .i64 r.fnum)) = W3 at hZ3 hB3 ⊢
      obtain ⟨e0, e1, e2, e3, e4, e5, e6, e7, e8, e9, e10, e11⟩ := box12 hZ3
      exact bodyPost_ret (v := .tuple #[.agg #[.string r.path, .int .i64 r.num, .int .i64 r.chg, .int .i64 r.act, .int .i64 r.ty.base, .bool r.ty.k, .bool r.ty.l, .bool r.ty.x, .int .u64 r.sum, .int .i64 r.size, .string r.frm, .int .i64 r.fnum], .bool o.isSome]) (by simp [results, Tryz.results26, go_sem, e0, e1, e2, e3, e4, e5, e6, e7, e8, e9, e10, e11]) rfl ⟨by rw [HO.out, HR2.out], hB3⟩
end Go.Proofs.YtmhmnchdhacdbaaGreatDoor
/- At, Last. -/
namespace Go.Proofs.YtmhmnchdhacdbaaGreatDoor
open Go.RowKit
set_option linter.unusedVariables false
set_option linter.unusedSimpArgs false

set_option maxRecDepth 100000 in
set_option maxHeartbeats 4000000 in
theorem at_any (revs : List Rev) (q : ByteArray) (m : Int) (dv dr : Value) (w : World) (hR : Revs w dv revs) (hl : revs.length ≤ 1000000) :
    Calls Tryz.prog 13 #[.agg #[dv, dr], .string q, .int .i64 m] w
      fun e w' => e = .returned (.tuple #[.agg #[.string (someR (greatest revs q (fun v : Rev => decide (v.chg ≤ m)))).path, .int .i64 (someR (greatest revs q (fun v : Rev => decide (v.chg ≤ m)))).num, .int .i64 (someR (greatest revs q (fun v : Rev => decide (v.chg ≤ m)))).chg, .int .i64 (someR (greatest revs q (fun v : Rev => decide (v.chg ≤ m)))).act, .int .i64 (someR (greatest revs q (fun v : Rev => decide (v.chg ≤ m)))).ty.base, .bool (someR (greatest revs q (fun v : Rev => decide (v.chg ≤ m)))).ty.k, .bool (someR (greatest revs q (fun v : Rev => decide (v.chg ≤ m)))).ty.l, .bool (someR (greatest revs q (fun v : Rev => decide (v.chg ≤ m)))).ty.x, .int .u64 (someR (greatest revs q (fun v : Rev => decide (v.chg ≤ m)))).sum, .int .i64 (someR (greatest revs q (fun v : Rev => decide (v.chg ≤ m)))).size, .string (someR (greatest revs q (fun v : Rev => decide (v.chg ≤ m)))).frm, .int .i64 (someR (greatest revs q (fun v : Rev => decide (v.chg ≤ m)))).fnum], .bool (greatest revs q (fun v : Rev => decide (v.chg ≤ m))).isSome]) ∧ Below w.heap.size w w' := by
  have HR := Lib.hid hR
  obtain ⟨Ar, cr, rfl, -⟩ := hR
  obtain ⟨dv, hdv⟩ : ∃ v, Value.slice Ar revs.length cr = v := ⟨_, rfl⟩
  have hb0 : Below w.heap.size w (((w.alloc (.cells #[(.slice Ar revs.length cr), dr] 28)).alloc (.cells #[.int .i64 m] 3)).alloc (.cells #[.string ⟨#[]⟩, .int .i64 0, .int .i64 0, .int .i64 0, .int .i64 0, .bool false, .bool false, .bool false, .int .u64 0, .int .i64 0, .string ⟨#[]⟩, .int .i64 0] 36)) := ((((Below.refl _ _).alloc (Nat.le_refl _) _).alloc (by simp) _).alloc (by simp; omega) _)
  have hZ : Blk (((w.alloc (.cells #[(.slice Ar revs.length cr), dr] 28)).alloc (.cells #[.int .i64 m] 3)).alloc (.cells #[.string ⟨#[]⟩, .int .i64 0, .int .i64 0, .int .i64 0, .int .i64 0, .bool false, .bool false, .bool false, .int .u64 0, .int .i64 0, .string ⟨#[]⟩, .int .i64 0] 36)) (w.heap.size + 1 + 1) 36 [.string ⟨#[]⟩, .int .i64 0, .int .i64 0, .int .i64 0, .int .i64 0, .bool false, .bool false, .bool false, .int .u64 0, .int .i64 0, .string ⟨#[]⟩, .int .i64 0] := by
    have h1 := blk_new ((w.alloc (.cells #[(.slice Ar revs.length cr), dr] 28)).alloc (.cells #[.int .i64 m] 3)) [.string ⟨#[]⟩, .int .i64 0, .int .i64 0, .int .i64 0, .int .i64 0, .bool false, .bool false, .bool false, .int .u64 0, .int .i64 0, .string ⟨#[]⟩, .int .i64 0] 36
    simp only [World.size_alloc] at h1
    exact h1
  have hcell : (((w.alloc (.cells #[(.slice Ar revs.length cr), dr] 28)).alloc (.cells #[.int .i64 m] 3)).alloc (.cells #[.string ⟨#[]⟩, .int .i64 0, .int .i64 0, .int .i64 0, .int .i64 0, .bool false, .bool false, .bool false, .int .u64 0, .int .i64 0, .string ⟨#[]⟩, .int .i64 0] 36)).cell? ⟨w.heap.size + 1, 0, none⟩ = some (.int .i64 m) := by
    have h1 := (blk_new (w.alloc (.cells #[(.slice Ar revs.length cr), dr] 28)) [.int .i64 m] 3).alloc (.cells #[.string ⟨#[]⟩, .int .i64 0, .int .i64 0, .int .i64 0, .int .i64 0, .bool false, .bool false, .bool false, .int .u64 0, .int .i64 0, .string ⟨#[]⟩, .int .i64 0] 36)
    simp only [World.size_alloc] at h1
    exact h1.cell 0
  have HC := Lib.hid (greatest_at revs q m (w.heap.size + 1) (.slice Ar revs.length cr) dr _ (HR.out.below hb0) hcell hl)
  clear hdv dv hcell
  generalize greatest revs q (fun v : Rev => decide (v.chg ≤ m)) = o at HC ⊢
  generalize someR o = r at HC ⊢
  go_enter Tryz.func13, Tryz.ntmps13
  go_wp2_with fail
  refine HC.out.mono ?_
  rintro e w1 ⟨rfl, hb1⟩
  have hZ1 := hZ.below hb1 hZ.lt
  have hbw1 := below_next hb0 hb1
  obtain ⟨z0, z1, z2, z3, z4, z5, z6, z7, z8, z9, z10, z11⟩ := box12 hZ1
  obtain ⟨y0, y1, y2, y3, y4, y5, y6, y7, y8, y9, y10, y11⟩ := frz12 hZ1
  clear hb1
  go_wp2_with fail
  have hZ3 := set12 hZ1 r
  have hB3 := below12 hbw1 (show w.heap.size ≤ w.heap.size + 1 + 1 by omega) r
  generalize ((((((((((((w1.setCell ⟨w.heap.size + 1 + 1, 0, none⟩ (.string r.path)).setCell ⟨w.heap.size + 1 + 1, 1, none⟩ (.int .i64 r.num)).setCell ⟨w.heap.size + 1 + 1, 2, none⟩ (.int .i64 r.chg)).setCell ⟨w.heap.size + 1 + 1, 3, none⟩ (.int .i64 r.act)).setCell ⟨w.heap.size + 1 + 1, 4, none⟩ (.int .i64 r.ty.base)).setCell ⟨w.heap.size + 1 + 1, 5, none⟩ (.bool r.ty.k)).setCell ⟨w.heap.size + 1 + 1, 6, none⟩ (.bool r.ty.l)).setCell ⟨w.heap.size + 1 + 1, 7, none⟩ (.bool r.ty.x)).setCell ⟨w.heap.size + 1 + 1, 8, none⟩ (.int .u64 r.sum)).setCell ⟨w.heap.size + 1 + 1, 9, none⟩ (.int .i64 r.size)).setCell ⟨w.heap.size + 1 + 1, 10, none⟩ (.string r.frm)).setCell ⟨w.heap.size + 1 + 1, 11, none⟩ (.int .i64 r.fnum)) = W3 at hZ3 hB3 ⊢
  obtain ⟨e0, e1, e2, e3, e4, e5, e6, e7, e8, e9, e10, e11⟩ := box12 hZ3
  exact bodyPost_ret (v := .tuple #[.agg #[.string r.path, .int .i64 r.num, .int .i64 r.chg, .int .i64 r.act, .int .i64 r.ty.base, .bool r.ty.k, .bool r.ty.l, .bool r.ty.x, .int .u64 r.sum, .int .i64 r.size, .string r.frm, .int .i64 r.fnum], .bool o.isSome]) (by simp [results, Tryz.results13, go_sem, e0, e1, e2, e3, e4, e5, e6, e7, e8, e9, e10, e11]) rfl ⟨rfl, hB3⟩
set_option maxRecDepth 100000 in
set_option maxHeartbeats 4000000 in
theorem last_any (revs : List Rev) (q : ByteArray) (dv dr : Value) (w : World) (hR : Revs w dv revs) (hl : revs.length ≤ 1000000) :
    Calls Tryz.prog 9 #[.agg #[dv, dr], .string q] w
      fun e w' => e = .returned (.tuple #[.agg #[.string (someR (greatest revs q (fun _ : Rev => true))).path, .int .i64 (someR (greatest revs q (fun _ : Rev => true))).num, .int .i64 (someR (greatest revs q (fun _ : Rev => true))).chg, .int .i64 (someR (greatest revs q (fun _ : Rev => true))).act, .int .i64 (someR (greatest revs q (fun _ : Rev => true))).ty.base, .bool (someR (greatest revs q (fun _ : Rev => true))).ty.k, .bool (someR (greatest revs q (fun _ : Rev => true))).ty.l, .bool (someR (greatest revs q (fun _ : Rev => true))).ty.x, .int .u64 (someR (greatest revs q (fun _ : Rev => true))).sum, .int .i64 (someR (greatest revs q (fun _ : Rev => true))).size, .string (someR (greatest revs q (fun _ : Rev => true))).frm, .int .i64 (someR (greatest revs q (fun _ : Rev => true))).fnum], .bool (greatest revs q (fun _ : Rev => true)).isSome]) ∧ Below w.heap.size w w' := by
  have HR := Lib.hid hR
  obtain ⟨Ar, cr, rfl, -⟩ := hR
  obtain ⟨dv, hdv⟩ : ∃ v, Value.slice Ar revs.length cr = v := ⟨_, rfl⟩
  have hb0 : Below w.heap.size w ((w.alloc (.cells #[(.slice Ar revs.length cr), dr] 28)).alloc (.cells #[.string ⟨#[]⟩, .int .i64 0, .int .i64 0, .int .i64 0, .int .i64 0, .bool false, .bool false, .bool false, .int .u64 0, .int .i64 0, .string ⟨#[]⟩, .int .i64 0] 36)) := (((Below.refl _ _).alloc (Nat.le_refl _) _).alloc (by simp) _)
  have hZ : Blk ((w.alloc (.cells #[(.slice Ar revs.length cr), dr] 28)).alloc (.cells #[.string ⟨#[]⟩, .int .i64 0, .int .i64 0, .int .i64 0, .int .i64 0, .bool false, .bool false, .bool false, .int .u64 0, .int .i64 0, .string ⟨#[]⟩, .int .i64 0] 36)) (w.heap.size + 1) 36 [.string ⟨#[]⟩, .int .i64 0, .int .i64 0, .int .i64 0, .int .i64 0, .bool false, .bool false, .bool false, .int .u64 0, .int .i64 0, .string ⟨#[]⟩, .int .i64 0] := by
    have h1 := blk_new (w.alloc (.cells #[(.slice Ar revs.length cr), dr] 28)) [.string ⟨#[]⟩, .int .i64 0, .int .i64 0, .int .i64 0, .int .i64 0, .bool false, .bool false, .bool false, .int .u64 0, .int .i64 0, .string ⟨#[]⟩, .int .i64 0] 36
    simp only [World.size_alloc] at h1
    exact h1
  have HC := Lib.hid (greatest_last revs q (.slice Ar revs.length cr) dr _ (HR.out.below hb0) hl)
  clear hdv dv
  generalize greatest revs q (fun _ : Rev => true) = o at HC ⊢
  generalize someR o = r at HC ⊢
  go_enter Tryz.func9, Tryz.ntmps9
  go_wp2_with fail
  refine HC.out.mono ?_
  rintro e w1 ⟨rfl, hb1⟩
  have hZ1 := hZ.below hb1 hZ.lt
  have hbw1 := below_next hb0 hb1
  obtain ⟨z0, z1, z2, z3, z4, z5, z6, z7, z8, z9, z10, z11⟩ := box12 hZ1
  obtain ⟨y0, y1, y2, y3, y4, y5, y6, y7, y8, y9, y10, y11⟩ := frz12 hZ1
  clear hb1
  go_wp2_with fail
  have hZ3 := set12 hZ1 r
  have hB3 := below12 hbw1 (show w.heap.size ≤ w.heap.size + 1 by omega) r
  generalize ((((((((((((w1.setCell ⟨w.heap.size + 1, 0, none⟩ (.string r.path)).setCell ⟨w.heap.size + 1, 1, none⟩ (.int .i64 r.num)).setCell ⟨w.heap.size + 1, 2, none⟩ (.int .i64 r.chg)).setCell ⟨w.heap.size + 1, 3, none⟩ (.int .i64 r.act)).setCell ⟨w.heap.size + 1, 4, none⟩ (.int .i64 r.ty.base)).setCell ⟨w.heap.size + 1, 5, none⟩ (.bool r.ty.k)).setCell ⟨w.heap.size + 1, 6, none⟩ (.bool r.ty.l)).setCell ⟨w.heap.size + 1, 7, none⟩ (.bool r.ty.x)).setCell ⟨w.heap.size + 1, 8, none⟩ (.int .u64 r.sum)).setCell ⟨w.heap.size + 1, 9, none⟩ (.int .i64 r.size)).setCell ⟨w.heap.size + 1, 10, none⟩ (.string r.frm)).setCell ⟨w.heap.size + 1, 11, none⟩ (.int .i64 r.fnum)) = W3 at hZ3 hB3 ⊢
  obtain ⟨e0, e1, e2, e3, e4, e5, e6, e7, e8, e9, e10, e11⟩ := box12 hZ3
  exact bodyPost_ret (v := .tuple #[.agg #[.string r.path, .int .i64 r.num, .int .i64 r.chg, .int .i64 r.act, .int .i64 r.ty.base, .bool r.ty.k, .bool r.ty.l, .bool r.ty.x, .int .u64 r.sum, .int .i64 r.size, .string r.frm, .int .i64 r.fnum], .bool o.isSome]) (by simp [results, Tryz.results9, go_sem, e0, e1, e2, e3, e4, e5, e6, e7, e8, e9, e10, e11]) rfl ⟨rfl, hB3⟩
end Go.Proofs.YtmhmnchdhacdbaaGreatDoor
/- The statements' own awake. -/
namespace Go.Proofs.YtmhmnchdhacdbaaGreatDoor
open Go.RowKit
set_option linter.unusedVariables false
set_option linter.unusedSimpArgs false

def wPath : ByteArray := ⟨#[47, 47, 97, 47, 120]⟩
def wRev : Rev := ⟨wPath, 1, 5, 1, ⟨1, false, false, false⟩, 0, 0, ⟨#[]⟩, 0⟩
def wEdt : Edt := ⟨wPath, 1, ⟨1, false, false, false⟩, 0, 0, 0, ⟨#[]⟩, 0, 0⟩
def wChg : Chg := ⟨5, ⟨#[]⟩, ⟨#[]⟩, [wEdt], []⟩
theorem w_valid : validS wPath = true := by decide
theorem w_edt : edtOf wRev = wEdt := rfl
theorem w_every : everyE (lastOf []) emptyS [wEdt] = 0 := by
  have h1 : editE (lastOf []) emptyS wEdt = 0 := by
    unfold editE
    rw [if_neg (by
      rintro (h | h)
      · exact absurd w_valid (by show ¬ validS wEdt.path = true; rw [h]; decide)
      · exact absurd h (by decide)), if_neg (fun h => h.1 rfl)]
    decide
  rw [everyE, h1]; rfl
theorem w_app : appE ⟨[], []⟩ wChg = 0 := by
  have h1 : sizeE [] wChg = 0 := by decide
  have h3 : movesE wChg.edits = 0 := by decide
  have h4 : recsE [] wChg = 0 := by unfold recsE wChg; rfl
  have h5 : roomE ⟨[], []⟩ wChg = 0 := by decide
  have h2 : everyE (lastOf []) emptyS wChg.edits = 0 := w_every
  unfold appE
  rw [h1, firstE_skip, h2, firstE_skip, h3, firstE_skip, h4, firstE_skip, h5, firstE_skip]; rfl
theorem w_new : newRevs ⟨[], []⟩ wChg = [wRev] := rfl
theorem w_chgW : ChgW wChg := ⟨by decide, by decide, fun x hx => by
  have : x = wEdt := by simpa [wChg] using hx
  subst this; decide, fun r hr => by simp [wChg] at hr⟩

set_option maxRecDepth 100000 in
set_option maxHeartbeats 4000000 in
theorem awake_any (w : World) : Calls Tryz.prog 7 #[] w fun e w' => e = .returned (.bool true) ∧ Below w.heap.size w w' := by
  have HG : Hid (greatest [wRev] wPath (fun _ => true) = some wRev) := Lib.hid (by simp [greatest, wRev])
  go_enter Tryz.func7, Tryz.ntmps7
  go_wp2_with fail
  have hB1 : Blk ((w.alloc (.cells #[.int .i64 1, .bool false, .bool false, .bool false] 31)).alloc (.cells #[.string ⟨#[47, 47, 97, 47, 120]⟩, .int .i64 1, .int .i64 1, .bool false, .bool false, .bool false, .int .u64 0, .int .i64 0, .int .i64 0, .string ⟨#[]⟩, .int .i64 0, .int .i64 0] 58)) (w.heap.size + 1) 58 ([wEdt].flatMap Edt.cells) := blk_at (cs := [wEdt].flatMap Edt.cells) (by simp)
  have hb1 : Below w.heap.size w ((w.alloc (.cells #[.int .i64 1, .bool false, .bool false, .bool false] 31)).alloc (.cells #[.string ⟨#[47, 47, 97, 47, 120]⟩, .int .i64 1, .int .i64 1, .bool false, .bool false, .bool false, .int .u64 0, .int .i64 0, .int .i64 0, .string ⟨#[]⟩, .int .i64 0, .int .i64 0] 58)) := below_alloc' (below_alloc' (Below.refl _ _) _) _
  generalize (w.alloc (.cells #[.int .i64 1, .bool false, .bool false, .bool false] 31)).alloc (.cells #[.string ⟨#[47, 47, 97, 47, 120]⟩, .int .i64 1, .int .i64 1, .bool false, .bool false, .bool false, .int .u64 0, .int .i64 0, .int .i64 0, .string ⟨#[]⟩, .int .i64 0, .int .i64 0] 58) = W1 at hB1 hb1 ⊢
  have HAA := Lib.hid (append_any ⟨[], []⟩ wChg (.slice none 0 0) (.slice none 0 0) (.slice (some ⟨w.heap.size + 1, 0, none⟩) 1 1) (.slice none 0 0) W1 (Revs.nil_ _) (Rcds.nil_ _) (hB1.row (size := 12) (n := 1) rfl (by unfold maxLen; omega)) (Rcds.nil_ _) depW_nil w_chgW)
  have HB1 := Lib.hid hb1
  clear hB1 hb1
  refine HAA.out.mono ?_
  rintro e V2 ⟨hb2, ⟨hn0, rfl⟩ | ⟨h0, dv', dr', rs, rfl, hR', hQ', hpm', hpw', hf1, hf2⟩⟩
  · exact absurd w_app hn0
  · have hrs : rs = [] := by simpa [wChg] using hpm'
    subst hrs
    rw [w_new] at hR'
    obtain ⟨A5, c5, rfl, -⟩ := id hR'
    obtain ⟨A6, c6, rfl, -⟩ := id hQ'
    have hR1 : Revs V2 (.slice A5 1 c5) [wRev] := hR'
    have hQ1 : Rcds V2 (.slice A6 0 c6) [] := hQ'
    have hb3 := below_next HB1.out hb2
    have hA3 : Below V2.heap.size V2 (V2.alloc (.cells #[.slice A5 1 c5, .slice A6 0 c6] 28)) := (Below.refl _ _).alloc (Nat.le_refl _) _
    have hx3 := blk_new V2 [.slice A5 1 c5, .slice A6 0 c6] 28
    clear hR' hQ' hpm' hpw' hf1 hf2 hb2 h0
    go_upto_region 3 with fail
    generalize V2.alloc (.cells #[.slice A5 1 c5, .slice A6 0 c6] 28) = V3 at hA3 hx3 ⊢
    obtain ⟨z0, z1, -, -⟩ := box2 hx3
    have hLa := last_any [wRev] wPath (.slice A5 1 c5) (.slice A6 0 c6) V3 (hR1.below hA3) (by decide)
    rw [HG.out] at hLa
    have HLA : Hid (Calls Tryz.prog 9 #[.agg #[.slice A5 1 c5, .slice A6 0 c6], .string ⟨#[47, 47, 97, 47, 120]⟩] V3 fun e w' => e = .returned (.tuple #[.agg #[.string ⟨#[47, 47, 97, 47, 120]⟩, .int .i64 1, .int .i64 5, .int .i64 1, .int .i64 1, .bool false, .bool false, .bool false, .int .u64 0, .int .i64 0, .string ⟨#[]⟩, .int .i64 0], .bool true]) ∧ Below V3.heap.size V3 w') := Lib.hid hLa
    have HX3 := Lib.hid hx3
    have HS3 : Hid (Below w.heap.size w V3 ∧ Revs V3 (.slice A5 1 c5) [wRev] ∧ Rcds V3 (.slice A6 0 c6) []) := Lib.hid ⟨below_next hb3 hA3, hR1.below hA3, hQ1.below hA3⟩
    clear hLa hx3 hb3 hA3 hR1 hQ1
    go_wp2_with fail
    refine HLA.out.mono ?_
    rintro e V4 ⟨rfl, hb4⟩
    clear z0 z1
    have HB4 := Lib.hid hb4
    clear hb4
    have hA5 : Below V4.heap.size V4 (V4.alloc (.cells #[.string ⟨#[47, 47, 97, 47, 120]⟩, .int .i64 1, .int .i64 5, .int .i64 1, .int .i64 1, .bool false, .bool false, .bool false, .int .u64 0, .int .i64 0, .string ⟨#[]⟩, .int .i64 0] 36)) := (Below.refl _ _).alloc (Nat.le_refl _) _
    have hx5 := blk_new V4 [.string ⟨#[47, 47, 97, 47, 120]⟩, .int .i64 1, .int .i64 5, .int .i64 1, .int .i64 1, .bool false, .bool false, .bool false, .int .u64 0, .int .i64 0, .string ⟨#[]⟩, .int .i64 0] 36
    go_upto_region 4 with fail
    generalize V4.alloc (.cells #[.string ⟨#[47, 47, 97, 47, 120]⟩, .int .i64 1, .int .i64 5, .int .i64 1, .int .i64 1, .bool false, .bool false, .bool false, .int .u64 0, .int .i64 0, .string ⟨#[]⟩, .int .i64 0] 36) = V5 at hA5 hx5 ⊢
    have hb35 := below_next HB4.out hA5
    obtain ⟨-, y1, y2, -, -, -, -, -, -, -, -, -⟩ := box12 hx5
    obtain ⟨z0, z1, -, -⟩ := box2 (HX3.out.below hb35 HX3.out.lt)
    have HV := Lib.hid (valid_one wRev (.slice A5 1 c5) (.slice A6 0 c6) V5 (HS3.out.2.1.below hb35) (HS3.out.2.2.below hb35) (by decide) wChg rfl w_app w_new w_chgW)
    have HB5 := Lib.hid (below_next HS3.out.1 hb35)
    clear hb35 hA5 hx5
    go_wp2_with fail
    refine HV.out.mono ?_
    rintro e V6 ⟨rfl, hb6⟩
    have HB6 := Lib.hid hb6
    clear hb6 y1 y2 z0 z1
    go_wp2_with fail
    go_ret
    exact ⟨rfl, below_next HB5.out HB6.out⟩
end Go.Proofs.YtmhmnchdhacdbaaGreatDoor
/- The statements' Small, with what its no says. -/
namespace Go.Proofs.YtmhmnchdhacdbaaGreatDoor
open Go.RowKit
set_option linter.unusedVariables false
set_option linter.unusedSimpArgs false

def SmPost2 (w : World) (l : List Chg) (e : Ending) (w' : World) : Prop := ∃ b, e = .returned (.bool b) ∧ Below w.heap.size w w' ∧ (b = true → smallL l) ∧ (b = false → ¬ smallL l)
set_option maxRecDepth 100000 in
set_option maxHeartbeats 8000000 in
theorem small_both (ps : List ChV) (v : Value) (w : World) (hP : Chgs w v ps) (hl : ps.length ≤ 10000000000000) (hs : ∀ p ∈ ps, chgLen p.1 ≤ 10000000000000) (hz : ∀ p ∈ ps, (∀ x ∈ p.1.edits, x.path.size ≤ 140737488355328 ∧ x.frm.size ≤ 140737488355328) ∧ ∀ x ∈ p.1.recs, x.frm.size ≤ 140737488355328 ∧ x.to.size ≤ 140737488355328) :
    Calls Tryz.prog 6 #[v] w (SmPost2 w (ps.map (·.1))) := by
  obtain ⟨A, c, rfl, hc, hm, -⟩ := id hP.1
  have HP := Lib.hid hP
  have HS := Lib.hid hs
  have HZ := Lib.hid hz
  unfold maxLen at hm
  clear hP hs hz
  go_enter Tryz.func6, Tryz.ntmps6
  go_wp2_with fail
  go_loopw [3, 12] (fun s t wr => ∃ (k : Nat) (tot : Int), s = .int .i64 tot ∧ t = .int .i64 k ∧ k ≤ ps.length ∧ Hid ((k ≤ 40 → tot = lenSum ((ps.take k).map (·.1)) ∧ 0 ≤ tot ∧ tot ≤ k * 10000000000000) ∧ (∀ p ∈ ps.take k, chgSm p.1) ∧ Below w.heap.size w wr)) (fun _ t _ => ps.length - (intOf t).toNat)
  case atStart => exact ⟨0, 0, rfl, rfl, Nat.zero_le _, fun _ => ⟨rfl, by omega, by omega⟩, fun p hp => by simp at hp, Below.refl _ _⟩
  case round =>
    obtain ⟨k, tot, rfl, rfl, hk, HI⟩ := hrel
    by_cases hlt : k < ps.length
    · have hPr := HP.out.below HI.out.2.2
      obtain ⟨ad, rfl, hab, hld⟩ := Chgs.at_ hPr hlt
      have HT := Lib.hid (show ps.take (k + 1) = ps.take k ++ [ps[k]] from List.take_succ_eq_append_getElem hlt)
      have hpm : ps[k] ∈ ps := List.getElem_mem _
      have hok := hPr.2 ps[k] hpm
      have hcl := HS.out ps[k] hpm
      have HPM := Lib.hid (HZ.out ps[k] hpm)
      have HNOT := Lib.hid (fun (h : ¬ chgSm ps[k].1) (hs : smallL (ps.map (·.1))) => h (hs.1 _ (List.mem_map_of_mem hpm)))
      generalize ps[k] = p at hld HT hok hcl HPM HNOT
      clear hpm hPr
      obtain ⟨ch, ev, rv⟩ := p
      obtain ⟨Ae, ce, he, -⟩ := id hok.1
      obtain ⟨Ac, cc, hc2, -⟩ := id hok.2
      change ev = .slice Ae ch.edits.length ce at he
      change rv = .slice Ac ch.recs.length cc at hc2
      subst he hc2
      obtain ⟨x0, x1, x2, x3, x4⟩ := hld
      change wr.cell? (ad.add (k * 5)) = some (.int .i64 ch.num) at x0
      change wr.cell? ⟨(ad.add (k * 5)).block, (ad.add (k * 5)).off + 1, none⟩ = some (.string ch.client) at x1
      change wr.cell? ⟨(ad.add (k * 5)).block, (ad.add (k * 5)).off + 2, none⟩ = some (.string ch.text) at x2
      change wr.cell? ⟨(ad.add (k * 5)).block, (ad.add (k * 5)).off + 3, none⟩ = some (.slice Ae ch.edits.length ce) at x3
      change wr.cell? ⟨(ad.add (k * 5)).block, (ad.add (k * 5)).off + 4, none⟩ = some (.slice Ac ch.recs.length cc) at x4
      unfold chgLen at hcl
      change ch.edits.length + ch.recs.length ≤ 10000000000000 at hcl
      have HOK : Hid (Edts wr (.slice Ae ch.edits.length ce) ch.edits ∧ Rcds wr (.slice Ac ch.recs.length cc) ch.recs) := Lib.hid hok
      clear hok
      have hX1 := blk_new wr [.int .i64 ch.num, .string ch.client, .string ch.text, .slice Ae ch.edits.length ce, .slice Ac ch.recs.length cc] 56
      have hA1 : Below wr.heap.size wr (wr.alloc (.cells #[.int .i64 ch.num, .string ch.client, .string ch.text, .slice Ae ch.edits.length ce, .slice Ac ch.recs.length cc] 56)) := (Below.refl _ _).alloc (Nat.le_refl _) _
      go_upto_region 5 with fail
      clear x0 x1 x2 x3 x4
      generalize wr.alloc (.cells #[.int .i64 ch.num, .string ch.client, .string ch.text, .slice Ae ch.edits.length ce, .slice Ac ch.recs.length cc] 56) = V1 at hX1 hA1 ⊢
      generalize wr = wq at hX1 hA1 HOK HI hab ⊢
      obtain ⟨-, -, -, y3, y4⟩ := box5 hX1
      go_wp2_with fail
      clear y3 y4
      have HX1 := Lib.hid hX1
      have HA1 := Lib.hid hA1
      clear hX1 hA1
      go_loopw [28] (fun s wy => ∃ j : Nat, s = .int .i64 j ∧ j ≤ ch.edits.length ∧ Hid ((∀ x ∈ ch.edits.take j, edtSm x) ∧ Below V1.heap.size V1 wy)) (fun s _ => ch.edits.length - (intOf s).toNat)
      case atStart => exact ⟨0, rfl, Nat.zero_le _, fun x hx => by simp at hx, Below.refl _ _⟩
      case round =>
        obtain ⟨j, rfl, hj, HJ⟩ := hrel
        by_cases hjl : j < ch.edits.length
        · have hEd := (HOK.out.1.below HA1.out).below HJ.out.2
          obtain ⟨ad2, rfl, hab2, hld2⟩ := Edts.at_ hEd hjl
          have HTJ := Lib.hid (show ch.edits.take (j + 1) = ch.edits.take j ++ [ch.edits[j]] from List.take_succ_eq_append_getElem hjl)
          have hzz := HPM.out.1 ch.edits[j] (List.getElem_mem _)
          have HNE := Lib.hid (fun (h : ¬ edtSm ch.edits[j]) (hs : chgSm ch) => h (hs.1 _ (List.getElem_mem _)))
          generalize ch.edits[j] = x at hld2 HTJ hzz HNE
          obtain ⟨x0, x1, x2, x3, x4, x5, x6, x7, x8, x9, x10, x11⟩ := hld2
          have hX2 := blk_new wr [.string x.path, .int .i64 x.act, .int .i64 x.ty.base, .bool x.ty.k, .bool x.ty.l, .bool x.ty.x, .int .u64 x.sum, .int .i64 x.size, .int .i64 x.base, .string x.frm, .int .i64 x.fnum, .int .i64 x.fence] 58
          have hb2 : Below V1.heap.size V1 (wr.alloc (.cells #[.string x.path, .int .i64 x.act, .int .i64 x.ty.base, .bool x.ty.k, .bool x.ty.l, .bool x.ty.x, .int .u64 x.sum, .int .i64 x.size, .int .i64 x.base, .string x.frm, .int .i64 x.fnum, .int .i64 x.fence] 58)) := HJ.out.2.alloc HJ.out.2.size _
          clear hEd
          go_upto_region 9 with fail
          clear x0 x1 x2 x3 x4 x5 x6 x7 x8 x9 x10 x11
          generalize wr.alloc (.cells #[.string x.path, .int .i64 x.act, .int .i64 x.ty.base, .bool x.ty.k, .bool x.ty.l, .bool x.ty.x, .int .u64 x.sum, .int .i64 x.size, .int .i64 x.base, .string x.frm, .int .i64 x.fnum, .int .i64 x.fence] 58) = V2 at hX2 hb2 ⊢
          obtain ⟨y0, -, -, -, -, -, -, -, -, y9, -, -⟩ := box12 hX2
          have HB2 := Lib.hid hb2
          clear hX2 hb2
          by_cases hq : x.path.size + x.frm.size ≤ 500
          · have q : decide ((500 : Int) < (x.path.size : Int) + (x.frm.size : Int)) = false := by simp; omega
            have HQ : Hid (edtSm x) := Lib.hid hq
            clear hq
            go_wp2_with fail
            go_roundw
            case rel => exact ⟨j + 1, by go_num, by omega, fun y hy => by
              rw [HTJ.out] at hy
              rcases List.mem_append.1 hy with hy | hy
              · exact HJ.out.1 y hy
              · rw [List.mem_singleton] at hy; subst hy; exact HQ.out, HB2.out⟩
            case measure => simp [intOf]; omega
          · have q : decide ((500 : Int) < (x.path.size : Int) + (x.frm.size : Int)) = true := by simp; omega
            have HQ : Hid (¬ edtSm x) := Lib.hid hq
            clear hq
            go_wp2_with fail
            go_ret
            exact ⟨false, rfl, below_next HI.out.2.2 (below_next HA1.out HB2.out), fun h => (by cases h), fun _ => HNOT.out (HNE.out HQ.out)⟩
        · have hje : j = ch.edits.length := by omega
          subst hje
          have HES : Hid (∀ x ∈ ch.edits, edtSm x) := Lib.hid (by have := HJ.out.1; rwa [List.take_length] at this)
          have y4 : wr.cell? ⟨wq.heap.size, 4, none⟩ = some (.slice Ac ch.recs.length cc) := (HX1.out.below HJ.out.2 HX1.out.lt).cell 4
          have HJB := Lib.hid HJ.out.2
          clear HJ
          go_wp2_with fail
          clear y4
          generalize wr = V3 at HJB ⊢
          go_loopw [44] (fun s wy => ∃ j : Nat, s = .int .i64 j ∧ j ≤ ch.recs.length ∧ Hid ((∀ x ∈ ch.recs.take j, rcdSm x) ∧ Below V3.heap.size V3 wy)) (fun s _ => ch.recs.length - (intOf s).toNat)
          case atStart => exact ⟨0, rfl, Nat.zero_le _, fun x hx => by simp at hx, Below.refl _ _⟩
          case round =>
            obtain ⟨j, rfl, hj, HJ⟩ := hrel
            by_cases hjl : j < ch.recs.length
            · have hEd := ((HOK.out.2.below HA1.out).below HJB.out).below HJ.out.2
              obtain ⟨ad2, rfl, hab2, hld2⟩ := Rcds.at_ hEd hjl
              have HTJ := Lib.hid (show ch.recs.take (j + 1) = ch.recs.take j ++ [ch.recs[j]] from List.take_succ_eq_append_getElem hjl)
              have hzz := HPM.out.2 ch.recs[j] (List.getElem_mem _)
              have HNE := Lib.hid (fun (h : ¬ rcdSm ch.recs[j]) (hs : chgSm ch) => h (hs.2 _ (List.getElem_mem _)))
              generalize ch.recs[j] = x at hld2 HTJ hzz HNE
              obtain ⟨x0, x1, x2, x3, x4, x5⟩ := hld2
              have hX2 := blk_new wr [.string x.frm, .int .i64 x.first, .int .i64 x.last, .string x.to, .int .i64 x.num, .int .i64 x.how] 60
              have hb2 : Below V3.heap.size V3 (wr.alloc (.cells #[.string x.frm, .int .i64 x.first, .int .i64 x.last, .string x.to, .int .i64 x.num, .int .i64 x.how] 60)) := HJ.out.2.alloc HJ.out.2.size _
              clear hEd
              go_upto_region 15 with fail
              clear x0 x1 x2 x3 x4 x5
              generalize wr.alloc (.cells #[.string x.frm, .int .i64 x.first, .int .i64 x.last, .string x.to, .int .i64 x.num, .int .i64 x.how] 60) = V2 at hX2 hb2 ⊢
              obtain ⟨y0, -, -, y3, -, -⟩ := box6 hX2
              have HB2 := Lib.hid hb2
              clear hX2 hb2
              by_cases hq : x.frm.size + x.to.size ≤ 500
              · have q : decide ((500 : Int) < (x.frm.size : Int) + (x.to.size : Int)) = false := by simp; omega
                have HQ : Hid (rcdSm x) := Lib.hid hq
                clear hq
                go_wp2_with fail
                go_roundw
                case rel => exact ⟨j + 1, by go_num, by omega, fun y hy => by
                  rw [HTJ.out] at hy
                  rcases List.mem_append.1 hy with hy | hy
                  · exact HJ.out.1 y hy
                  · rw [List.mem_singleton] at hy; subst hy; exact HQ.out, HB2.out⟩
                case measure => simp [intOf]; omega
              · have q : decide ((500 : Int) < (x.frm.size : Int) + (x.to.size : Int)) = true := by simp; omega
                have HQ : Hid (¬ rcdSm x) := Lib.hid hq
                clear hq
                go_wp2_with fail
                go_ret
                exact ⟨false, rfl, below_next HI.out.2.2 (below_next HA1.out (below_next HJB.out HB2.out)), fun h => (by cases h), fun _ => HNOT.out (HNE.out HQ.out)⟩
            · have hje : j = ch.recs.length := by omega
              subst hje
              have HRS : Hid (∀ x ∈ ch.recs, rcdSm x) := Lib.hid (by have := HJ.out.1; rwa [List.take_length] at this)
              go_wp2_with fail
              go_roundw
              case rel =>
                refine ⟨k + 1, wrap64 (tot + ((ch.edits.length : Int) + (ch.recs.length : Int))), rfl, by go_num, by omega, ?_, ?_, below_next HI.out.2.2 (below_next HA1.out (below_next HJB.out HJ.out.2))⟩
                · intro h40
                  obtain ⟨i1, i2, i3⟩ := HI.out.1 (by omega)
                  have hwr : wrap64 (tot + ((ch.edits.length : Int) + (ch.recs.length : Int))) = tot + ((ch.edits.length : Int) + (ch.recs.length : Int)) := by unfold wrap64; omega
                  rw [hwr, HT.out, List.map_append, List.map_cons, List.map_nil, lenSum_snoc]
                  refine ⟨?_, by omega, by omega⟩
                  rw [i1]; unfold chgLen; dsimp only; omega
                · intro p hp
                  rw [HT.out] at hp
                  rcases List.mem_append.1 hp with hp | hp
                  · exact HI.out.2.1 p hp
                  · rw [List.mem_singleton] at hp; subst hp; exact ⟨HES.out, HRS.out⟩
              case measure => simp [intOf]; omega
    · have hkk : k = ps.length := by omega
      subst hkk
      have HI2 : Hid ((ps.length ≤ 40 → tot = lenSum (ps.map (·.1)) ∧ 0 ≤ tot ∧ tot ≤ ps.length * 10000000000000) ∧ (∀ c ∈ ps.map (·.1), chgSm c)) := Lib.hid (by
        have h1 := HI.out.1
        have h2 := HI.out.2.1
        rw [List.take_length] at h1 h2
        exact ⟨h1, fun c hc => by obtain ⟨p, hp, rfl⟩ := List.mem_map.1 hc; exact h2 p hp⟩)
      by_cases h40 : ps.length ≤ 40
      · have d1 : decide (ps.length ≤ 40) = true := by simp; omega
        by_cases h200 : tot ≤ 200
        · have d1' : decide ((ps.length : Int) ≤ 40) = true := by simp; omega
          have d2' : decide (tot ≤ 200) = true := by simp; omega
          go_wp2_with fail
          go_ret
          exact ⟨true, rfl, HI.out.2.2, fun _ => ⟨HI2.out.2, by rw [List.length_map]; exact h40, by have := (HI2.out.1 h40).1; omega⟩, fun h => by cases h⟩
        · have d1' : decide ((ps.length : Int) ≤ 40) = true := by simp; omega
          have d2' : decide (tot ≤ 200) = false := by simp; omega
          go_wp2_with fail
          go_ret
          exact ⟨false, rfl, HI.out.2.2, fun h => (by cases h), fun _ hs => by have h1 := (HI2.out.1 h40).1; have h2 := hs.2.2; omega⟩
      · have d1' : decide ((ps.length : Int) ≤ 40) = false := by simp; omega
        go_wp2_with fail
        go_ret
        exact ⟨false, rfl, HI.out.2.2, fun h => (by cases h), fun _ hs => h40 (by have := hs.2.1; rwa [List.length_map] at this)⟩
end Go.Proofs.YtmhmnchdhacdbaaGreatDoor
/- Region 1 of HistoryOnce: Small of the changes and one more. -/
namespace Go.Proofs.YtmhmnchdhacdbaaGreatDoor
open Go.RowKit
set_option linter.unusedVariables false
set_option linter.unusedSimpArgs false

theorem chgElem : ElemOk Tryz.prog 22 56 5 88 := elemOk_of Tryz.underlying22 (z := .agg #[.int .i64 0, .string ⟨#[]⟩, .string ⟨#[]⟩, .slice none 0 0, .slice none 0 0]) (by kernel_rfl) rfl (by decide)
theorem chv_one {w : World} {ps : List ChV} (h : ∀ p ∈ ps, p.ok w) : ∀ u ∈ ps.flatMap ChV.cells, u.oneCell' = true := by
  intro u hu
  obtain ⟨p, hp, hc⟩ := List.mem_flatMap.1 hu
  obtain ⟨⟨A, c, e, -⟩, ⟨A2, c2, e2, -⟩⟩ := h p hp
  simp only [ChV.cells, List.mem_cons, List.not_mem_nil, or_false] at hc
  rcases hc with rfl | rfl | rfl | rfl | rfl
  · rfl
  · rfl
  · rfl
  · rw [e]; rfl
  · rw [e2]; rfl
theorem below_nogrow {w w' : World} {row : Option Nat} (h : w.grownBy w' row) (hr : row = none) : Below w.heap.size w w' := ⟨h.os, h.tape, h.output, h.size, fun k hk => h.block k hk (by rw [hr]; exact fun e => by cases e)⟩
theorem chgs_own {w V : World} {base : Nat} {e : TypeId} {v : Value} {ps : List ChV} {p : ChV} (h : w.ownsRow base e 5 v (ps.length + 1) (ps.flatMap ChV.cells ++ p.cells)) (hV : Below V.heap.size V w) (h1 : ∀ q ∈ ps, q.ok V) (h2 : p.ok V) : Chgs w v (ps ++ [p]) := by
  refine ⟨?_, fun q hq => ?_⟩
  · rw [List.length_append, List.flatMap_append, List.flatMap_cons, List.flatMap_nil, List.append_nil]
    exact Row.of_own h
  · rcases List.mem_append.1 hq with hq | hq
    · exact ChV.ok_below (h1 q hq) hV
    · rw [List.mem_singleton] at hq; subst hq; exact ChV.ok_below h2 hV
/-- What Small is asked of, as a test. -/
def sizeOk (ps : List ChV) : Prop := ps.length * 88 ≤ 140737488355328 ∧ (∀ p ∈ ps, chgLen p.1 ≤ 10000000000000) ∧ ∀ p ∈ ps, (∀ x ∈ p.1.edits, x.path.size ≤ 140737488355328 ∧ x.frm.size ≤ 140737488355328) ∧ ∀ x ∈ p.1.recs, x.frm.size ≤ 140737488355328 ∧ x.to.size ≤ 140737488355328

end Go.Proofs.YtmhmnchdhacdbaaGreatDoor
