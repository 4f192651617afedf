/- history.Valid at a depot of one revision and no record. -/
import Derived.Test.YtnblfaagchflaaaGreatDoorMzApp
import Derived.Test.YtnblfaagchflaaaGreatDoorMgw28
import Derived.Test.YtnblfaagchflaaaGreatDoorMgw25
import Derived.Test.YtnblfaagchflaaaGreatDoorMgw23
import Derived.Test.YtnblfaagchflaaaGreatDoorMgw8
import Derived.Test.YtnblfaagchflaaaGreatDoorMgw18
import Derived.Test.YtnblfaagchflaaaGreatDoorMgw17
namespace Go.Proofs.YtnblfaagchflaaaGreatDoor
open Go.RowKit
set_option linter.unusedVariables false
set_option linter.unusedSimpArgs false

def CMap (w : World) (B : Nat) : Prop := ∃ f, FMap filV (fun n : Int => Value.int .i64 n) w B f
def RMap (w : World) (B : Nat) : Prop := FMap (fun n : Int => Value.int .i64 n) (fun v : Value => v) w B (fun _ => none)
theorem CMap.below {w w' : World} {B : Nat} (h : CMap w B) (hb : Below w.heap.size w w') : CMap w' B := by obtain ⟨f, h⟩ := h; exact ⟨f, FMap.below h hb⟩
theorem RMap.below {w w' : World} {B : Nat} (h : RMap w B) (hb : Below w.heap.size w w') : RMap w' B := FMap.below h hb
theorem RMap.look {w : World} {B : Nat} (h : RMap w B) (n : Int) : (Instr.lookup 91 (.map (some B)) (.int .i64 n) false).run Tryz.prog w = .ok (.slice none 0 0) w :=
  FMap.lookup h (keyOk_int Tryz.underlying3) Tryz.underlying91 (Tryz.zeroValue29 w) n false

/-- The state of Valid's second loop at one revision: k revisions are made anew. -/
structure VS (w wr : World) (g11 gr : Nat) (dv dr mv mr : Value) (r : Rev) (k : Nat) : Prop where
  bel : Below w.heap.size w wr
  le : w.heap.size ≤ g11
  boxD : Blk wr w.heap.size 31 [dv, dr]
  boxM : Blk wr g11 31 [mv, mr]
  rmap : RMap wr gr
  dep : (k = 0 ∧ mv = .slice none 0 0 ∧ mr = .slice none 0 0) ∨ (k ≠ 0 ∧ Revs wr mv [r] ∧ Rcds wr mr [])
theorem VS.zero {w wr : World} {g11 gr : Nat} {dv dr mv mr : Value} {r : Rev} {k : Nat} (h : VS w wr g11 gr dv dr mv mr r k) (hk : k = 0) : k = 0 ∧ mv = .slice none 0 0 ∧ mr = .slice none 0 0 := by
  rcases h.dep with h | h
  · exact h
  · exact absurd hk h.1

set_option maxRecDepth 100000 in
set_option maxHeartbeats 8000000 in
theorem valid_one (r : Rev) (dv dr : Value) (w : World) (hR : Revs w dv [r]) (hQ : Rcds w dr []) (hn : 0 < r.num ∧ r.num ≤ 1000000) (c0 : Chg) (hc0 : c0 = ⟨r.chg, ⟨#[]⟩, ⟨#[]⟩, [edtOf r], []⟩) (hA : appE ⟨[], []⟩ c0 = 0) (hN : newRevs ⟨[], []⟩ c0 = [r]) (hW : ChgW c0) :
    Calls Tryz.prog 17 #[.agg #[dv, dr]] w fun e w' => e = .returned (.bool true) ∧ Below w.heap.size w w' := by
  obtain ⟨revs, hrevs⟩ : ∃ l, l = [r] := ⟨_, rfl⟩
  have hlen : revs.length = 1 := by rw [hrevs]; rfl
  rw [← hrevs] at hR
  obtain ⟨Ar, cr, rfl, hcr, hmr, -⟩ := id hR
  obtain ⟨Aq, cq, rfl, hcq, hmq, -⟩ := id hQ
  unfold maxLen at hmr hmq
  have HRV := Lib.hid hrevs
  have HR := Lib.hid hR
  have HQ := Lib.hid hQ
  have HLEN := Lib.hid hlen
  have HC0 := Lib.hid hc0
  have HAP := Lib.hid hA
  have HNW := Lib.hid hN
  have HCW := Lib.hid hW
  clear hrevs hR hQ hc0 hA hN hW
  have q1 : decide ((512 : Int) < (revs.length : Int)) = false := by simp; omega
  have hB0 := blk_new w [.slice Ar revs.length cr, .slice Aq 0 cq] 31
  have hb0 : Below w.heap.size w (w.alloc (.cells #[.slice Ar revs.length cr, .slice Aq 0 cq] 31)) := (Below.refl _ _).alloc (Nat.le_refl _) _
  clear hlen
  go_enter Tryz.func17, Tryz.ntmps17
  go_upto_region 1 with fail
  generalize w.alloc (.cells #[.slice Ar revs.length cr, .slice Aq 0 cq] 31) = W1 at hB0 hb0 ⊢
  obtain ⟨d0, d1, -, -⟩ := box2 hB0
  have hmm := @run_makeMap Tryz.prog
  have hM1 := FMap.new filV (fun n : Int => Value.int .i64 n) W1
  have hW2 : Below W1.heap.size W1 (W1.alloc (.map #[] 0)) := (Below.refl _ _).alloc (Nat.le_refl _) _
  go_upto_region 4 with fail
  have hsz1 := hB0.lt
  generalize hg1 : W1.heap.size = gm at hM1 hsz1 ⊢
  have hle1 : w.heap.size ≤ gm := by omega
  have HS1 : Hid (CMap (W1.alloc (.map #[] 0)) gm ∧ Blk (W1.alloc (.map #[] 0)) w.heap.size 31 [.slice Ar revs.length cr, .slice Aq 0 cq] ∧ Below w.heap.size w (W1.alloc (.map #[] 0))) := Lib.hid ⟨⟨_, hM1⟩, hB0.alloc _, hb0.alloc hb0.size _⟩
  clear hM1 d0 d1 hB0 hb0 hW2 hg1
  generalize W1.alloc (.map #[] 0) = W2 at HS1 ⊢
  have d0 : W2.cell? ⟨w.heap.size, 0, none⟩ = some (.slice Ar revs.length cr) := HS1.out.2.1.cell 0
  go_wp2_with fail
  clear d0
  go_loopw [30] (fun s wr => ∃ k : Nat, s = .int .i64 k ∧ k ≤ revs.length ∧ Hid (CMap wr gm ∧ Blk wr w.heap.size 31 [.slice Ar revs.length cr, .slice Aq 0 cq] ∧ Below w.heap.size w wr)) (fun s _ => revs.length - (intOf s).toNat)
  case atStart => exact ⟨0, rfl, Nat.zero_le _, HS1.out⟩
  case round =>
    obtain ⟨k, rfl, hk, HI⟩ := hrel
    by_cases hlt : k < revs.length
    · obtain ⟨ad, rfl, hab, hld⟩ := Revs.at_ (HR.out.below HI.out.2.2) hlt
      generalize revs[k] = x at hld
      obtain ⟨x0, x1, x2, x3, x4, x5, x6, x7, x8, x9, x10, x11⟩ := hld
      have hX := blk_new wr [.string x.path, .int .i64 x.num, .int .i64 x.chg, .int .i64 x.act, .int .i64 x.ty.base, .bool x.ty.k, .bool x.ty.l, .bool x.ty.x, .int .u64 x.sum, .int .i64 x.size, .string x.frm, .int .i64 x.fnum] 40
      have hA1 : Below wr.heap.size wr (wr.alloc (.cells #[.string x.path, .int .i64 x.num, .int .i64 x.chg, .int .i64 x.act, .int .i64 x.ty.base, .bool x.ty.k, .bool x.ty.l, .bool x.ty.x, .int .u64 x.sum, .int .i64 x.size, .string x.frm, .int .i64 x.fnum] 40)) := (Below.refl _ _).alloc (Nat.le_refl _) _
      go_upto_region 7 with fail
      clear x0 x1 x2 x3 x4 x5 x6 x7 x8 x9 x10 x11
      generalize wr.alloc (.cells #[.string x.path, .int .i64 x.num, .int .i64 x.chg, .int .i64 x.act, .int .i64 x.ty.base, .bool x.ty.k, .bool x.ty.l, .bool x.ty.x, .int .u64 x.sum, .int .i64 x.size, .string x.frm, .int .i64 x.fnum] 40) = V1 at hX hA1 ⊢
      obtain ⟨f, hf⟩ := CMap.below HI.out.1 hA1
      obtain ⟨c0', c1', c2', -, -, -, -, -, -, -, -, -⟩ := box12 hX
      obtain ⟨w3, hup, hf3, hg3, hs3⟩ := FMap.update hf keyOk_fil Tryz.underlying88 (x.path, x.num) x.chg
      have hup' : (Instr.mapUpdate 88 (.map (some gm)) (.agg #[.string x.path, .int .i64 x.num]) (.int .i64 x.chg)).run Tryz.prog V1 = .ok () w3 := hup
      have HN : Hid (CMap w3 gm ∧ Blk w3 w.heap.size 31 [.slice (some ad) revs.length cr, .slice Aq 0 cq] ∧ Below w.heap.size w w3) := Lib.hid ⟨⟨_, hf3⟩, (HI.out.2.1.below hA1 HI.out.2.1.lt).turn (FMap.obj hf) hg3, (below_next HI.out.2.2 hA1).grown hg3 (below_next HI.out.2.2 hA1).size (fun j e => by injection e with e; omega)⟩
      clear hup hf hf3 hg3 hs3 hX hA1
      go_wp2_with fail
      go_roundw
      case rel => exact ⟨k + 1, by go_num, by omega, HN.out⟩
      case measure => simp [intOf]; omega
    · have hkk : k = revs.length := by omega
      subst hkk
      generalize wr = W3 at HI ⊢
      have hM2 := FMap.new (fun n : Int => Value.int .i64 n) (fun v : Value => v) W3
      have hR2 : RMap (W3.alloc (.map #[] 0)) W3.heap.size := hM2
      have hA2 : Below W3.heap.size W3 (W3.alloc (.map #[] 0)) := (Below.refl _ _).alloc (Nat.le_refl _) _
      have hmm := @run_makeMap Tryz.prog
      go_upto_region 10 with fail
      generalize W3.alloc (.map #[] 0) = W4 at hM2 hR2 hA2 ⊢
      clear hM2
      have HR2 := Lib.hid hR2
      have HD4 : Hid (Blk W4 w.heap.size 31 [.slice Ar revs.length cr, .slice Aq 0 cq] ∧ Below w.heap.size w W4) := Lib.hid ⟨HI.out.2.1.below hA2 HI.out.2.1.lt, below_next HI.out.2.2 hA2⟩
      have d1 : W4.cell? ⟨w.heap.size, 1, none⟩ = some (.slice Aq 0 cq) := HD4.out.1.cell 1
      clear hR2 hA2 hmm
      go_wp2_with fail
      refine wp_loop_rounds 1 ?_
      rw [rounds_succ]
      go_upto_region 18 with fail
      clear d1
      generalize W3.heap.size = gr at HR2 ⊢
      clear HS1 HI
      have HV4 : Hid (VS w (W4.alloc (.cells #[.slice none 0 0, .slice none 0 0] 31)) W4.heap.size gr (.slice Ar revs.length cr) (.slice Aq 0 cq) (.slice none 0 0) (.slice none 0 0) r 0) := Lib.hid
        ⟨HD4.out.2.alloc HD4.out.2.size _, HD4.out.2.size, HD4.out.1.alloc _, blk_new W4 _ _, HR2.out.below ((Below.refl _ _).alloc (Nat.le_refl _) _), .inl ⟨rfl, rfl, rfl⟩⟩
      have hg11 : w.heap.size < W4.heap.size := HD4.out.1.lt
      go_wp2_with fail
      generalize W4.alloc (.cells #[.slice none 0 0, .slice none 0 0] 31) = W5 at HV4 ⊢
      generalize W4.heap.size = g11 at HV4 hg11 ⊢
      clear HD4 HR2
      go_loopw [12] (fun s wr => ∃ (k : Nat) (mv mr : Value), s = .int .i64 k ∧ k ≤ revs.length ∧ Hid (VS w wr g11 gr (.slice Ar revs.length cr) (.slice Aq 0 cq) mv mr r k)) (fun s _ => revs.length - (intOf s).toNat)
      case atStart => exact ⟨0, _, _, rfl, Nat.zero_le _, HV4.out⟩
      case round =>
        obtain ⟨k, mv, mr, rfl, hk, HI⟩ := hrel
        clear HV4
        by_cases hlt : k < revs.length
        · have hk0 : k = 0 := by have := HLEN.out; omega
          obtain ⟨-, hmv, hmr⟩ := HI.out.zero hk0
          subst hmv hmr
          obtain ⟨ad, rfl, hab, hld⟩ := Revs.at_ (HR.out.below HI.out.bel) hlt
          have hrk : revs[k] = r := by subst hk0; simp [HRV.out]
          rw [hrk] at hld
          obtain ⟨x0, x1, x2, x3, x4, x5, x6, x7, x8, x9, x10, x11⟩ := hld
          have HK0 := Lib.hid hk0
          clear hk0 hrk x0 x1 x3 x4 x5 x6 x7 x8 x9 x10 x11
          have e0 : wr.cell? ⟨w.heap.size, 0, none⟩ = some (.slice (some ad) revs.length cr) := HI.out.boxD.cell 0
          have hX := blk_new wr [.int .i64 r.chg, .string ⟨#[]⟩, .string ⟨#[]⟩, .slice none 0 0, .slice none 0 0] 53
          have hA1 : Below wr.heap.size wr (wr.alloc (.cells #[.int .i64 r.chg, .string ⟨#[]⟩, .string ⟨#[]⟩, .slice none 0 0, .slice none 0 0] 53)) := (Below.refl _ _).alloc (Nat.le_refl _) _
          go_upto_region 22 with fail
          clear x2 e0
          have HVE : Hid (VE wr (wr.alloc (.cells #[.int .i64 r.chg, .string ⟨#[]⟩, .string ⟨#[]⟩, .slice none 0 0, .slice none 0 0] 53)) wr.heap.size r.chg (.slice none 0 0) 0 []) := Lib.hid ⟨hA1, Nat.le_refl _, hX, World.ownsRow_nil _ _ _ _, fun e => by cases e⟩
          generalize wr.alloc (.cells #[.int .i64 r.chg, .string ⟨#[]⟩, .string ⟨#[]⟩, .slice none 0 0, .slice none 0 0] 53) = V1 at hX hA1 HVE ⊢
          clear hX hA1
          generalize wr = U at HI HVE hab ⊢
          go_loopw [12] (fun s wy => ∃ (j : Nat) (v1 : Value) (es : List Edt), s = .int .i64 j ∧ j ≤ revs.length ∧ Hid (es = (revs.take j).map edtOf ∧ VE U wy U.heap.size r.chg v1 es.length (es.flatMap Edt.cells))) (fun s _ => revs.length - (intOf s).toNat)
          case atStart => exact ⟨k, _, [], rfl, hk, by rw [HK0.out]; rfl, HVE.out⟩
          case round =>
            obtain ⟨j, v1, es, rfl, hj, HJ⟩ := hrel
            clear HVE
            have hbU := below_next HI.out.bel HJ.out.2.bel
            have e0 : wr.cell? ⟨w.heap.size, 0, none⟩ = some (.slice (some ad) revs.length cr) := (HI.out.boxD.below HJ.out.2.bel HI.out.boxD.lt).cell 0
            have e1 : wr.cell? ⟨U.heap.size, 0, none⟩ = some (.int .i64 r.chg) := HJ.out.2.box.cell 0
            by_cases hjl : j < revs.length
            · obtain ⟨ad', had, hab', hld⟩ := Revs.at_ (HR.out.below hbU) hjl
              injection had with had
              subst had
              have hrj : revs[j] = r := by have := HLEN.out; have hj0 : j = 0 := by omega
                                           subst hj0; simp [HRV.out]
              rw [hrj] at hld
              have x2 := hld.2.2.1
              have HRJ := Lib.hid hrj
              have HBU := Lib.hid hbU
              have d1 : decide (j < revs.length) = true := by simp; omega
              clear hld hrj hbU
              go_wp2_with fail
              go_quiet (fail)
              clear x2 e0 e1
              have HJ2 := Lib.hid (HJ.out.2.under (below_dN (Below.refl wr.heap.size wr) nq))
              have HD2 : Hid (Blk (wr.drewN nq) w.heap.size 31 [.slice (some ad) revs.length cr, .slice Aq 0 cq]) := Lib.hid (HI.out.boxD.below HJ2.out.bel HI.out.boxD.lt)
              have HEO := Lib.hid (fun X (hX : Below (wr.drewN nq).heap.size (wr.drewN nq) X) => editOf_any revs j (.slice (some ad) revs.length cr) (.slice Aq 0 cq) X (HR.out.below (below_next (below_dN HBU.out nq) hX)) hjl r HRJ.out hn)
              have hes : es.length ≤ 100000 := by have := HLEN.out; rw [HJ.out.1, List.length_map, List.length_take]; omega
              generalize wr.drewN nq = wz at HJ2 HD2 HEO ⊢
              go_upto_region 24 with fail
              refine region24 _ (by kernel_rfl) _ w.heap.size U.heap.size es.length j r.chg (edtOf r) v1 (.slice (some ad) revs.length cr) (.slice Aq 0 cq) _ U wz HJ2.out HD2.out ⟨⟨_, _, _, rfl⟩, _, _, _, rfl⟩ hes HEO.out _ _ _ _ _ _ _ _ _ _ _ _ _ _ _ _ _ _ _ _ _ _ _ _ _ _ _ _ _ _ _ _ _ _ _ _ _ _ _ _ _ _ _ _ _ _ _ _ _ _ _ _ _ _ _ _ _ _ _ _ _ _ _ _ _ _ _ _ _ _ _ _ _ _ _ _ _ _ _ _ _ _ _ _ _ _ _ _ _ _ _ _ _ _ _ _ _ _ _ _ _ _ _ _ _ _ _ _ _ _ _ _ _ _ _ _ _ _ _ _ _ _ _ _ _ _ _ _ _ _ _ _ _ ?_
              intro t102 t103 t104 t105 t106 t107 t108 t109 v3 w6 HQ2
              go_wp2_with fail
              go_roundw
              case rel =>
                refine ⟨j + 1, v3, es ++ [edtOf r], by go_num, by omega, ?_, ?_⟩
                · rw [List.take_succ_eq_append_getElem hjl, List.map_append, HRJ.out, HJ.out.1]; rfl
                · have := HQ2.out
                  rw [List.length_append, List.flatMap_append, List.flatMap_cons, List.flatMap_nil, List.append_nil]
                  exact this
              case measure => simp [intOf]; omega
            · have d1 : decide (j < revs.length) = false := by simp; omega
              have HES : Hid (es = [edtOf r]) := Lib.hid (by rw [HJ.out.1, List.take_of_length_le (by omega), HRV.out]; rfl)
              clear hbU
              go_wp2_with fail
              go_quiet (fail)
              clear e0 e1
              have hes := HES.out
              subst hes
              have HJ2 : Hid (VE U (wr.drewN nq) U.heap.size r.chg v1 1 (edtOf r).cells) := Lib.hid (by have := HJ.out.2.under (below_dN (Below.refl wr.heap.size wr) nq); simpa using this)
              clear HJ HES
              generalize wr.drewN nq = wz at HJ2 ⊢
              obtain ⟨A1, c1, hv1⟩ := own_slice HJ2.out.one
              subst hv1
              have hUz := HJ2.out.bel
              have hg11U : g11 < U.heap.size := HI.out.boxM.lt
              have hlk := RMap.look (HI.out.rmap.below hUz) r.chg
              have e1 : wz.cell? ⟨U.heap.size, 0, none⟩ = some (.int .i64 r.chg) := HJ2.out.box.cell 0
              have e4 : wz.cell? ⟨U.heap.size, 4, none⟩ = some (.slice none 0 0) := HJ2.out.box.cell 4
              have f4 : wz.frozen? ⟨U.heap.size, 4, none⟩ = false := HJ2.out.box.frozen 4
              have HC2 : Hid (Blk (wz.setCell ⟨U.heap.size, 4, none⟩ (.slice none 0 0)) U.heap.size 53 [.int .i64 r.chg, .string ⟨#[]⟩, .string ⟨#[]⟩, .slice A1 1 c1, .slice none 0 0]) := Lib.hid (HJ2.out.box.set_ 4 _)
              have HO2 : Hid (Row (wz.setCell ⟨U.heap.size, 4, none⟩ (.slice none 0 0)) 12 (.slice A1 1 c1) 1 (edtOf r).cells) := Lib.hid (Row.of_own (own_setCell HJ2.out.one (p := ⟨U.heap.size, 4, none⟩) HJ2.out.ne1 _))
              have HU2 : Hid (Below U.heap.size U (wz.setCell ⟨U.heap.size, 4, none⟩ (.slice none 0 0))) := Lib.hid (hUz.setCell (p := ⟨U.heap.size, 4, none⟩) (Nat.le_refl _) _)
              clear hUz
              go_upto_region 26 with fail
              clear hlk e1 e4 f4 HJ2
              generalize wz.setCell ⟨U.heap.size, 4, none⟩ (.slice none 0 0) = w2 at HC2 HO2 HU2 ⊢
              have HM2 := Lib.hid (HI.out.boxM.below HU2.out HI.out.boxM.lt)
              obtain ⟨m0, m1, -, -⟩ := box2 HM2.out
              obtain ⟨y0, y1, y2, y3, y4⟩ := box5 HC2.out
              have hc0' := HC0.out
              subst hc0'
              have HAA := Lib.hid (append_any ⟨[], []⟩ ⟨r.chg, ⟨#[]⟩, ⟨#[]⟩, [edtOf r], []⟩ (.slice none 0 0) (.slice none 0 0) (.slice A1 1 c1) (.slice none 0 0) w2 (Revs.nil_ _) (Rcds.nil_ _) (by unfold Edts; simpa using HO2.out) (Rcds.nil_ _) depW_nil HCW.out)
              go_wp2_with fail
              refine HAA.out.mono ?_
              rintro e V2 ⟨hb2, ⟨hn0, rfl⟩ | ⟨h0, dv', dr', rs, rfl, hR', hQ', hpm', hpw', hf1, hf2⟩⟩
              · exact absurd HAP.out hn0
              · clear m0 m1 y0 y1 y2 y3 y4
                have hrs : rs = [] := by simpa using hpm'
                subst hrs
                rw [HNW.out] at hR'
                obtain ⟨A5, c5, rfl, -⟩ := id hR'
                obtain ⟨A6, c6, rfl, -⟩ := id hQ'
                have hR1 : Revs V2 (.slice A5 1 c5) [r] := hR'
                have hQ1 : Rcds V2 (.slice A6 0 c6) [] := hQ'
                have hUV := below_next HU2.out hb2
                have hle2 := HU2.out.size
                have h3a := (HI.out.boxM.below hUV HI.out.boxM.lt).alloc (.cells #[.slice A5 1 c5, .slice A6 0 c6] 31)
                have hUa : Below U.heap.size U (V2.alloc (.cells #[.slice A5 1 c5, .slice A6 0 c6] 31)) := hUV.alloc hUV.size _
                have hx6 := blk_new V2 [.slice A5 1 c5, .slice A6 0 c6] 31
                have hr6 := hR1.below ((Below.refl _ _).alloc (Nat.le_refl _) (.cells #[.slice A5 1 c5, .slice A6 0 c6] 31))
                have hq6 := hQ1.below ((Below.refl _ _).alloc (Nat.le_refl _) (.cells #[.slice A5 1 c5, .slice A6 0 c6] 31))
                have HFR : Hid (Fresh w2.heap.size (.slice A5 1 c5) ∧ Fresh w2.heap.size (.slice A6 0 c6)) := Lib.hid ⟨hf1, hf2⟩
                clear hR' hQ' hR1 hQ1 hpm' hpw' hf1 hf2 hb2 hUV h0
                go_upto_region 27 with fail
                generalize V2.alloc (.cells #[.slice A5 1 c5, .slice A6 0 c6] 31) = V3 at h3a hUa hx6 hr6 hq6 ⊢
                obtain ⟨z0, z1, f0, f1⟩ := box2 h3a
                obtain ⟨w0, w1, -, -⟩ := box2 hx6
                have HUA := Lib.hid hUa
                have H3A := Lib.hid h3a
                have HR6 := Lib.hid hr6
                have HQ6 := Lib.hid hq6
                clear hUa h3a hr6 hq6 hx6
                go_wp2_with fail
                go_roundw
                case rel =>
                  have n1 : (Value.slice A5 1 c5).ownBlock ≠ some g11 := fun e => by have := HFR.out.1 _ e; omega
                  have n2 : (Value.slice A6 0 c6).ownBlock ≠ some g11 := fun e => by have := HFR.out.2 _ e; omega
                  have hbw := below_next HI.out.bel HUA.out
                  refine ⟨j, .slice A5 1 c5, .slice A6 0 c6, rfl, hj, (hbw.setCell (p := ⟨g11, 0, none⟩) (by simp; omega) _).setCell (p := ⟨g11, 1, none⟩) (by simp; omega) _, HI.out.le, ?_, (H3A.out.set_ 0 _).set_ 1 _, ?_, .inr ⟨by have := HLEN.out; omega, Row.setCell_far (Row.setCell_far HR6.out n1) n1, Row.setCell_far (Row.setCell_far HQ6.out n2) n2⟩⟩
                  · exact ((HI.out.boxD.below HUA.out HI.out.boxD.lt).far (p := ⟨g11, 0, none⟩) (by simp; omega) _).far (p := ⟨g11, 1, none⟩) (by simp; omega) _
                  · have hm := HI.out.rmap.below HUA.out
                    have hob := FMap.obj hm
                    have hne : gr ≠ g11 := fun e => by
                      obtain ⟨es', c', ho⟩ := hob
                      have hb := H3A.out
                      unfold Blk at hb
                      rw [← e, ho] at hb
                      cases hb
                    exact FMap.keep (FMap.keep hm (Below.heap_setCell _ _ _ _ hne)) (Below.heap_setCell _ _ _ _ hne)
                case measure => simp [intOf]; have := HLEN.out; have := HK0.out; omega
        · have hkk : k = revs.length := by omega
          have hk0 : k ≠ 0 := by have := HLEN.out; omega
          have hdep : Revs wr mv [r] ∧ Rcds wr mr [] := by
            rcases HI.out.dep with h | h
            · exact absurd h.1 hk0
            · exact h.2
          obtain ⟨A5, c5, rfl, -⟩ := id hdep.1
          obtain ⟨A6, c6, rfl, -⟩ := id hdep.2
          have hRw := HR.out.below HI.out.bel
          have hd1 : Revs wr (.slice A5 1 c5) [r] := hdep.1
          have hd2 : Rcds wr (.slice A6 0 c6) [] := hdep.2
          have hQw : Rcds wr (.slice Aq 0 cq) [] := HQ.out.below HI.out.bel
          have hE1 := equal_rev [r] revs (.slice A5 1 c5) (.slice Ar revs.length cr) wr hd1 hRw
          rw [show decide ([r] = revs) = true by simp [HRV.out]] at hE1
          have HE1 := Lib.hid hE1
          have HE2 := Lib.hid (fun X (hX : Below wr.heap.size wr X) => equal_rcd [] [] (.slice A6 0 c6) (.slice Aq 0 cq) X (hd2.below hX) (hQw.below hX))
          have e0 : wr.cell? ⟨w.heap.size, 0, none⟩ = some (.slice Ar revs.length cr) := HI.out.boxD.cell 0
          have m0 : wr.cell? ⟨g11, 0, none⟩ = some (.slice A5 1 c5) := HI.out.boxM.cell 0
          have dlt : decide (k < revs.length) = false := by simp; omega
          clear hkk hk0 hdep hRw hd1 hd2 hQw hE1
          go_wp2_with fail
          refine HE1.out.mono ?_
          rintro e w7 ⟨rfl, hb7⟩
          have e1 : w7.cell? ⟨w.heap.size, 1, none⟩ = some (.slice Aq 0 cq) := (HI.out.boxD.below hb7 HI.out.boxD.lt).cell 1
          have m1 : w7.cell? ⟨g11, 1, none⟩ = some (.slice A6 0 c6) := (HI.out.boxM.below hb7 HI.out.boxM.lt).cell 1
          have HE3 := Lib.hid (HE2.out w7 hb7)
          have HB7 := Lib.hid hb7
          clear hb7 e0 m0
          go_wp2_with fail
          refine HE3.out.mono ?_
          rintro e w8 ⟨rfl, hb8⟩
          have HB8 := Lib.hid hb8
          clear hb8 e1 m1
          go_wp2_with fail
          go_ret
          exact ⟨rfl, below_next HI.out.bel (below_next HB7.out HB8.out)⟩
end Go.Proofs.YtnblfaagchflaaaGreatDoor
/- The statements' own awake. -/
namespace Go.Proofs.YtnblfaagchflaaaGreatDoor
open Go.RowKit
set_option linter.unusedVariables false
set_option linter.unusedSimpArgs false

def wPath : ByteArray := ⟨#[47, 47, 97, 47, 120]⟩
def wRev : Rev := ⟨wPath, 1, 5, 1, ⟨1, false, false, false⟩, 0, 0, ⟨#[]⟩, 0⟩
def wEdt : Edt := ⟨wPath, 1, ⟨1, false, false, false⟩, 0, 0, 0, ⟨#[]⟩, 0, 0⟩
def wChg : Chg := ⟨5, ⟨#[]⟩, ⟨#[]⟩, [wEdt], []⟩
theorem w_valid : validS wPath = true := by decide
theorem w_every : everyE (lastOf []) emptyS [wEdt] = 0 := by
  have h1 : editE (lastOf []) emptyS wEdt = 0 := by
    unfold editE
    rw [if_neg (by
      rintro (h | h)
      · exact absurd w_valid (by show ¬ validS wEdt.path = true; rw [h]; decide)
      · exact absurd h (by decide)), if_neg (fun h => h.1 rfl)]
    decide
  rw [everyE, h1]; rfl
theorem w_app : appE ⟨[], []⟩ wChg = 0 := by
  have h1 : sizeE [] wChg = 0 := by decide
  have h3 : movesE wChg.edits = 0 := by decide
  have h4 : recsE [] wChg = 0 := by unfold recsE wChg; rfl
  have h5 : roomE ⟨[], []⟩ wChg = 0 := by decide
  have h2 : everyE (lastOf []) emptyS wChg.edits = 0 := w_every
  unfold appE
  rw [h1, firstE_skip, h2, firstE_skip, h3, firstE_skip, h4, firstE_skip, h5, firstE_skip]; rfl
theorem w_new : newRevs ⟨[], []⟩ wChg = [wRev] := rfl
theorem w_chgW : ChgW wChg := ⟨by decide, by decide, fun x hx => by
  have : x = wEdt := by simpa [wChg] using hx
  subst this; decide, fun r hr => by simp [wChg] at hr⟩

set_option maxRecDepth 100000 in
set_option maxHeartbeats 4000000 in
theorem awake_any (w : World) : Calls Tryz.prog 6 #[] w fun e w' => e = .returned (.bool true) ∧ Below w.heap.size w w' := by
  have HG : Hid (greatest [wRev] wPath (fun _ => true) = some wRev) := Lib.hid (by simp [greatest, wRev])
  go_enter Tryz.func6, Tryz.ntmps6
  go_wp2_with fail
  have hB1 : Blk ((w.alloc (.cells #[.int .i64 1, .bool false, .bool false, .bool false] 35)).alloc (.cells #[.string ⟨#[47, 47, 97, 47, 120]⟩, .int .i64 1, .int .i64 1, .bool false, .bool false, .bool false, .int .u64 0, .int .i64 0, .int .i64 0, .string ⟨#[]⟩, .int .i64 0, .int .i64 0] 55)) (w.heap.size + 1) 55 ([wEdt].flatMap Edt.cells) := blk_at (cs := [wEdt].flatMap Edt.cells) (by simp)
  have hb1 : Below w.heap.size w ((w.alloc (.cells #[.int .i64 1, .bool false, .bool false, .bool false] 35)).alloc (.cells #[.string ⟨#[47, 47, 97, 47, 120]⟩, .int .i64 1, .int .i64 1, .bool false, .bool false, .bool false, .int .u64 0, .int .i64 0, .int .i64 0, .string ⟨#[]⟩, .int .i64 0, .int .i64 0] 55)) := below_alloc' (below_alloc' (Below.refl _ _) _) _
  generalize (w.alloc (.cells #[.int .i64 1, .bool false, .bool false, .bool false] 35)).alloc (.cells #[.string ⟨#[47, 47, 97, 47, 120]⟩, .int .i64 1, .int .i64 1, .bool false, .bool false, .bool false, .int .u64 0, .int .i64 0, .int .i64 0, .string ⟨#[]⟩, .int .i64 0, .int .i64 0] 55) = W1 at hB1 hb1 ⊢
  have HAA := Lib.hid (append_any ⟨[], []⟩ wChg (.slice none 0 0) (.slice none 0 0) (.slice (some ⟨w.heap.size + 1, 0, none⟩) 1 1) (.slice none 0 0) W1 (Revs.nil_ _) (Rcds.nil_ _) (hB1.row (size := 12) (n := 1) rfl (by unfold maxLen; omega)) (Rcds.nil_ _) depW_nil w_chgW)
  have HB1 := Lib.hid hb1
  clear hB1 hb1
  refine HAA.out.mono ?_
  rintro e V2 ⟨hb2, ⟨hn0, rfl⟩ | ⟨h0, dv', dr', rs, rfl, hR', hQ', hpm', hpw', hf1, hf2⟩⟩
  · exact absurd w_app hn0
  · have hrs : rs = [] := by simpa [wChg] using hpm'
    subst hrs
    rw [w_new] at hR'
    obtain ⟨A5, c5, rfl, -⟩ := id hR'
    obtain ⟨A6, c6, rfl, -⟩ := id hQ'
    have hR1 : Revs V2 (.slice A5 1 c5) [wRev] := hR'
    have hQ1 : Rcds V2 (.slice A6 0 c6) [] := hQ'
    have hb3 := below_next HB1.out hb2
    have hA3 : Below V2.heap.size V2 (V2.alloc (.cells #[.slice A5 1 c5, .slice A6 0 c6] 31)) := (Below.refl _ _).alloc (Nat.le_refl _) _
    have hx3 := blk_new V2 [.slice A5 1 c5, .slice A6 0 c6] 31
    clear hR' hQ' hpm' hpw' hf1 hf2 hb2 h0
    go_upto_region 3 with fail
    generalize V2.alloc (.cells #[.slice A5 1 c5, .slice A6 0 c6] 31) = V3 at hA3 hx3 ⊢
    obtain ⟨z0, z1, -, -⟩ := box2 hx3
    have hLa := last_any [wRev] wPath (.slice A5 1 c5) (.slice A6 0 c6) V3 (hR1.below hA3) (by decide)
    rw [HG.out] at hLa
    have HLA : Hid (Calls Tryz.prog 16 #[.agg #[.slice A5 1 c5, .slice A6 0 c6], .string ⟨#[47, 47, 97, 47, 120]⟩] V3 fun e w' => e = .returned (.tuple #[.agg #[.string ⟨#[47, 47, 97, 47, 120]⟩, .int .i64 1, .int .i64 5, .int .i64 1, .int .i64 1, .bool false, .bool false, .bool false, .int .u64 0, .int .i64 0, .string ⟨#[]⟩, .int .i64 0], .bool true]) ∧ Below V3.heap.size V3 w') := Lib.hid hLa
    have HX3 := Lib.hid hx3
    have HS3 : Hid (Below w.heap.size w V3 ∧ Revs V3 (.slice A5 1 c5) [wRev] ∧ Rcds V3 (.slice A6 0 c6) []) := Lib.hid ⟨below_next hb3 hA3, hR1.below hA3, hQ1.below hA3⟩
    clear hLa hx3 hb3 hA3 hR1 hQ1
    go_wp2_with fail
    refine HLA.out.mono ?_
    rintro e V4 ⟨rfl, hb4⟩
    clear z0 z1
    have HB4 := Lib.hid hb4
    clear hb4
    have hA5 : Below V4.heap.size V4 (V4.alloc (.cells #[.string ⟨#[47, 47, 97, 47, 120]⟩, .int .i64 1, .int .i64 5, .int .i64 1, .int .i64 1, .bool false, .bool false, .bool false, .int .u64 0, .int .i64 0, .string ⟨#[]⟩, .int .i64 0] 40)) := (Below.refl _ _).alloc (Nat.le_refl _) _
    have hx5 := blk_new V4 [.string ⟨#[47, 47, 97, 47, 120]⟩, .int .i64 1, .int .i64 5, .int .i64 1, .int .i64 1, .bool false, .bool false, .bool false, .int .u64 0, .int .i64 0, .string ⟨#[]⟩, .int .i64 0] 40
    go_upto_region 4 with fail
    generalize V4.alloc (.cells #[.string ⟨#[47, 47, 97, 47, 120]⟩, .int .i64 1, .int .i64 5, .int .i64 1, .int .i64 1, .bool false, .bool false, .bool false, .int .u64 0, .int .i64 0, .string ⟨#[]⟩, .int .i64 0] 40) = V5 at hA5 hx5 ⊢
    have hb35 := below_next HB4.out hA5
    obtain ⟨-, y1, y2, -, -, -, -, -, -, -, -, -⟩ := box12 hx5
    obtain ⟨z0, z1, -, -⟩ := box2 (HX3.out.below hb35 HX3.out.lt)
    have HV := Lib.hid (valid_one wRev (.slice A5 1 c5) (.slice A6 0 c6) V5 (HS3.out.2.1.below hb35) (HS3.out.2.2.below hb35) (by decide) wChg rfl w_app w_new w_chgW)
    have HB5 := Lib.hid (below_next HS3.out.1 hb35)
    clear hb35 hA5 hx5
    go_wp2_with fail
    refine HV.out.mono ?_
    rintro e V6 ⟨rfl, hb6⟩
    have HB6 := Lib.hid hb6
    clear hb6 y1 y2 z0 z1
    go_wp2_with fail
    go_ret
    exact ⟨rfl, below_next HB5.out HB6.out⟩
end Go.Proofs.YtnblfaagchflaaaGreatDoor
/- The reference's Append: the region of the records. -/
namespace Go.Proofs.YtnblfaagchflaaaGreatDoor
open Go.RowKit
set_option linter.unusedVariables false
set_option linter.unusedSimpArgs false

/-- What Sorted leaves of a row of records. -/
def SoR (w6 w7 : World) (base : Nat) (v : Value) (rs : List Rcd) : Prop := ∃ l : List Rcd, l.Perm rs ∧ l.Pairwise (fun a b => 0 ≤ cmpR b a) ∧ w7.ownsRow base 57 6 v rs.length (l.flatMap Rcd.cells) ∧ w6.grownBy w7 v.ownBlock
theorem fine_list : ∀ {rs : List Rcd}, (∀ r ∈ rs, r.fine) → ∃ l : List FnRcd, l.map (·.1) = rs
  | [], _ => ⟨[], rfl⟩
  | r :: rs, h => by
    obtain ⟨l, hl⟩ := fine_list (rs := rs) fun x hx => h x (List.mem_cons_of_mem _ hx)
    exact ⟨⟨r, h r (List.mem_cons_self ..)⟩ :: l, by rw [List.map_cons, hl]⟩
theorem fine_enc (l : List FnRcd) : l.flatMap FnRcd.enc = (l.map (·.1)).flatMap Rcd.cells := by
  induction l with
  | nil => rfl
  | cons a l ih => rw [List.flatMap_cons, List.map_cons, List.flatMap_cons, ih]; rfl
theorem sorted_recs (rs : List Rcd) (hf : ∀ r ∈ rs, r.fine) (v : Value) (base : Nat) (w6 : World) (he : Env w6) (hg : 0 < base) (hown : w6.ownsRow base 57 6 v rs.length (rs.flatMap Rcd.cells)) (hl : rs.length ≤ 100000) :
    Calls Tryz.prog 62 #[v] w6 fun e w7 => e = .returned v ∧ SoR w6 w7 base v rs := by
  obtain ⟨l, rfl⟩ := fine_list hf
  rw [List.length_map] at hown hl
  rw [← fine_enc] at hown
  refine (refSorted_any l v base w6 he hg hown hl).mono ?_
  rintro e w7 ⟨rfl, l', h1, h2, h3, h4⟩
  refine ⟨rfl, l'.map (·.1), h1.map _, ?_, ?_, h4⟩
  · rw [List.pairwise_map]
    refine h2.imp ?_
    intro a b h
    have : ¬ cmpR b.1 a.1 < 0 := h
    omega
  · rw [List.length_map, ← fine_enc]; exact h3
set_option maxRecDepth 100000 in
set_option maxHeartbeats 8000000 in
theorem raR11 (ops : Array Oper) (hops : Tryz.f32.body.bind (regAt 11) = some ops) (Q : Exit → Act → World → Prop) (g2 g3 g7 n : Nat) (num : Int) (cl tx : ByteArray) (Aq Ac Ae : Option Addr) (ne cq cc ce : Nat) (ds cs : List Rcd) (v0 v1 : Value) (xs : List Value) (V V1 : World)
    (hR : ApR V V1 g7 v1 (.slice none 0 0) n 0 xs []) (hD : Blk V1 g2 31 [v0, .slice Aq ds.length cq]) (hC : Blk V1 g3 53 [.int .i64 num, .string cl, .string tx, .slice Ae ne ce, .slice Ac cs.length cc]) (hQd : Rcds V1 (.slice Aq ds.length cq) ds) (hQc : Rcds V1 (.slice Ac cs.length cc) cs)
    (hf : ∀ r ∈ ds ++ cs, r.fine) (he : Env V1) (hl1 : ds.length ≤ 1000) (hl2 : cs.length ≤ 1000)
    (u0 u1 u4 u5 u6 u8 u9 u10 u11 u12 u13 u14 u15 u16 u17 u18 u19 u20 u21 u22 u23 u24 u25 u26 u27 u28 u29 u30 u31 u32 u33 u34 u35 u36 u37 u38 u39 u40 u41 u42 u43 u44 u45 u46 u47 u48 u49 : Value)
    (hQ : ∀ (t39 t40 t41 t42 t43 t44 t45 t46 t47 t48 : Value) (v3 : Value) (l : List Rcd) (w' : World), Hid (ApR V w' g7 v1 v3 n (ds.length + cs.length) xs (l.flatMap Rcd.cells) ∧ l.Perm (ds ++ cs) ∧ l.Pairwise (fun a b => 0 ≤ cmpR b a)) → Q .normal ⟨#[u0, u1, .pointer (some ⟨g2, 0, none⟩), .pointer (some ⟨g3, 0, none⟩), u4, u5, u6, .pointer (some ⟨g7, 0, none⟩), u8, u9, u10, u11, u12, u13, u14, u15, u16, u17, u18, u19, u20, u21, u22, u23, u24, u25, u26, u27, u28, u29, u30, u31, u32, u33, u34, u35, u36, u37, u38, t39, t40, t41, t42, t43, t44, t45, t46, t47, t48, u49], []⟩ w') :
    (Code.region 11 ops true).wp Tryz.prog Q ⟨#[u0, u1, .pointer (some ⟨g2, 0, none⟩), .pointer (some ⟨g3, 0, none⟩), u4, u5, u6, .pointer (some ⟨g7, 0, none⟩), u8, u9, u10, u11, u12, u13, u14, u15, u16, u17, u18, u19, u20, u21, u22, u23, u24, u25, u26, u27, u28, u29, u30, u31, u32, u33, u34, u35, u36, u37, u38, u39, u40, u41, u42, u43, u44, u45, u46, u47, u48, u49], []⟩ V1 := by
  simp only [Tryz.f32, Option.bind_some, regAt] at hops
  simp at hops
  subst hops
  have HQ := Lib.hid hQ
  have HR := Lib.hid hR
  have HQD := Lib.hid hQd
  have HQC := Lib.hid hQc
  have hmx : 0 < V1.heap.size := by obtain ⟨m, hm⟩ := he; exact cell_lt hm
  have HSO := Lib.hid (fun A6 c6 w6 (hX : Below V1.heap.size V1 w6) (hO : w6.ownsRow V1.heap.size 57 6 (.slice A6 (ds.length + cs.length) c6) (ds.length + cs.length) (ds.flatMap Rcd.cells ++ cs.flatMap Rcd.cells)) => sorted_recs (ds ++ cs) hf (.slice A6 (ds.length + cs.length) c6) V1.heap.size w6 (he.below hX) hmx (by rw [List.length_append, List.flatMap_append]; exact hO) (by rw [List.length_append]; omega))
  have HFF : Hid (∀ w', Below V1.heap.size V1 w' → w'.cell? ⟨g2, 1, none⟩ = some (.slice Aq ds.length cq) ∧ w'.cell? ⟨g3, 4, none⟩ = some (.slice Ac cs.length cc) ∧ w'.cell? ⟨g7, 1, none⟩ = some (.slice none 0 0) ∧ w'.frozen? ⟨g7, 1, none⟩ = false) := Lib.hid fun w' hb => by
    obtain ⟨-, a, -, -⟩ := box2 (hD.below hb hD.lt)
    obtain ⟨-, -, -, -, b⟩ := box5 (hC.below hb hC.lt)
    obtain ⟨-, c, -, d⟩ := box2 (hR.box.below hb hR.box.lt)
    exact ⟨a, b, c, d⟩
  clear hQ hR hD hC hQd hQc hf he hmx
  obtain ⟨f0, f1, f2, f3⟩ := HFF.out V1 (Below.refl _ _)
  refine wp_region_noPanic ?_
  go_region_law (first
    | (refine step_app (base := V1.heap.size) (n := 0) (xs := []) rfl rfl rcdElem (World.ownsRow_nil _ _ _ _) (by simp [Act.eval, Act.put]; done) (HQD.out.below (Below.refl _ _).drew) (by simp [Act.eval, Act.put]; done) (rcd_one _) (by omega) (by unfold maxLen; omega) (Below.size (B := V1.heap.size) (w := V1) (Below.refl _ _).drew) ?_; intro A5 c5 w5 hO5 hG5 hw5; have hX5 := nogrow hG5 rfl; have hS5 : Below V1.heap.size V1 w5 := below_next (Below.refl _ _).drew hX5; obtain ⟨f4, f5, f6, f7⟩ := HFF.out w5 hS5; rw [Nat.zero_add, List.nil_append] at hO5)
    | (refine step_app rfl rfl rcdElem hO5 (by simp [Act.eval, Act.put]; done) (HQC.out.below hS5) (by simp [Act.eval, Act.put]; done) (rcd_one _) (by omega) (by unfold maxLen; omega) hS5.size ?_; intro A6 c6 w6 hO6 hG6 hw6; have hS6 : Below V1.heap.size V1 w6 := hS5.grown hG6 hS5.size (fun k e => (hO5.lt k e).1); obtain ⟨f8, f9, f10, f11⟩ := HFF.out w6 hS6)
    | (go_simp; go_at_call 62; refine (HSO.out A6 c6 w6 hS6 hO6).mono ?_; rintro e w7 ⟨rfl, l, hp, hpw, hO7, hG7⟩; have hS7 : Below V1.heap.size V1 w7 := hS6.grown hG7 hS6.size (fun k e => (hO6.lt k e).1); obtain ⟨f12, f13, f14, f15⟩ := HFF.out w7 hS7; rw [List.length_append] at hO7))
  all_goals exact NoPanic.normal (HQ.out _ _ _ _ _ _ _ _ _ _ _ _ _ ⟨HR.out.put2 hS7 hO7, hp, hpw⟩)
end Go.Proofs.YtnblfaagchflaaaGreatDoor
