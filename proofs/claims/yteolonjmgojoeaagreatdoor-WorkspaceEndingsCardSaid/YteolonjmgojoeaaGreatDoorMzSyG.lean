/- syncplan.result: its last loop; result of a nil have-list. -/
import Derived.Test.YteolonjmgojoeaaGreatDoorMgw3
import Derived.Test.YteolonjmgojoeaaGreatDoorMgw0
namespace Go.Proofs.YteolonjmgojoeaaGreatDoor
open Go.RowKit
open Go.Sort (grow)
set_option linter.unusedVariables false
set_option linter.unusedSimpArgs false

theorem putS_step (r : List Syn) (k : Nat) (hk : k < r.length) : (r.take (k + 1)).flatMap putS = (r.take k).flatMap putS ++ putS r[k] := by
  rw [List.take_succ_eq_append_getElem hk, flat_snoc]
theorem addS_len (x : Syn) : (addS x).length ≤ 1 := by unfold addS; split <;> simp
theorem putS_len (x : Syn) : (putS x).length ≤ 1 := by unfold putS; split; simp; exact addS_len x
theorem putS_lenL (l : List Syn) : (l.flatMap putS).length ≤ l.length := by
  induction l with
  | nil => simp
  | cons x l ih => rw [List.flatMap_cons, List.length_append, List.length_cons]; have := putS_len x; omega
theorem room40 {n : Nat} (h : n ≤ 1000000) : n * 40 ≤ 140737488355328 := Nat.le_trans (Nat.mul_le_mul_right 40 h) (by decide)
theorem putS_room (O : List Hav) (r : List Syn) (hl : O.length + r.length + 1 ≤ 1000000) (k : Nat) : ((O ++ (r.take k).flatMap putS).length + 1) * 40 ≤ 140737488355328 := by
  have := putS_lenL (r.take k)
  rw [List.length_take] at this
  have h2 : (O ++ (r.take k).flatMap putS).length = O.length + ((r.take k).flatMap putS).length := List.length_append
  exact room40 (by omega)
set_option maxRecDepth 100000 in
set_option maxHeartbeats 4000000 in
theorem rsT17 (T : Code) (hT : Tryz.f45.body.bind (tailAt 17) = some T) (R : Ending → World → Prop) (w0 w : World) (O : List Hav) (r : List Syn) (v : Value) (A1 : Option Addr) (c1 : Nat)
    (hA : Aft w0 w w0.heap.size O v) (hS : Syns w0 (.slice A1 r.length c1) r) (hl : O.length + r.length + 1 ≤ 1000000)
    (hRR : ∀ v' X, Aft w0 X w0.heap.size (O ++ r.flatMap putS) v' → R (.returned v') X)
    (u0 u2 u3 u4 u7 u8 u9 u10 u11 u12 u13 u14 u15 u16 u17 u18 u19 u20 u21 u22 u23 u24 u25 u26 u27 u28 u29 u30 u31 u32 u33 u34 u35 u36 u37 u38 u39 u40 u41 u42 u43 u44 u45 u46 u47 u48 u49 u50 u51 u52 u53 u54 u55 u56 u57 u58 u59 u60 u61 u62 u63 u64 u65 u66 u67 u68 u69 u70 u71 u72 u73 u74 u75 u76 u77 u78 u79 u80 u81 u82 u83 u84 u85 u86 u87 u88 : Value) :
    T.wp Tryz.prog (bodyPost Tryz.prog Tryz.f45 R) ⟨#[u0, .slice A1 r.length c1, u2, u3, u4, .pointer (some ⟨w0.heap.size, 0, none⟩), .func (.func 69) #[] #[.pointer (some ⟨w0.heap.size, 0, none⟩)], u7, u8, u9, u10, u11, u12, u13, u14, u15, u16, u17, u18, u19, u20, u21, u22, u23, u24, u25, u26, u27, u28, u29, u30, u31, u32, u33, u34, u35, u36, u37, u38, u39, u40, u41, u42, u43, u44, u45, u46, u47, u48, u49, u50, u51, u52, u53, u54, u55, u56, u57, u58, u59, u60, u61, u62, u63, u64, u65, u66, u67, u68, u69, u70, u71, u72, u73, u74, u75, u76, u77, u78, u79, u80, u81, u82, u83, u84, u85, u86, u87, u88], []⟩ w := by
  simp only [Tryz.f45, Option.bind_some, tailAt, hasReg] at hT
  simp at hT
  subst hT
  obtain ⟨A2, c2, e2, hc, hm, -⟩ := id hS
  have hm' : r.length ≤ 140737488355328 := by omega
  clear hc hm e2 A2 c2
  have HRR := Lib.hid hRR
  have HS := Lib.hid hS
  have HA := Lib.hid hA
  have HL := Lib.hid (putS_room O r hl)
  clear hRR hS hA hl
  go_wp2_with fail
  go_loopw [77] (fun i wr => ∃ (k : Nat) (v' : Value), k ≤ r.length ∧ i = .int .i64 k ∧ Hid (Aft w0 wr w0.heap.size (O ++ (r.take k).flatMap putS) v')) (fun i _ => r.length - (intOf i).toNat)
  case atStart => exact ⟨0, v, Nat.zero_le _, rfl, Lib.hid (by rw [List.take_zero, List.flatMap_nil, List.append_nil]; exact HA.out)⟩
  case round =>
    obtain ⟨k, v', hk, rfl, HI⟩ := hrel
    clear HA
    by_cases hlt : k < r.length
    · obtain ⟨ad, rfl, hab, y0, y1, y2, y3, y4⟩ := Syns.at_ (HS.out.below HI.out.bel) hlt
      have HST := Lib.hid (putS_step r k hlt)
      have HLK := Lib.hid (HL.out k)
      generalize r[k] = x at y0 y1 y2 y3 y4 HST
      have HX := Lib.hid (HI.out.alloc (.cells #[.int .i64 x.kind, .string x.path, .int .i64 x.num, .string x.frm, .string x.dst] 60))
      obtain ⟨z0, z1, z2, z3, z4⟩ := box5s (x := x) (blk_new wr [.int .i64 x.kind, .string x.path, .int .i64 x.num, .string x.frm, .string x.dst] 60)
      have HSY := Lib.hid (stays_any x (wr.alloc (.cells #[.int .i64 x.kind, .string x.path, .int .i64 x.num, .string x.frm, .string x.dst] 60)))
      cases hst : staysB x.kind with
      | true =>
        have HP : Hid (putS x = []) := Lib.hid (by unfold putS; rw [hst]; rfl)
        rw [hst] at HSY
        clear hst
        go_wp2_with fail
        refine HSY.out.mono ?_
        rintro e w' ⟨rfl, hb⟩
        have HX2 := Lib.hid (HX.out.under hb)
        clear hb
        go_wp2_with fail
        go_roundw
        case rel => exact ⟨k + 1, v', by omega, by go_num, by rw [HST.out, HP.out, List.append_nil]; exact HX2⟩
        case measure => simp [intOf]; omega
      | false =>
        have HP : Hid (putS x = addS x) := Lib.hid (by unfold putS; rw [hst]; rfl)
        rw [hst] at HSY
        clear hst
        go_wp2_with fail
        refine HSY.out.mono ?_
        rintro e w' ⟨rfl, hb⟩
        have HX2 := Lib.hid (HX.out.under hb)
        have HB2 := Lib.hid ((blk_new wr [.int .i64 x.kind, .string x.path, .int .i64 x.num, .string x.frm, .string x.dst] 60).below hb (by simp))
        clear hb
        obtain ⟨q0, q1, q2, q3, q4⟩ := box5s (x := x) HB2.out
        have HAD := Lib.hid (addS_any x w0 w' w0.heap.size _ v' HX2.out HLK.out)
        go_wp2_with fail
        refine HAD.out.mono ?_
        rintro e w3 ⟨rfl, v3, h3, h4⟩
        have HX3 := Lib.hid h3
        clear h3 h4
        go_wp2_with fail
        go_roundw
        case rel => exact ⟨k + 1, v3, by omega, by go_num, by rw [HST.out, HP.out, ← List.append_assoc]; exact HX3⟩
        case measure => simp [intOf]; omega
    · have hbx : wr.cell? ⟨w0.heap.size, 0, none⟩ = some v' := HI.out.box.cell 0
      have HT : Hid (r.take k = r) := Lib.hid (List.take_of_length_le (by omega))
      have HR := Lib.hid (HRR.out v' wr (by have := HI.out; rw [HT.out] at this; exact this))
      go_wp2_with fail
      exact HR.out
set_option maxRecDepth 100000 in
set_option maxHeartbeats 4000000 in
/-- The have-list after a plan that finds nothing. -/
theorem resNil_any (r : List Syn) (pv : Value) (w : World) (hS : Syns w pv r) (hl : r.length + 1 ≤ 1000000) :
    Calls Tryz.prog 45 #[.slice none 0 0, pv] w fun e w' => ∃ v, e = .returned v ∧ Havs w' v (r.flatMap putS) ∧ Below w.heap.size w w' := by
  obtain ⟨A1, c1, rfl, -⟩ := id hS
  have H0 := Lib.hid (⟨(Below.refl _ _).alloc (Nat.le_refl _) _, blk_new w [.slice none 0 0] _, World.ownsRow_nil _ _ _ _⟩ : Aft w (w.alloc (.cells #[.slice none 0 0] 82)) w.heap.size [] (.slice none 0 0))
  have HS := Lib.hid hS
  have hl' : ([] : List Hav).length + r.length + 1 ≤ 1000000 := by simpa using hl
  have HRR := Lib.hid (fun (v' : Value) (X : World) (h : Aft w X w.heap.size ([] ++ r.flatMap putS) v') => (⟨v', rfl, Row.of_own h.row, h.bel⟩ : ∃ v, Ending.returned v' = .returned v ∧ Havs X v (r.flatMap putS) ∧ Below w.heap.size w X))
  have HL := Lib.hid hl'
  clear hS hl hl'
  go_enter Tryz.func45, Tryz.ntmps45
  go_wp2_with fail
  go_loop [1, 14] (fun p v => p = .slice A1 r.length c1 ∧ v = .int .i64 0) (fun _ _ => 1)
  case atStart => exact ⟨rfl, rfl⟩
  case round =>
    obtain ⟨rfl, rfl⟩ := hrel
    rename ∀ a w, Code.wp _ (Code.seq (Code.seq (Code.region 17 _ _) _) _) _ a w → _ => hk
    have HK := Lib.hid hk
    clear hk
    go_wp2_with fail
    refine HK.out _ _ (rsT17 _ (by kernel_rfl) (fun e w' => ∃ v, e = .returned v ∧ Havs w' v (r.flatMap putS) ∧ Below w.heap.size w w') w _ [] r _ A1 c1 H0.out HS.out HL.out HRR.out _ _ _ _ _ _ _ _ _ _ _ _ _ _ _ _ _ _ _ _ _ _ _ _ _ _ _ _ _ _ _ _ _ _ _ _ _ _ _ _ _ _ _ _ _ _ _ _ _ _ _ _ _ _ _ _ _ _ _ _ _ _ _ _ _ _ _ _ _ _ _ _ _ _ _ _ _ _ _ _ _ _ _ _ _ _)
end Go.Proofs.YteolonjmgojoeaaGreatDoor
