/- The contract of the iterator keyword.occurrences. -/
import Derived.Test.YteolonjmgojoeaaGreatDoorShelf
import Derived.Test.YteolonjmgojoeaaGreatDoorMgw4
import Derived.Test.YteolonjmgojoeaaGreatDoorMzKTable
namespace Go.Proofs.YteolonjmgojoeaaGreatDoor.kw
set_option linter.unusedVariables false
set_option linter.unusedSimpArgs false
open Go.RowKit

theorem indexByte_any (l : List UInt8) (v : Value) (w : World) (hb : Bytes w v l) :
    Calls Tryz.prog 113 #[v, .int .u8 36] w fun e w' => e = .returned (.int .i64 (Lib.indexByte l 36)) ∧ w = w' := by
  obtain ⟨A, c, rfl, hc, hm, hl, h0, hx⟩ := hb
  have hbo : Lib.bytesOf (l.map fun b => (b.toNat : Int)) = l := by
    unfold Lib.bytesOf
    rw [List.map_map]
    exact (List.map_congr_left (fun b _ => by simp)).trans (List.map_id l)
  rcases A with _ | ad
  · obtain rfl := h0 rfl
    have hn : l = [] := List.eq_nil_of_length_eq_zero (by omega)
    subst hn
    exact (Tryz.bytes_IndexByte_nil 36 w).mono fun e w' ⟨h1, h2⟩ => ⟨h1, h2.symm⟩
  · refine (Tryz.bytes_IndexByte_at ad l.length c (l.map fun b => (b.toNat : Int)) 36 w (by simp) (fun i hi => ?_)).mono fun e w' ⟨h1, h2⟩ => ⟨by rw [h1, hbo]; rfl, h2.symm⟩
    obtain ⟨ad', e', _, hcell⟩ := hx (by omega)
    cases e'
    exact hcell i _ (by simp [hi])

theorem endName_at {l : List UInt8} {v : Value} {x : Int} {w : World} (at_ : Nat) (hx : x = (at_ : Int)) (hb : Bytes w v l) (hl : l.length ≤ 2000000) (ha : at_ ≤ l.length) :
    Calls Tryz.prog 114 #[v, .int .i64 x] w fun e w' => e = .returned (.int .i64 (endNameL l at_)) ∧ w = w' := by subst hx; exact endName_any l v at_ w hb hl ha
theorem endOcc_at {l : List UInt8} {v : Value} {x : Int} {w : World} (at_ : Nat) (hx : x = (at_ : Int)) (hb : Bytes w v l) (hl : l.length ≤ 2000000) (ha : at_ ≤ l.length) :
    Calls Tryz.prog 115 #[v, .int .i64 x] w (EndOcc l at_ w) := by subst hx; exact endOcc_any l v at_ w hb hl ha

def encOcc (o : Occ) : Array Value := #[.agg #[.int .i64 (o.1 : Nat), .int .i64 (o.2.1 : Nat)], .string ⟨o.2.2.toArray⟩]

set_option maxHeartbeats 1000000 in
theorem occurrences1_iter (words : List (ByteArray × ByteArray)) (l : List UInt8) (v : Value) (N bB bV B : Nat) (X : Nat → Prop) (w : World) (hl : l.length ≤ 2000000)
    (hrd : ∀ V, KeepN N X w V → V.cell? ⟨bB, 0, none⟩ = some v ∧ V.cell? ⟨bV, 0, none⟩ = some (.map (some B)) ∧ Bytes V v l ∧ IsMap Value.string V B (tabM words)) :
    IterX Tryz.prog 112 #[.pointer (some ⟨bB, 0, none⟩), .pointer (some ⟨bV, 0, none⟩)] encOcc (occs (namesOf words) l 0) N X w := by
  intro n y J W hW hJ hY h0
  obtain ⟨A, c, rfl, hc, hm, hlen, h00, hx⟩ := id (hrd w (KeepN.refl _ _ _)).2.2.1
  clear hx hlen h00
  have HR := Lib.hid hrd
  have HJ := Lib.hid hJ
  have HY := Lib.hid hY
  clear hrd hJ hY
  refine callsIn_of_wp Tryz.func112 rfl trivial ?_ rfl
  simp only [Tryz.ntmps112, List.size_toArray, List.length_cons, List.length_nil, Nat.reduceAdd, Nat.reduceSub, Array.replicate_succ, Array.replicate_zero, List.push_toArray, List.append_toArray, List.nil_append, List.cons_append]
  gi_wp2
  gi_loopw [4] (fun p wr => ∃ (k : Nat) (pre : List Occ), p = .int .i64 k ∧ k ≤ l.length ∧ occs (namesOf words) l 0 = pre ++ occs (namesOf words) l k ∧ J pre wr ∧ KeepN N X w wr)
    (fun p _ => l.length - (intOf p).toNat)
  case atStart => exact ⟨0, [], rfl, Nat.zero_le _, rfl, h0, hW⟩
  case round =>
    obtain ⟨k, pre, rfl, hk, hocc, hj, hkp⟩ := hrel
    have HO := Lib.hid hocc
    have HJ1 := Lib.hid hj
    clear hocc hj
    obtain ⟨hcB, hcV, hby, hmp⟩ := HR.out wr hkp
    have HBY := Lib.hid hby
    have HMP := Lib.hid hmp
    clear hby hmp
    by_cases hlt : k < l.length
    · obtain ⟨ad, rfl, -, -⟩ := HBY.out.at_ hlt
      have HS := HBY.out.sub (lo := k) (hi := l.length) hk (Nat.le_refl _) (by omega)
      rw [List.take_of_length_le (by simp)] at HS
      have HS := Lib.hid HS
      rcases index_cases (l.drop k) 36 with hi | ⟨j, hi⟩
      · -- no dollar sign
        gi_wp2_with fail
        refine ⟨trivial, fun h => (by cases h), ?_⟩
        refine (callsIn_wide.2 (indexByte_any _ _ _ HS.out)).mono ?_
        rw [hi]
        have HI := Lib.hid hi
        clear hi
        rintro e w' ⟨rfl, rfl⟩
        gi_wp2
        refine bodyPost_ret (results_none rfl _ _ _) rfl ?_
        have hfin : occs (namesOf words) l 0 = pre := by rw [HO.out, occs_out _ _ _ hk (index_no HI.out), List.append_nil]
        exact ⟨⟨_, rfl⟩, by rw [hfin]; exact HJ1.out⟩
      · obtain ⟨h36, hskip, hj⟩ := index_yes hi
        have HO1 : Hid (occs (namesOf words) l 0 = pre ++ occs (namesOf words) l (k + j)) := Lib.hid (by rw [HO.out, occs_skip _ _ k j (by omega) hskip])
        have H36 := Lib.hid h36
        clear h36 hskip
        obtain ⟨hn1, hn2⟩ := nameAt_le l (k + j) hj
        gi_wp2_with fail
        refine ⟨trivial, fun h => (by cases h), ?_⟩
        refine (callsIn_wide.2 (indexByte_any _ _ _ HS.out)).mono ?_
        rw [hi]
        clear hi
        rintro e w' ⟨rfl, rfl⟩
        gi_wp2_with fail
        refine ⟨trivial, fun h => (by cases h), ?_⟩
        refine (callsIn_wide.2 (endName_at (k + j + 1) (by omega) HBY.out hl (by omega))).mono ?_
        rintro e w' ⟨rfl, rfl⟩
        obtain ⟨A2, c2, hsub, hrow2⟩ := run_sub (P := Tryz.prog) (x := (k : Int) + j + 1) (y := (endNameL l (k + j + 1) : Nat)) (kx := .i64) (ky := .i64) Tryz.underlying44 (fun w => Tryz.sizeOf5 w) HBY.out hn1 hn2 (by omega) rfl
        have hb2 := Bytes.of_row hrow2 (by omega)
        clear hrow2
        obtain ⟨nm, hnm⟩ : ∃ nm : ByteArray, nm = ⟨(nameAt l (k + j)).toArray⟩ := ⟨_, rfl⟩
        have hnl : nm.data.toList = nameAt l (k + j) := by rw [hnm]
        have hcvt : (convert 44 9 (.slice A2 (endNameL l (k + j + 1) - (k + j + 1)) c2)).run Tryz.prog wr = .ok (.string nm) wr := by
          rw [hnm]; exact run_str (P := Tryz.prog) hb2 44 9 5 Tryz.underlying44 Tryz.underlying5 Tryz.underlying9
        have hlk := HMP.out.lookup strKey Tryz.underlying115 (zeroStr _) nm true
        rw [aget_tabM, hnl] at hlk
        have HNM := Lib.hid hnm
        clear hnm hb2 hnl
        cases hin : decide (nameAt l (k + j) ∈ namesOf words)
        · -- not a name that is asked for
          rw [hin] at hlk
          have hno : occs (namesOf words) l (k + j) = occs (namesOf words) l (k + j + 1) := occs_none _ _ _ hj H36.out (by unfold stepAt; rw [if_neg]; simp at hin; exact fun h => hin h.1)
          have HNO := Lib.hid hno
          clear hno hin
          gi_wp2
          go_roundw
          case rel => exact ⟨k + j + 1, pre, by go_num, by omega, by rw [HO1.out, HNO.out], HJ1.out, hkp⟩
          case measure => simp [intOf]; omega
        · rw [hin] at hlk
          have HIN := Lib.hid hin
          clear hin
          gi_wp2_with fail
          refine ⟨trivial, fun h => (by cases h), ?_⟩
          refine (callsIn_wide.2 (endOcc_at (endNameL l (k + j + 1)) rfl HBY.out hl hn2)).mono ?_
          cases hok : occOk l (endNameL l (k + j + 1))
          · have hno : occs (namesOf words) l (k + j) = occs (namesOf words) l (k + j + 1) := occs_none _ _ _ hj H36.out (by unfold stepAt; rw [if_neg]; simp [hok])
            have HNO := Lib.hid hno
            unfold EndOcc
            rw [hok]
            clear hno hok
            rintro e w' ⟨rfl, m, rfl⟩
            gi_wp2
            go_roundw
            case rel => exact ⟨k + j + 1, pre, by go_num, by omega, by rw [HO1.out, HNO.out], HJ.out _ _ _ HJ1.out (grownBy_drewN _ _ _), hkp.drewN m⟩
            case measure => simp [intOf]; omega
          · obtain ⟨e, he⟩ : ∃ e, occAt l (endNameL l (k + j + 1)) = e := ⟨_, rfl⟩
            have hst : stepAt (namesOf words) l (k + j) = some (e + 1) := by unfold stepAt; rw [if_pos ⟨by simpa using HIN.out, hok⟩, he]
            have hbd := stepAt_bd hst
            have hyes := occs_some (namesOf words) l (k + j) (e + 1) hj H36.out hst
            have HNO := Lib.hid hyes
            unfold EndOcc
            rw [hok, he]
            clear hyes hok hst he
            rintro e' w' ⟨rfl, m, rfl⟩
            obtain ⟨fn, tmps, assign, body, hy, hR⟩ := HY.out pre (k + j, e, nameAt l (k + j)) (occs (namesOf words) l (e + 1)) (wr.drewN m) (by rw [HO1.out, HNO.out]; rfl) (HJ.out _ _ _ HJ1.out (grownBy_drewN _ _ _))
            simp only [encOcc, ← HNM.out, Int.natCast_add] at hy
            gi_wp2
            refine ⟨fun h => (by cases h), hR.mono ?_⟩
            rintro e1 V3 ⟨rfl, hJ3, hk3⟩
            gi_wp2
            go_roundw
            case rel => exact ⟨e + 1, pre ++ [(k + j, e, nameAt l (k + j))], by go_num, hbd.2, by rw [HO1.out, HNO.out]; simp, hJ3, (hkp.drewN m).trans hk3⟩
            case measure => simp [intOf]; omega
    · gi_wp2
      go_end0
      have hfin : occs (namesOf words) l 0 = pre := by rw [HO.out, occs_end _ _ _ hlt, List.append_nil]
      exact ⟨⟨_, rfl⟩, by rw [hfin]; exact HJ1.out⟩

/-- keyword.occurrences boxes its two arguments. -/
theorem occurrences_any (v1 v2 : Value) (w : World) (hv1 : ∃ A n c, v1 = .slice A n c) (hv2 : ∃ B, v2 = .map B) :
    Calls Tryz.prog 91 #[v1, v2] w fun e w' =>
      e = .returned (.func (.func 112) #[] #[.pointer (some ⟨w.heap.size, 0, none⟩), .pointer (some ⟨w.heap.size + 1, 0, none⟩)]) ∧
      w' = (w.alloc (.cells #[v1] 44)).alloc (.cells #[v2] 115) := by
  obtain ⟨A, n, c, rfl⟩ := hv1
  obtain ⟨B, rfl⟩ := hv2
  go_enter Tryz.func91, Tryz.ntmps91
  go_wp2
  go_ret
  exact ⟨rfl, rfl⟩

end Go.Proofs.YteolonjmgojoeaaGreatDoor.kw
