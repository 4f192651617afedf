/- path.Parent; the walk of FiletypeNeighbour. -/
import Derived.Test.YtfifalpacagacaaDoorValid
import Derived.Lib.LastIndexByte
namespace Go.Proofs.YtfifalpacagacaaDoor
open Go.RowKit
set_option linter.unusedVariables false

theorem get_bang (s : ByteArray) (j : Nat) (b : UInt8) (h : s.data.toList[j]? = some b) : s.data[j]! = b := by
  have hj : j < s.data.size := by have := (List.getElem?_eq_some_iff.1 h).1; simpa using this
  rw [getElem!_pos s.data j hj]
  have := (List.getElem?_eq_some_iff.1 h).2
  rw [← this]; simp
theorem last_slash {s : ByteArray} {a x : List UInt8} (h : s.data.toList = a ++ 47 :: x) (hx : (47 : UInt8) ∉ x) : Lib.lastIndexByte s 47 = (a.length : Int) := by
  have hl : s.data.toList.length = s.size := rfl
  have hsz : s.size = a.length + (x.length + 1) := by rw [← hl, h]; simp
  have h0 : s.data[a.length]! = 47 := get_bang s _ _ (by rw [h]; simp)
  rcases Lib.lastIndexByte_spec s 47 with ⟨-, hno⟩ | ⟨i, hi, he, h47, hno⟩
  · exact absurd (by rw [h0]; rfl) (hno a.length (by omega))
  · rw [he]
    by_cases h1 : i < a.length
    · exact absurd (by rw [h0]; rfl) (hno a.length h1 (by omega))
    · by_cases h2 : a.length < i
      · exfalso
        have hg : s.data.toList[i]? = x[i - a.length - 1]? := by
          rw [h, List.getElem?_append_right (by omega)]
          obtain ⟨k, hk⟩ : ∃ k, i - a.length = k + 1 := ⟨i - a.length - 1, by omega⟩
          rw [hk]; simp
        have hlt : i - a.length - 1 < x.length := by omega
        rw [List.getElem?_eq_getElem hlt] at hg
        have := get_bang s i _ hg
        rw [this] at h47
        have h47' : x[i - a.length - 1] = 47 := UInt8.toNat.inj (show _ = 47 by omega)
        exact hx (h47' ▸ List.getElem_mem hlt)
      · omega

set_option maxHeartbeats 2000000 in
theorem parent_any (p : ByteArray) (ps : Comps) (w : World) (hp : p.size ≤ 1000000) (h : dirL p.data.toList 2 = some ps) :
    Calls Tryd.prog 31 #[.string p] w fun e w' => e = .returned (.tuple #[.string (baL (parentL ps)), .int .i64 0]) ∧ Below w.heap.size w w' := by
  have HV := valid_any p w hp
  rw [show validB p.data.toList = true by unfold validB; rw [h]; rfl] at HV
  have HHV := Lib.hid HV
  obtain ⟨h1, h2, h3, h4⟩ := dir_ok h
  obtain ⟨x, e1, e2⟩ := join_last h1
  have e3 := dir_back h
  rw [e2] at e3
  have hx : (47 : UInt8) ∉ x := comp_no_slash (List.all_eq_true.1 h2 x (by rw [e1]; simp))
  have hli := last_slash e3 hx
  have HL := Tryd.strings_LastIndexByte p 47 (by omega)
  rw [hli] at HL
  have HHL := Lib.hid HL
  have hpl : p.data.toList.length = p.size := rfl
  have hlen : (parentL ps).length ≤ p.size := by rw [← hpl, e3]; simp
  have HE := Lib.hid (show p.extract 0 (parentL ps).length = baL (parentL ps) from ba_ext (by rw [Lib.extract_data, e3]; simp [baL]))
  clear HV HL h h1 h2 h3 h4 e1 e2 e3 hx hli hpl
  generalize parentL ps = q at *
  go_enter Tryd.func31, Tryd.ntmps31
  go_wp2_with fail
  refine HHV.out.mono ?_
  rintro e w' ⟨rfl, rfl⟩
  go_wp2_with fail
  refine (HHL.out _).mono ?_
  rintro e w' ⟨rfl, rfl⟩
  go_wp2_with fail
  go_ret2
  exact ⟨by rw [← HE.out]; rfl, Below.refl _ _⟩

theorem leads_name {p n : ByteArray} {ps : Comps} (h : dirL p.data.toList 2 = some ps) (hn : compS n = true) (hs : n.size ≤ 100) : followL p n = (baL (parentL ps ++ [47] ++ n.data.toList), 0) := by
  have hcl : compL n.data.toList = true := hn
  obtain ⟨n1, n2, n3⟩ := comp_ne hcl
  obtain ⟨c0, c10⟩ := comp_any hcl
  obtain ⟨h1, h2, h3, h4⟩ := dir_ok h
  have hl : n.data.toList.length = n.size := rfl
  have hpos : 0 < n.size := by rw [← hl]; cases hh : n.data.toList with
    | nil => exact absurd hh n1
    | cons _ _ => simp
  have hsp : splitL n.data.toList = [n.data.toList] := splitL_free (comp_no_slash hcl)
  have := leads_to (t := n) (a := ps.dropLast ++ [n.data.toList]) h (by rw [targetB_mid hpos (by omega)]; unfold anyB; rw [anyB_or, c0, c10]; rfl) (comp_head hcl)
    (by rw [hsp, steps_cons (step_in n1 n2 n3 hcl)]; rfl) (by simp; omega)
  rw [this]
  obtain ⟨x, e1, e2⟩ := join_last (ps := ps.dropLast ++ [n.data.toList]) (by simp; omega)
  have e3 : (ps.dropLast ++ [n.data.toList]).dropLast = ps.dropLast := List.dropLast_concat
  rw [e3] at e1
  have hx : x = n.data.toList := by have := List.append_cancel_left e1; simpa using this.symm
  rw [e2, hx]
  unfold parentL
  rw [e3]
  simp

set_option maxHeartbeats 4000000 in
theorem filetypeNeighbour_walk (p n : ByteArray) (w : World) (he : Env w) (hp : p.size ≤ maxLen) (hn : n.size ≤ maxLen) :
    Calls Tryd.prog 9 #[.string p, .string n] w fun e w' => e = .returned (.bool true) ∧ Below w.heap.size w w' := by
  unfold maxLen at hp hn
  have HA := Lib.hid (awake_any w he)
  by_cases h1 : 300 < p.size
  · have d1 : decide ((300 : Int) < (p.size : Int)) = true := by simp; omega
    go_enter Tryd.func9, Tryd.ntmps9
    go_wp2_with fail
    refine HA.out.mono ?_
    rintro e w1 ⟨rfl, hb1⟩
    go_wp2_with fail
    go_ret
    exact ⟨rfl, hb1⟩
  · have d1 : decide ((300 : Int) < (p.size : Int)) = false := by simp; omega
    by_cases h2 : 100 < n.size
    · have d2 : decide ((100 : Int) < (n.size : Int)) = true := by simp; omega
      go_enter Tryd.func9, Tryd.ntmps9
      go_wp2_with fail
      refine HA.out.mono ?_
      rintro e w1 ⟨rfl, hb1⟩
      go_wp2_with fail
      go_ret
      exact ⟨rfl, hb1⟩
    · have d2 : decide ((100 : Int) < (n.size : Int)) = false := by simp; omega
      have HV := valid_any p w (by omega)
      cases hd : dirL p.data.toList 2 with
      | none =>
        rw [show validB p.data.toList = false by unfold validB; rw [hd]; rfl] at HV
        have HHV := Lib.hid HV
        clear HV hd
        go_enter Tryd.func9, Tryd.ntmps9
        go_wp2_with fail
        refine HHV.out.mono ?_
        rintro e w1 ⟨rfl, rfl⟩
        go_wp2_with fail
        refine HA.out.mono ?_
        rintro e w1 ⟨rfl, hb1⟩
        go_wp2_with fail
        go_ret
        exact ⟨rfl, hb1⟩
      | some ps =>
        rw [show validB p.data.toList = true by unfold validB; rw [hd]; rfl] at HV
        have HHV := Lib.hid HV
        have HC := component_any n w (by unfold maxLen; omega)
        cases hcc : compS n
        · rw [hcc] at HC
          have HHC := Lib.hid HC
          clear HV hd HC hcc
          go_enter Tryd.func9, Tryd.ntmps9
          go_wp2_with fail
          refine HHV.out.mono ?_
          rintro e w1 ⟨rfl, rfl⟩
          go_wp2_with fail
          refine HHC.out.mono ?_
          rintro e w1 ⟨rfl, rfl⟩
          go_wp2_with fail
          refine HA.out.mono ?_
          rintro e w1 ⟨rfl, hb1⟩
          go_wp2_with fail
          go_ret
          exact ⟨rfl, hb1⟩
        · rw [hcc] at HC
          have HHC := Lib.hid HC
          have HP := Lib.hid (parent_any p ps w (by omega) hd)
          have HF := Lib.hid (fun W (hW : Env W) => follow_any p n W hW (by omega) (by unfold maxLen; omega))
          rw [leads_name hd hcc (by omega)] at HF
          have e3 := dir_back hd
          obtain ⟨x, e1, e2⟩ := join_last (dir_ok hd).1
          have hpl : p.data.toList.length = p.size := rfl
          have hlen : (baL (parentL ps)).size ≤ p.size := by rw [baL_size, ← hpl, e3, e2]; simp
          have heq : baL (parentL ps) ++ ⟨#[47]⟩ ++ n = baL (parentL ps ++ [47] ++ n.data.toList) := ba_ext (by rw [app_data, app_data]; rfl)
          have hq : ((baL (parentL ps ++ [47] ++ n.data.toList)).toList == (baL (parentL ps) ++ ⟨#[47]⟩ ++ n).toList) = true := by rw [heq]; simp
          clear HV hd HC hcc e3 e1 e2 hpl heq
          generalize baL (parentL ps ++ [47] ++ n.data.toList) = r at *
          generalize baL (parentL ps) = q at *
          go_enter Tryd.func9, Tryd.ntmps9
          go_wp2_with fail
          refine HHV.out.mono ?_
          rintro e w1 ⟨rfl, rfl⟩
          go_wp2_with fail
          refine HHC.out.mono ?_
          rintro e w1 ⟨rfl, rfl⟩
          go_wp2_with fail
          refine HP.out.mono ?_
          rintro e w1 ⟨rfl, hb1⟩
          go_wp2_with fail
          refine (HF.out _ (he.below hb1)).mono ?_
          rintro e w2 ⟨rfl, hb2⟩
          have hb3 := below_next hb1 hb2
          go_wp2_with fail
          refine (awake_any _ (he.below hb3)).mono ?_
          rintro e w4 ⟨rfl, hb4⟩
          go_wp2_with fail
          go_ret
          exact ⟨rfl, below_next hb3 hb4⟩

end Go.Proofs.YtfifalpacagacaaDoor
