/- The contract of the reference's Replace. -/
import Derived.Test.YtajlckioogalbaaRefF
import Derived.Test.YtajlckioogalbaaScan2
namespace Go.Proofs.Ytajlckioogalbaa
open Go.RowKit

def byTxt (names : List (List UInt8)) (bys : List ByteArray) (nm : List UInt8) : List UInt8 := ((bys[names.idxOf nm]?).getD ⟨#[]⟩).data.toList

theorem extract_mid (s : ByteArray) (i j : Nat) : (s.extract i j).data.toList = (s.data.toList.drop i).take (j - i) := by
  rw [ByteArray.data_extract, Array.toList_extract, List.extract_eq_take_drop]

def RReplP (b : List UInt8) (names : List (List UInt8)) (bys : List ByteArray) (w : World) (e : Ending) (w' : World) : Prop :=
  ∃ t : ByteArray, e = .returned (.string t) ∧ t.data.toList = replL b (byTxt names bys) (occs names b 0) ∧ Below w.heap.size w w'

set_option maxHeartbeats 2000000 in
set_option maxRecDepth 100000 in
theorem refReplace_any (s : ByteArray) (l bys : List ByteArray) (v v2 : Value) (w : World) (hn : Strs w v l) (hy : Strs w v2 bys) (hlen : bys.length = l.length) (hs : s.size ≤ 100000) (hl : l.length ≤ 1000) (hsz : ∀ t ∈ l, t.size ≤ 100000) (hbz : ∀ t ∈ bys, t.size ≤ 300000) (hlet : ∀ nm ∈ namesL l, ∀ c ∈ nm, letterB c.toNat = true) :
    Calls Try.prog 15 #[.string s, v, v2] w (RReplP s.data.toList (namesL l) bys w) := by
  have HF := Lib.hid (refFind_any s l v w hn hs hl hsz hlet)
  have HY := Lib.hid hy
  have HBZ := Lib.hid hbz
  obtain ⟨A, c, rfl, hc, hm, -⟩ := hn
  obtain ⟨A2, c2, rfl, hc2, hm2, -⟩ := hy
  clear hsz hlet hbz
  go_enter Try.func15, Try.ntmps15
  go_wp2_with fail
  refine HF.out.mono ?_
  rintro e w1 ⟨vr, vw, rfl, hr, hw, hb1⟩
  clear HF
  obtain ⟨os, hos⟩ : ∃ os, occs (namesL l) s.data.toList 0 = os := ⟨_, rfl⟩
  have HOS := Lib.hid hos
  rw [hos] at hr hw
  clear hos
  have hosl : os.length ≤ s.size := by have := occs_length (namesL l) s.data.toList 0; rw [HOS.out] at this; exact this
  have hrl : (rangesOf os).length = os.length := by simp [rangesOf]
  have hwl : (whichOf (namesL l) os).length = os.length := by simp [whichOf]
  have HR := Lib.hid hr
  have HW := Lib.hid hw
  obtain ⟨Ar, cr, rfl, hcr, hmr, -⟩ := hr
  obtain ⟨Aw, cw, rfl, hcw, hmw, -⟩ := hw
  rw [hrl] at hcr
  rw [hwl] at hcw
  obtain ⟨txt, htxt⟩ : ∃ txt, byTxt (namesL l) bys = txt := ⟨_, rfl⟩
  have HT := Lib.hid htxt
  clear htxt
  simp only [hrl, hwl]
  go_wp2
  go_loopw [9, 10, 21] (fun r a i wr => ∃ (k : Nat) (out : ByteArray), k ≤ os.length ∧ i = .int .i64 k ∧ r = .string out ∧ out.data.toList = (replSt s.data.toList txt (os.take k)).1 ∧ a = .int .i64 ((replSt s.data.toList txt (os.take k)).2 : Nat) ∧ Below w1.heap.size w1 wr) (fun _ _ i _ => os.length - (intOf i).toNat)
  case atStart => exact ⟨0, ⟨#[]⟩, Nat.zero_le _, rfl, rfl, rfl, rfl, Below.refl _ _⟩
  case round =>
    obtain ⟨k, out, hk, rfl, rfl, hout, rfl, hbl⟩ := hrel
    have hlens := replSt_len s.data.toList txt 300000 (namesL l) (os.drop k) (os.take k) (by rw [HOS.out, List.take_append_drop]) (by
      intro o ho
      rw [← HT.out]
      unfold byTxt
      cases hq : bys[(namesL l).idxOf o.2.2]? with
      | none => simp
      | some t => exact HBZ.out t (List.mem_of_getElem? hq))
    have hos2 : out.size = (replSt s.data.toList txt (os.take k)).1.length := by rw [← hout]; rfl
    have hz : out.size ≤ 100000 + 100000 * 300000 := by
      have h1 : (os.take k).length * 300000 ≤ 100000 * 300000 := Nat.mul_le_mul_right _ (by rw [List.length_take]; omega)
      have h2 : s.data.toList.length = s.size := rfl
      omega
    have HO := Lib.hid hout
    have hcp : (replSt s.data.toList txt (os.take k)).2 ≤ s.size := hlens.2
    clear hout hlens hos2
    by_cases hlt : k < os.length
    · have hsplit : occs (namesL l) s.data.toList 0 = os.take k ++ os[k] :: os.drop (k + 1) := by rw [HOS.out, List.getElem_cons_drop, List.take_append_drop]
      obtain ⟨a1, a2, a3, -, -⟩ := occs_at (namesL l) s.data.toList txt _ _ _ hsplit
      obtain ⟨-, -, hmem, -, -⟩ := occ_props (namesL l) s.data.toList _ _ _ hsplit
      have hsn := replSt_snoc s.data.toList txt (os.take k) os[k]
      rw [← List.take_succ_eq_append_getElem hlt] at hsn
      obtain ⟨cp, hcpe⟩ : ∃ cp, (replSt s.data.toList txt (os.take k)).2 = cp := ⟨_, rfl⟩
      rw [hcpe] at hsn a1 hcp
      rw [hcpe]
      have HSN := Lib.hid hsn
      clear hsplit hsn hcpe
      have a3' : os[k].2.1 < s.size := a3
      obtain ⟨adr, rfl, hb3, hr0, hr1⟩ := Ranges.at_ (k := k) (HR.out.below hbl) (by rw [hrl]; exact hlt)
      obtain ⟨adw, rfl, hb4, hw0⟩ := Ints.at_ (k := k) (HW.out.below hbl) (by rw [hwl]; exact hlt)
      have e1 : (rangesOf os)[k]'(by rw [hrl]; exact hlt) = (os[k].1, os[k].2.1) := by simp [rangesOf]
      have e2 : (whichOf (namesL l) os)[k]'(by rw [hwl]; exact hlt) = (namesL l).idxOf os[k].2.2 := by simp [whichOf]
      rw [e1] at hr0 hr1
      rw [e2] at hw0
      have hix : (namesL l).idxOf os[k].2.2 < bys.length := by
        rw [hlen]; have := List.idxOf_lt_length_of_mem hmem; simpa [namesL] using this
      have hbyt : txt os[k].2.2 = (bys[(namesL l).idxOf os[k].2.2]'hix).data.toList := by rw [← HT.out]; unfold byTxt; rw [List.getElem?_eq_getElem hix]; rfl
      obtain ⟨adb, rfl, hb5, hy0⟩ := Strs.at_ (k := (namesL l).idxOf os[k].2.2) ((HY.out.below hb1).below hbl) hix
      have hbs := HBZ.out _ (List.getElem_mem hix)
      obtain ⟨ix, hixe⟩ : ∃ ix, (namesL l).idxOf os[k].2.2 = ix := ⟨_, rfl⟩
      obtain ⟨t, hte⟩ : ∃ t, bys[(namesL l).idxOf os[k].2.2]'hix = t := ⟨_, rfl⟩
      rw [hte] at hbyt hy0 hbs
      rw [hixe] at hw0 hy0 hix
      have HBY := Lib.hid hbyt
      clear hte hbyt hixe e1 e2 hmem
      obtain ⟨⟨o1, o2, o3⟩, hoe⟩ : ∃ o, os[k] = o := ⟨_, rfl⟩
      rw [hoe] at HSN HBY a1 a2 a3' hr0 hr1
      simp only at HSN HBY a1 a2 a3' hr0 hr1
      clear a3 hoe
      have hw1 := cell_alloc hw0 (.cells #[.int .i64 (o1 : Int), .int .i64 (o2 : Int)] 41)
      have hy1 := cell_alloc hy0 (.cells #[.int .i64 (o1 : Int), .int .i64 (o2 : Int)] 41)
      go_wp2
      go_quiet (fail)
      go_wp2
      go_roundw
      case rel =>
        refine ⟨k + 1, _, by omega, by go_num, rfl, ?_, ?_, below_drewN (hbl.alloc hbl.size _) _⟩
        · rw [HSN.out, HBY.out, ← HO.out, List.append_assoc]
          simp
        · rw [HSN.out]; go_num
      case measure => simp [intOf]; omega
    · go_wp2
      go_ret
      obtain rfl : k = os.length := by omega
      refine ⟨_, rfl, ?_, hb1.trans (hbl.mono hb1.size)⟩
      have := HO.out
      rw [List.take_length] at this ⊢
      unfold replL
      rw [HT.out, HOS.out, ← this]
      rw [ByteArray.data_append, Array.toList_append, extract_drop]

end Go.Proofs.Ytajlckioogalbaa
