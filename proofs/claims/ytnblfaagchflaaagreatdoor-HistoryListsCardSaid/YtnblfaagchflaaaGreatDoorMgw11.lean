/- isRecord. -/
import Derived.Test.YtnblfaagchflaaaGreatDoorMzSource
import Derived.Lib.QuietBelow
namespace Go.Proofs.YtnblfaagchflaaaGreatDoor
open Go.RowKit
set_option linter.unusedVariables false
set_option linter.unusedSimpArgs false

/-- What isRecord asks behind the source. -/
def isRecT (e : Edt) (v : Rev) (h : Int) : Bool := if h = 1 then (if v.act = 3 then decide (e.act = 3) else (!decide (e.act = 3)) && decide (e.ty = v.ty) && (decide (e.sum = v.sum) && decide (e.size = v.size))) else true
theorem isRec_none {revs : List Rev} {n : Int} {ed : ByteArray → Option Edt} {x : Rcd} (h : ed x.to = none) : isRec revs n ed x = false := by unfold isRec; rw [h]
theorem isRec_bad {revs : List Rev} {n : Int} {ed : ByteArray → Option Edt} {x : Rcd} {e : Edt} (h : ed x.to = some e) (hb : e.act = 5 ∨ x.num ≠ e.base + 1 ∨ x.how < 1 ∨ 4 < x.how) : isRec revs n ed x = false := by
  unfold isRec; rw [h]; exact if_pos hb
theorem isRec_rest {revs : List Rev} {n : Int} {ed : ByteArray → Option Edt} {x : Rcd} {e : Edt} (h : ed x.to = some e) (hb : ¬ (e.act = 5 ∨ x.num ≠ e.base + 1 ∨ x.how < 1 ∨ 4 < x.how)) :
    isRec revs n ed x = match sourceR revs x (lineV (linesOf revs) (madeR (lastOf revs) n e)) with
      | none => false
      | some v => isRecT e v x.how := by
  unfold isRec; rw [h]
  show (if _ then false else _) = _
  rw [if_neg hb]
  cases sourceR revs x (lineV (linesOf revs) (madeR (lastOf revs) n e)) with
  | none => rfl
  | some v => unfold isRecT; simp only [Bool.and_assoc]
theorem source_is (o : Option Rev) (r : Rev) (b : Bool) (revs : List Rev) (x : Rcd) (t : Fil) (ho : sourceR revs x t = o) (hr : someR o = r) (hb : o.isSome = b) (g : Nat) (dv dr ev rv : Value) (n : Int) (cl tx : ByteArray) (bl be bn : Nat) (w : World) (hk : Chk w g dv dr n cl tx ev rv bl be bn) (hR : Revs w dv revs) (hL : LineMap w bn (linesOf revs)) (hl : revs.length ≤ 1000000) (hw1 : x.last ≤ 9223372036854775807) :
    Calls Tryz.prog 130 #[.pointer (some ⟨g, 0, none⟩), .agg #[.string x.frm, .int .i64 x.first, .int .i64 x.last, .string x.to, .int .i64 x.num, .int .i64 x.how], .agg #[.string t.1, .int .i64 t.2]] w
      fun e w' => e = .returned (.tuple #[.agg #[.string r.path, .int .i64 r.num, .int .i64 r.chg, .int .i64 r.act, .int .i64 r.ty.base, .bool r.ty.k, .bool r.ty.l, .bool r.ty.x, .int .u64 r.sum, .int .i64 r.size, .string r.frm, .int .i64 r.fnum], .bool b]) ∧ Below w.heap.size w w' := by
  subst hb hr ho; exact source_any revs x t g dv dr ev rv n cl tx bl be bn w hk hR hL hl hw1
theorem revision_is (m : Rev) (f : ByteArray → Option Rev) (x : Edt) (n : Int) (hm : madeR f n x = m) (g : Nat) (dv dr ev rv : Value) (cl tx : ByteArray) (bl be bn : Nat) (w : World) (hk : Chk w g dv dr n cl tx ev rv bl be bn) (hL : LastMap w bl f)
    (h1 : 0 ≤ (lastR f x.path).num) (h2 : (lastR f x.path).num ≤ 1000000) :
    Calls Tryz.prog 41 #[.pointer (some ⟨g, 0, none⟩), .agg #[.string x.path, .int .i64 x.act, .int .i64 x.ty.base, .bool x.ty.k, .bool x.ty.l, .bool x.ty.x, .int .u64 x.sum, .int .i64 x.size, .int .i64 x.base, .string x.frm, .int .i64 x.fnum, .int .i64 x.fence]] w
      fun e w' => e = .returned (.agg #[.string m.path, .int .i64 m.num, .int .i64 m.chg, .int .i64 m.act, .int .i64 m.ty.base, .bool m.ty.k, .bool m.ty.l, .bool m.ty.x, .int .u64 m.sum, .int .i64 m.size, .string m.frm, .int .i64 m.fnum]) ∧ Below w.heap.size w w' := by
  subst hm; exact revision_any f x g dv dr ev rv n cl tx bl be bn w hk hL h1 h2
theorem lineOf_is (t : Fil) (f : Fil → Option Fil) (r : Rev) (ht : lineV f r = t) (g : Nat) (dv dr ev rv : Value) (n : Int) (cl tx : ByteArray) (bl be bn : Nat) (w : World) (hk : Chk w g dv dr n cl tx ev rv bl be bn) (hL : LineMap w bn f) (hn : 0 < r.num) (hn2 : r.num ≤ 1000000) :
    Calls Tryz.prog 69 #[.pointer (some ⟨g, 0, none⟩), .agg #[.string r.path, .int .i64 r.num, .int .i64 r.chg, .int .i64 r.act, .int .i64 r.ty.base, .bool r.ty.k, .bool r.ty.l, .bool r.ty.x, .int .u64 r.sum, .int .i64 r.size, .string r.frm, .int .i64 r.fnum]] w
      fun e w' => e = .returned (.agg #[.string t.1, .int .i64 t.2]) ∧ Below w.heap.size w w' := by
  subst ht; exact lineOf_main f r g dv dr ev rv n cl tx bl be bn w hk hL hn hn2

set_option maxRecDepth 100000 in
set_option maxHeartbeats 8000000 in
theorem isRecord_any (revs : List Rev) (ed : ByteArray → Option Edt) (x : Rcd) (g : Nat) (dv dr ev rv : Value) (n : Int) (cl tx : ByteArray) (bl be bn : Nat) (w : World) (hk : Chk w g dv dr n cl tx ev rv bl be bn) (hR : Revs w dv revs) (hA : LastMap w bl (lastOf revs)) (hM : EditMap w be ed) (hL : LineMap w bn (linesOf revs)) (hl : revs.length ≤ 1000000) (hw1 : x.last ≤ 9223372036854775807)
    (hb1 : ∀ p, 0 ≤ (lastR (lastOf revs) p).num) (hb2 : ∀ p, (lastR (lastOf revs) p).num ≤ 999999) (hed : ∀ p e, ed p = some e → 0 ≤ e.base ∧ e.base ≤ 1000000) :
    Calls Tryz.prog 106 #[.pointer (some ⟨g, 0, none⟩), .agg #[.string x.frm, .int .i64 x.first, .int .i64 x.last, .string x.to, .int .i64 x.num, .int .i64 x.how]] w
      fun e w' => e = .returned (.bool (isRec revs n ed x)) ∧ Below w.heap.size w w' := by
  obtain ⟨W, hW⟩ : ∃ W, W = w.alloc (.cells #[.string x.frm, .int .i64 x.first, .int .i64 x.last, .string x.to, .int .i64 x.num, .int .i64 x.how] 57) := ⟨_, rfl⟩
  have hbW : Below w.heap.size w W := by rw [hW]; exact (Below.refl _ _).alloc (Nat.le_refl _) _
  have hX : Blk W w.heap.size 57 [.string x.frm, .int .i64 x.first, .int .i64 x.last, .string x.to, .int .i64 x.num, .int .i64 x.how] := by rw [hW]; exact blk_new w _ _
  have hK : Chk W g dv dr n cl tx ev rv bl be bn := Blk.below hk hbW (Blk.lt hk)
  have HRW := Lib.hid (hR.below hbW)
  have HAW := Lib.hid (FMap.below hA hbW)
  have HMW := Lib.hid (FMap.below hM hbW)
  have HLW := Lib.hid (FMap.below hL hbW)
  have HW := Lib.hid hW
  clear hW
  obtain ⟨e, he⟩ : ∃ e, editR ed x.to = e := ⟨_, rfl⟩
  obtain ⟨bs, hbs⟩ : ∃ b, (ed x.to).isSome = b := ⟨_, rfl⟩
  have hlk : ∀ w', Below W.heap.size W w' → _ := fun w' hb => EditMap.look2 (w := w') (FMap.below HMW.out hb) x.to
  rw [he, hbs] at hlk
  have hsome : bs = true → ed x.to = some e := by
    intro h
    rw [h] at hbs
    cases hq : ed x.to with
    | none => rw [hq] at hbs; cases hbs
    | some a => rw [← he]; unfold editR; rw [hq]; rfl
  have hnone : bs = false → ed x.to = none := by
    intro h
    rw [h] at hbs
    cases hq : ed x.to with
    | none => rfl
    | some a => rw [hq] at hbs; cases hbs
  have HSOME := Lib.hid hsome
  have HNONE := Lib.hid hnone
  have HB1 := Lib.hid hb1
  have HB2 := Lib.hid hb2
  have HED := Lib.hid hed
  clear he hbs hsome hnone hb1 hb2 hed
  obtain ⟨-, -, -, -, -, -, k8, -⟩ := box10 hK
  obtain ⟨c0, c1, c2, c3, c4, c5⟩ := box6 hX
  have HC : Hid (∀ w', Below W.heap.size W w' → w'.cell? ⟨g, 8, none⟩ = some (.map (some be)) ∧ w'.cell? ⟨w.heap.size, 3, none⟩ = some (.string x.to)) := Lib.hid fun w' hb => ⟨cell_below k8 hb (cell_lt k8), cell_below c3 hb (cell_lt c3)⟩
  go_enter Tryz.func106, Tryz.ntmps106
  go_upto_region 1 with fail
  rw [← HW.out]
  go_cut [5, 6] (fun s5 s6 wx => ∃ ge : Nat, s5 = .pointer (some ⟨ge, 0, none⟩) ∧ s6 = .bool bs ∧ Below W.heap.size W wx ∧ Blk wx ge 55 [.string e.path, .int .i64 e.act, .int .i64 e.ty.base, .bool e.ty.k, .bool e.ty.l, .bool e.ty.x, .int .u64 e.sum, .int .i64 e.size, .int .i64 e.base, .string e.frm, .int .i64 e.fnum, .int .i64 e.fence])
  case first =>
    go_region_held3 (fun w' => Below W.heap.size W w' ∧ w'.cell? ⟨g, 8, none⟩ = some (.map (some be)) ∧ w'.cell? ⟨w.heap.size, 3, none⟩ = some (.string x.to))
      ((refine and_of ?_ (HC.out _); first | with_reducible exact (Below.refl _ _).drew | with_reducible assumption | with_reducible exact ((Below.refl _ _).alloc (Nat.le_refl _) _).drew)) (fail)
    all_goals
      have hq1 : Below W.heap.size W (W.alloc (.cells #[.string e.path, .int .i64 e.act, .int .i64 e.ty.base, .bool e.ty.k, .bool e.ty.l, .bool e.ty.x, .int .u64 e.sum, .int .i64 e.size, .int .i64 e.base, .string e.frm, .int .i64 e.fnum, .int .i64 e.fence] 55)).drew := ((Below.refl _ _).alloc (Nat.le_refl _) _).drew
      have hq2 : Blk (W.alloc (.cells #[.string e.path, .int .i64 e.act, .int .i64 e.ty.base, .bool e.ty.k, .bool e.ty.l, .bool e.ty.x, .int .u64 e.sum, .int .i64 e.size, .int .i64 e.base, .string e.frm, .int .i64 e.fnum, .int .i64 e.fence] 55)).drew W.heap.size 55 [.string e.path, .int .i64 e.act, .int .i64 e.ty.base, .bool e.ty.k, .bool e.ty.l, .bool e.ty.x, .int .u64 e.sum, .int .i64 e.size, .int .i64 e.base, .string e.frm, .int .i64 e.fnum, .int .i64 e.fence] := blk_new W _ _
      go_wp2_with fail
      go_meet
      exact ⟨_, rfl, rfl, hq1, hq2⟩
  case rest =>
    obtain ⟨ge, rfl, rfl, hbW2, hE2⟩ := hcut
    generalize wc = W2 at hbW2 hE2 ⊢
    have hX2 := hX.below hbW2 hX.lt
    have hK2 : Chk W2 g dv dr n cl tx ev rv bl be bn := Blk.below hK hbW2 (Blk.lt hK)
    have hb2 := below_next hbW hbW2
    clear hlk HC k8 c0 c1 c2 c3 c4 c5
    obtain ⟨c0, c1, c2, c3, c4, c5⟩ := box6 hX2
    obtain ⟨d0, d1, d2, d3, d4, d5, d6, d7, d8, d9, d10, d11⟩ := box12 hE2
    cases bs
    · have HN := Lib.hid (isRec_none (revs := revs) (n := n) (HNONE.out rfl))
      go_wp2_with fail
      go_ret
      exact ⟨ret_bool HN.out.symm, hb2⟩
    · have HSE := Lib.hid (HSOME.out rfl)
      obtain ⟨hba, hbb⟩ := HED.out _ _ HSE.out
      by_cases h5 : e.act = 5
      · have q5 : (e.act == 5) = true := by rw [h5]; rfl
        have HN := Lib.hid (isRec_bad (revs := revs) (n := n) HSE.out (.inl h5))
        clear h5
        go_wp2_with fail
        go_ret
        exact ⟨ret_bool HN.out.symm, hb2⟩
      · have q5 : (e.act == 5) = false := by simpa using h5
        by_cases hnum : x.num = e.base + 1
        · have qn : (x.num != e.base + 1) = false := by rw [bne_dec]; simp [hnum]
          by_cases hh1 : x.how < 1
          · have HN := Lib.hid (isRec_bad (revs := revs) (n := n) HSE.out (.inr (.inr (.inl hh1))))
            clear hnum h5
            go_wp2_with fail
            go_ret
            exact ⟨ret_bool HN.out.symm, hb2⟩
          · by_cases hh4 : 4 < x.how
            · have HN := Lib.hid (isRec_bad (revs := revs) (n := n) HSE.out (.inr (.inr (.inr hh4))))
              clear hnum h5
              go_wp2_with fail
              go_ret
              exact ⟨ret_bool HN.out.symm, hb2⟩
            · have HR0 := Lib.hid (isRec_rest (revs := revs) (n := n) HSE.out (show ¬ (e.act = 5 ∨ x.num ≠ e.base + 1 ∨ x.how < 1 ∨ 4 < x.how) by omega))
              clear hnum h5
              obtain ⟨m, hm⟩ : ∃ m, madeR (lastOf revs) n e = m := ⟨_, rfl⟩
              obtain ⟨t, ht⟩ : ∃ t, lineV (linesOf revs) m = t := ⟨_, rfl⟩
              obtain ⟨o, ho⟩ : ∃ o, sourceR revs x t = o := ⟨_, rfl⟩
              obtain ⟨r, hr⟩ : ∃ r, someR o = r := ⟨_, rfl⟩
              obtain ⟨bo, hbo⟩ : ∃ b, o.isSome = b := ⟨_, rfl⟩
              rw [hm, ht, ho] at HR0
              have hm1 : 0 < m.num ∧ m.num ≤ 1000000 := by
                rw [← hm]
                have h1 := HB1.out e.path
                have h2 := HB2.out e.path
                show 0 < (lastR (lastOf revs) e.path).num + 1 ∧ (lastR (lastOf revs) e.path).num + 1 ≤ 1000000
                omega
              have H1 := Lib.hid (fun W' (h : Below W2.heap.size W2 W') => (revision_is m (lastOf revs) e n hm g dv dr ev rv cl tx bl be bn W' (Blk.below hK2 h (Blk.lt hK2)) (FMap.below (FMap.below HAW.out hbW2) h) (HB1.out _) (by have := HB2.out e.path; omega)).mono (fun e' w' (h2 : _ ∧ _) => (⟨h2.1, h.trans (h2.2.mono h.size), h2.2⟩ : _ ∧ Below W2.heap.size W2 w' ∧ Below W'.heap.size W' w')))
              have H2 := Lib.hid (fun W' (h : Below W2.heap.size W2 W') => (lineOf_is t (linesOf revs) m ht g dv dr ev rv n cl tx bl be bn W' (Blk.below hK2 h (Blk.lt hK2)) (FMap.below (FMap.below HLW.out hbW2) h) hm1.1 hm1.2).mono (fun e' w' (h2 : _ ∧ _) => (⟨h2.1, h.trans (h2.2.mono h.size), h2.2⟩ : _ ∧ Below W2.heap.size W2 w' ∧ Below W'.heap.size W' w')))
              have H3 := Lib.hid (fun W' (h : Below W2.heap.size W2 W') => (source_is o r bo revs x t ho hr hbo g dv dr ev rv n cl tx bl be bn W' (Blk.below hK2 h (Blk.lt hK2)) ((HRW.out.below hbW2).below h) (FMap.below (FMap.below HLW.out hbW2) h) hl hw1).mono (fun e' w' (h2 : _ ∧ _) => (⟨h2.1, h.trans (h2.2.mono h.size), h2.2⟩ : _ ∧ Below W2.heap.size W2 w' ∧ Below W'.heap.size W' w')))
              have HRR : Hid (isRec revs n ed x = (bo && isRecT e r x.how)) := Lib.hid (by
                rw [HR0.out]
                cases o with
                | none => rw [← hbo]; rfl
                | some v => rw [← hbo, ← hr]; rfl)
              have HC : Hid (∀ w', Below W2.heap.size W2 w' → w'.cell? ⟨w.heap.size, 0, none⟩ = some (.string x.frm) ∧ w'.cell? ⟨w.heap.size, 1, none⟩ = some (.int .i64 x.first) ∧ w'.cell? ⟨w.heap.size, 2, none⟩ = some (.int .i64 x.last) ∧ w'.cell? ⟨w.heap.size, 3, none⟩ = some (.string x.to) ∧ w'.cell? ⟨w.heap.size, 4, none⟩ = some (.int .i64 x.num) ∧ w'.cell? ⟨w.heap.size, 5, none⟩ = some (.int .i64 x.how) ∧ w'.cell? ⟨ge, 0, none⟩ = some (.string e.path) ∧ w'.cell? ⟨ge, 1, none⟩ = some (.int .i64 e.act) ∧ w'.cell? ⟨ge, 2, none⟩ = some (.int .i64 e.ty.base) ∧ w'.cell? ⟨ge, 3, none⟩ = some (.bool e.ty.k) ∧ w'.cell? ⟨ge, 4, none⟩ = some (.bool e.ty.l) ∧ w'.cell? ⟨ge, 5, none⟩ = some (.bool e.ty.x) ∧ w'.cell? ⟨ge, 6, none⟩ = some (.int .u64 e.sum) ∧ w'.cell? ⟨ge, 7, none⟩ = some (.int .i64 e.size) ∧ w'.cell? ⟨ge, 8, none⟩ = some (.int .i64 e.base) ∧ w'.cell? ⟨ge, 9, none⟩ = some (.string e.frm) ∧ w'.cell? ⟨ge, 10, none⟩ = some (.int .i64 e.fnum) ∧ w'.cell? ⟨ge, 11, none⟩ = some (.int .i64 e.fence)) := Lib.hid fun w' hb => ⟨(hX2.below hb hX2.lt).cell 0, (hX2.below hb hX2.lt).cell 1, (hX2.below hb hX2.lt).cell 2, (hX2.below hb hX2.lt).cell 3, (hX2.below hb hX2.lt).cell 4, (hX2.below hb hX2.lt).cell 5, (hE2.below hb hE2.lt).cell 0, (hE2.below hb hE2.lt).cell 1, (hE2.below hb hE2.lt).cell 2, (hE2.below hb hE2.lt).cell 3, (hE2.below hb hE2.lt).cell 4, (hE2.below hb hE2.lt).cell 5, (hE2.below hb hE2.lt).cell 6, (hE2.below hb hE2.lt).cell 7, (hE2.below hb hE2.lt).cell 8, (hE2.below hb hE2.lt).cell 9, (hE2.below hb hE2.lt).cell 10, (hE2.below hb hE2.lt).cell 11⟩
              have hZ0 : Blk (W2.alloc (.cells #[.string ⟨#[]⟩, .int .i64 0, .int .i64 0, .int .i64 0, .int .i64 0, .bool false, .bool false, .bool false, .int .u64 0, .int .i64 0, .string ⟨#[]⟩, .int .i64 0] 40)).drew W2.heap.size 40 [.string ⟨#[]⟩, .int .i64 0, .int .i64 0, .int .i64 0, .int .i64 0, .bool false, .bool false, .bool false, .int .u64 0, .int .i64 0, .string ⟨#[]⟩, .int .i64 0] := blk_new W2 [.string ⟨#[]⟩, .int .i64 0, .int .i64 0, .int .i64 0, .int .i64 0, .bool false, .bool false, .bool false, .int .u64 0, .int .i64 0, .string ⟨#[]⟩, .int .i64 0] 40
              clear hm ht ho hr hbo hm1 HR0
              go_upto_region 4 with fail
              go_cut [6, 7] (fun s6 s7 wx => ∃ gb : Nat, s7 = .pointer (some ⟨gb, 0, none⟩) ∧ s6 = .bool bo ∧ Below W2.heap.size W2 wx ∧ Blk wx gb 40 [.string r.path, .int .i64 r.num, .int .i64 r.chg, .int .i64 r.act, .int .i64 r.ty.base, .bool r.ty.k, .bool r.ty.l, .bool r.ty.x, .int .u64 r.sum, .int .i64 r.size, .string r.frm, .int .i64 r.fnum])
              case first =>
                clear c0 c1 c2 c3 c4 c5 d0 d1 d2 d3 d4 d5 d6 d7 d8 d9 d10 d11
                go_region_held3 (fun w' => Below W2.heap.size W2 w' ∧ w'.cell? ⟨w.heap.size, 0, none⟩ = some (.string x.frm) ∧ w'.cell? ⟨w.heap.size, 1, none⟩ = some (.int .i64 x.first) ∧ w'.cell? ⟨w.heap.size, 2, none⟩ = some (.int .i64 x.last) ∧ w'.cell? ⟨w.heap.size, 3, none⟩ = some (.string x.to) ∧ w'.cell? ⟨w.heap.size, 4, none⟩ = some (.int .i64 x.num) ∧ w'.cell? ⟨w.heap.size, 5, none⟩ = some (.int .i64 x.how) ∧ w'.cell? ⟨ge, 0, none⟩ = some (.string e.path) ∧ w'.cell? ⟨ge, 1, none⟩ = some (.int .i64 e.act) ∧ w'.cell? ⟨ge, 2, none⟩ = some (.int .i64 e.ty.base) ∧ w'.cell? ⟨ge, 3, none⟩ = some (.bool e.ty.k) ∧ w'.cell? ⟨ge, 4, none⟩ = some (.bool e.ty.l) ∧ w'.cell? ⟨ge, 5, none⟩ = some (.bool e.ty.x) ∧ w'.cell? ⟨ge, 6, none⟩ = some (.int .u64 e.sum) ∧ w'.cell? ⟨ge, 7, none⟩ = some (.int .i64 e.size) ∧ w'.cell? ⟨ge, 8, none⟩ = some (.int .i64 e.base) ∧ w'.cell? ⟨ge, 9, none⟩ = some (.string e.frm) ∧ w'.cell? ⟨ge, 10, none⟩ = some (.int .i64 e.fnum) ∧ w'.cell? ⟨ge, 11, none⟩ = some (.int .i64 e.fence))
                  ((refine and_of ?_ (HC.out _); first | with_reducible exact (Below.refl _ _).drew | with_reducible exact ((Below.refl _ _).alloc (Nat.le_refl _) _).drew | with_reducible assumption | with_reducible exact hS5.alloc hS5.size _ | with_reducible exact hS6.alloc hS6.size _ | with_reducible exact hS7.alloc hS7.size _ | with_reducible exact below12 hS7 hge7 r))
                  (first
                    | (go_at_call 41; (with_reducible refine (H1.out _ (Below.refl _ _).drew).mono ?_); rintro e' w5 ⟨rfl, hS5, hb5⟩)
                    | (go_at_call 41; (with_reducible refine (H1.out _ ((Below.refl _ _).alloc (Nat.le_refl _) _).drew).mono ?_); rintro e' w5 ⟨rfl, hS5, hb5⟩; have hZ5 := hZ0.below hb5 hZ0.lt; have hge5 : W2.heap.size ≤ W2.heap.size := Nat.le_refl _)
                    | (go_at_call 69; (with_reducible refine (H2.out w5 hS5).mono ?_); rintro e' w6 ⟨rfl, hS6, hb6⟩; try (have hZ6 := hZ5.below hb6 hZ5.lt; have hge6 := hge5))
                    | (go_at_call 69; (with_reducible refine (H2.out _ (hS5.alloc hS5.size _)).mono ?_); rintro e' w6 ⟨rfl, hS6, hb6⟩; have hZ6 := (blk_new w5 [.string ⟨#[]⟩, .int .i64 0, .int .i64 0, .int .i64 0, .int .i64 0, .bool false, .bool false, .bool false, .int .u64 0, .int .i64 0, .string ⟨#[]⟩, .int .i64 0] 40).below hb6 (by simp); have hge6 : W2.heap.size ≤ w5.heap.size := hS5.size)
                    | (go_at_call 130; (with_reducible refine (H3.out w6 hS6).mono ?_); rintro e' w7 ⟨rfl, hS7, hb7⟩; try (have hZ7 := hZ6.below hb7 hZ6.lt; have hge7 := hge6; obtain ⟨z0, z1, z2, z3, z4, z5, z6, z7, z8, z9, z10, z11⟩ := box12 hZ7; obtain ⟨y0, y1, y2, y3, y4, y5, y6, y7, y8, y9, y10, y11⟩ := frz12 hZ7))
                    | (go_at_call 130; (with_reducible refine (H3.out _ (hS6.alloc hS6.size _)).mono ?_); rintro e' w7 ⟨rfl, hS7, hb7⟩; have hZ7 := (blk_new w6 [.string ⟨#[]⟩, .int .i64 0, .int .i64 0, .int .i64 0, .int .i64 0, .bool false, .bool false, .bool false, .int .u64 0, .int .i64 0, .string ⟨#[]⟩, .int .i64 0] 40).below hb7 (by simp); have hge7 : W2.heap.size ≤ w6.heap.size := hS6.size; obtain ⟨z0, z1, z2, z3, z4, z5, z6, z7, z8, z9, z10, z11⟩ := box12 hZ7; obtain ⟨y0, y1, y2, y3, y4, y5, y6, y7, y8, y9, y10, y11⟩ := frz12 hZ7))
                all_goals
                  first
                    | (have hRR := set12 hZ7 r
                       have hbW5 := below12 hS7 hge7 r
                       go_wp2_with fail
                       go_meet
                       exact ⟨_, rfl, rfl, hbW5, hRR⟩)
                    | (have hRR := blk_new w7 [.string r.path, .int .i64 r.num, .int .i64 r.chg, .int .i64 r.act, .int .i64 r.ty.base, .bool r.ty.k, .bool r.ty.l, .bool r.ty.x, .int .u64 r.sum, .int .i64 r.size, .string r.frm, .int .i64 r.fnum] 40
                       have hbW5 := hS7.alloc hS7.size (.cells #[.string r.path, .int .i64 r.num, .int .i64 r.chg, .int .i64 r.act, .int .i64 r.ty.base, .bool r.ty.k, .bool r.ty.l, .bool r.ty.x, .int .u64 r.sum, .int .i64 r.size, .string r.frm, .int .i64 r.fnum] 40)
                       go_wp2_with fail
                       go_meet
                       exact ⟨_, rfl, rfl, hbW5, hRR⟩)
              case rest =>
                obtain ⟨gb, rfl, rfl, hbW3, hRR⟩ := hcut
                generalize wc = W3 at hbW3 hRR ⊢
                have hX3 := hX2.below hbW3 hX2.lt
                have hE3 := hE2.below hbW3 hE2.lt
                have hb3 := below_next hb2 hbW3
                clear c0 c1 c2 c3 c4 c5 d0 d1 d2 d3 d4 d5 d6 d7 d8 d9 d10 d11 HC H1 H2 H3
                obtain ⟨c0, c1, c2, c3, c4, c5⟩ := box6 hX3
                obtain ⟨d0, d1, d2, d3, d4, d5, d6, d7, d8, d9, d10, d11⟩ := box12 hE3
                obtain ⟨f0, f1, f2, f3, f4, f5, f6, f7, f8, f9, f10, f11⟩ := box12 hRR
                have hty := run_eql_ty e.ty r.ty
                have hcn := run_eql_con e.sum e.size r.sum r.size
                cases bo
                · go_wp2_with fail
                  go_ret
                  exact ⟨ret_bool HRR.out.symm, hb3⟩
                · have HT : Hid (isRec revs n ed x = isRecT e r x.how) := Lib.hid (by rw [HRR.out]; rfl)
                  by_cases hh : x.how = 1
                  · have qh : (x.how == 1) = true := by rw [hh]; rfl
                    by_cases hr3 : r.act = 3
                    · have q3 : (r.act == 3) = true := by rw [hr3]; rfl
                      have HF : Hid (isRec revs n ed x = (e.act == 3)) := Lib.hid (by rw [HT.out]; unfold isRecT; rw [if_pos hh, if_pos hr3, beq_dec])
                      clear hh hr3
                      go_wp2_with fail
                      go_ret
                      exact ⟨ret_bool HF.out.symm, hb3⟩
                    · have q3 : (r.act == 3) = false := by simpa using hr3
                      have HF : Hid (isRec revs n ed x = ((!decide (e.act = 3)) && decide (e.ty = r.ty) && (decide (e.sum = r.sum) && decide (e.size = r.size)))) := Lib.hid (by rw [HT.out]; unfold isRecT; rw [if_pos hh, if_neg hr3])
                      clear hh hr3
                      generalize (decide (e.sum = r.sum) && decide (e.size = r.size)) = bc at hcn HF
                      generalize decide (e.ty = r.ty) = bt at hty HF
                      by_cases he3 : e.act = 3
                      · have qe : (e.act != 3) = false := by rw [bne_dec]; simp [he3]
                        rw [show decide (e.act = 3) = true by simpa using he3] at HF
                        clear he3
                        go_wp2_with fail
                        go_ret
                        exact ⟨ret_bool HF.out.symm, hb3⟩
                      · have qe : (e.act != 3) = true := by rw [bne_dec]; simp [he3]
                        rw [show decide (e.act = 3) = false by simpa using he3] at HF
                        clear he3
                        cases bt
                        all_goals
                          go_wp2_with fail
                          go_ret
                          exact ⟨ret_bool HF.out.symm, hb3⟩
                  · have qh : (x.how == 1) = false := by simpa using hh
                    have HF : Hid (isRec revs n ed x = true) := Lib.hid (by rw [HT.out]; unfold isRecT; rw [if_neg hh])
                    clear hh
                    go_wp2_with fail
                    go_ret
                    exact ⟨ret_bool HF.out.symm, hb3⟩
        · have qn : (x.num != e.base + 1) = true := by rw [bne_dec]; simp [hnum]
          have HN := Lib.hid (isRec_bad (revs := revs) (n := n) HSE.out (.inr (.inl hnum)))
          clear hnum h5
          go_wp2_with fail
          go_ret
          exact ⟨ret_bool HN.out.symm, hb2⟩
end Go.Proofs.YtnblfaagchflaaaGreatDoor
/- records. -/
namespace Go.Proofs.YtnblfaagchflaaaGreatDoor
open Go.RowKit
open Go.Sort (grow)
set_option linter.unusedVariables false
set_option linter.unusedSimpArgs false

def FlagMap (w : World) (B : Nat) (wk : ByteArray → Bool) : Prop := ∃ f, FMap Value.string Value.bool w B f ∧ ∀ p, (f p).getD false = wk p
theorem zero_bool (w : World) : (zeroValue 4).run Tryz.prog w = .ok (.bool false) w := by kernel_rfl
section
variable {w w' : World} {B : Nat} {wk : ByteArray → Bool}
theorem FlagMap.new (w : World) : FlagMap (w.alloc (.map #[] 0)) w.heap.size (fun _ => false) := ⟨_, FMap.new _ _ w, fun _ => rfl⟩
theorem FlagMap.alloc (h : FlagMap w B wk) (o : Obj) : FlagMap (w.alloc o) B wk := by obtain ⟨f, h, r⟩ := h; exact ⟨f, h.alloc o, r⟩
theorem FlagMap.below (h : FlagMap w B wk) (hb : Below w.heap.size w w') : FlagMap w' B wk := by obtain ⟨f, h, r⟩ := h; exact ⟨f, h.below hb, r⟩
theorem FlagMap.look (h : FlagMap w B wk) (p : ByteArray) : (Instr.lookup 116 (.map (some B)) (.string p) false).run Tryz.prog w = .ok (.bool (wk p)) w := by
  obtain ⟨f, h, r⟩ := h
  rw [FMap.lookup h keyOk_str Tryz.underlying116 (zero_bool w) p false, ← r p]
  unfold lookV
  cases f p <;> rfl
theorem FlagMap.set (h : FlagMap w B wk) (p : ByteArray) : ∃ w', (Instr.mapUpdate 116 (.map (some B)) (.string p) (.bool true)).run Tryz.prog w = .ok () w' ∧ FlagMap w' B (fun q => decide (p = q) || wk q) ∧ w.grownBy w' (some B) ∧ w'.heap.size = w.heap.size := by
  obtain ⟨f, h, r⟩ := h
  obtain ⟨w', h1, h2, h3, h4⟩ := FMap.update h keyOk_str Tryz.underlying116 p true
  refine ⟨w', h1, ⟨_, h2, fun q => ?_⟩, h3, h4⟩
  unfold upd
  by_cases e : q = p
  · simp [e]
  · have : ¬ p = q := fun h => e h.symm
    simp [e, this, r q]
end
theorem worked_snoc (rs : List Rcd) (x : Rcd) : worked (rs ++ [x]) = if x.how = 3 then worked rs else (fun q => decide (x.to = q) || worked rs q) := by
  funext q
  unfold worked
  rw [List.any_append]
  by_cases h : x.how = 3
  · simp [h]
  · simp [h, Bool.or_comm]

def prevOf (l : List Rcd) (k : Nat) : Option Rcd := if k = 0 then none else l[k - 1]?
theorem prevOf_succ (l : List Rcd) (k : Nat) (h : k < l.length) : prevOf l (k + 1) = some l[k] := by unfold prevOf; rw [if_neg (by omega)]; simp [h]
theorem recsE_no {revs : List Rev} {c : Chg} (h : recsF revs c (editsOf c.edits) none c.recs = false) : recsE revs c = 118 := by unfold recsE; rw [h]; rfl
theorem recsE_ok {revs : List Rev} {c : Chg} (h : recsF revs c (editsOf c.edits) none c.recs = true) : recsE revs c = 0 := by unfold recsE; rw [h]; rfl
theorem recsF_cons (revs : List Rev) (c : Chg) (ed : ByteArray → Option Edt) (b : Option Rcd) (r : Rcd) (rs : List Rcd) : recsF revs c ed b (r :: rs) = ((match b with
    | none => true
    | some b => decide (cmpR b r < 0)) && recOk revs c ed r && recsF revs c ed (some r) rs) := rfl
theorem isRecord_is (b : Bool) (revs : List Rev) (ed : ByteArray → Option Edt) (x : Rcd) (n : Int) (hb : isRec revs n ed x = b) (g : Nat) (dv dr ev rv : Value) (cl tx : ByteArray) (bl be bn : Nat) (w : World) (hk : Chk w g dv dr n cl tx ev rv bl be bn) (hR : Revs w dv revs) (hA : LastMap w bl (lastOf revs)) (hM : EditMap w be ed) (hL : LineMap w bn (linesOf revs)) (hl : revs.length ≤ 1000000) (hw1 : x.last ≤ 9223372036854775807)
    (hb1 : ∀ p, 0 ≤ (lastR (lastOf revs) p).num) (hb2 : ∀ p, (lastR (lastOf revs) p).num ≤ 999999) (hed : ∀ p e, ed p = some e → 0 ≤ e.base ∧ e.base ≤ 1000000) :
    Calls Tryz.prog 106 #[.pointer (some ⟨g, 0, none⟩), .agg #[.string x.frm, .int .i64 x.first, .int .i64 x.last, .string x.to, .int .i64 x.num, .int .i64 x.how]] w
      fun e w' => e = .returned (.bool b) ∧ Below w.heap.size w w' := by
  subst hb; exact isRecord_any revs ed x g dv dr ev rv n cl tx bl be bn w hk hR hA hM hL hl hw1 hb1 hb2 hed
theorem unchanged_is (b : Bool) (f : ByteArray → Option Rev) (x : Edt) (hb : unchanged f x = b) (g : Nat) (dv dr ev rv : Value) (n : Int) (cl tx : ByteArray) (bl be bn : Nat) (w : World) (hk : Chk w g dv dr n cl tx ev rv bl be bn) (hL : LastMap w bl f) :
    Calls Tryz.prog 107 #[.pointer (some ⟨g, 0, none⟩), .agg #[.string x.path, .int .i64 x.act, .int .i64 x.ty.base, .bool x.ty.k, .bool x.ty.l, .bool x.ty.x, .int .u64 x.sum, .int .i64 x.size, .int .i64 x.base, .string x.frm, .int .i64 x.fnum, .int .i64 x.fence]] w
      fun e w' => e = .returned (.bool b) ∧ Below w.heap.size w w' := by
  subst hb; exact unchanged_any f x g dv dr ev rv n cl tx bl be bn w hk hL

set_option maxRecDepth 100000 in
set_option maxHeartbeats 8000000 in
theorem records_any (revs : List Rev) (c : Chg) (g : Nat) (dv dr ev rv : Value) (bl be bn : Nat) (w : World) (hk : Chk w g dv dr c.num c.client c.text ev rv bl be bn) (hR : Revs w dv revs) (hA : LastMap w bl (lastOf revs)) (hM : EditMap w be (editsOf c.edits)) (hL : LineMap w bn (linesOf revs)) (hQ : Rcds w rv c.recs) (hl : revs.length ≤ 1000000) (hlr : c.recs.length ≤ 1000000)
    (hsm : ∀ r ∈ c.recs, r.small ∧ r.last ≤ 9223372036854775807)
    (hb1 : ∀ p, 0 ≤ (lastR (lastOf revs) p).num) (hb2 : ∀ p, (lastR (lastOf revs) p).num ≤ 999999) (hed : ∀ p e, editsOf c.edits p = some e → 0 ≤ e.base ∧ e.base ≤ 1000000) :
    Calls Tryz.prog 73 #[.pointer (some ⟨g, 0, none⟩)] w fun e w' => e = .returned (.int .i64 (recsE revs c)) ∧ Below w.heap.size w w' := by
  obtain ⟨Aq, cq, rfl, hcq, hmq, -⟩ := id hQ
  have hb0 : Below w.heap.size w (w.alloc (.map #[] 0)) := (Below.refl _ _).alloc (Nat.le_refl _) _
  have hc0 := FlagMap.new w
  have HQ := Lib.hid hQ
  have HK := Lib.hid hk
  have HM := Lib.hid hM
  have HSM := Lib.hid hsm
  have HIS := Lib.hid (fun x (hx : x.last ≤ 9223372036854775807) b hb W' (h : Below w.heap.size w W') => isRecord_is b revs (editsOf c.edits) x c.num hb g dv dr ev (.slice Aq c.recs.length cq) c.client c.text bl be bn W' (Blk.below hk h (Blk.lt hk)) (hR.below h) (FMap.below hA h) (FMap.below hM h) (FMap.below hL h) hl hx hb1 hb2 hed)
  have HUN := Lib.hid (fun x b hb W' (h : Below w.heap.size w W') => unchanged_is b (lastOf revs) x hb g dv dr ev (.slice Aq c.recs.length cq) c.num c.client c.text bl be bn W' (Blk.below hk h (Blk.lt hk)) (FMap.below hA h))
  obtain ⟨-, -, -, -, k6, -, -, -⟩ := box10 (Blk.below hk hb0 (Blk.lt hk))
  clear hQ hk hM hsm hR hA hL hb1 hb2 hed
  unfold maxLen at hmq
  have hmm := @run_makeMap Tryz.prog
  go_enter Tryz.func73, Tryz.ntmps73
  go_wp2_with fail
  clear hmm k6
  go_loopw [15] (fun i wr => ∃ (k : Nat), k ≤ c.recs.length ∧ i = .int .i64 k ∧ Below w.heap.size w wr ∧ FlagMap wr w.heap.size (worked (c.recs.take k))) (fun i _ => c.recs.length - (intOf i).toNat)
  case atStart => exact ⟨0, Nat.zero_le _, rfl, hb0, hc0⟩
  case round =>
    obtain ⟨k, hk, rfl, hbr, hcr⟩ := hrel
    by_cases hlt : k < c.recs.length
    · obtain ⟨ad, rfl, hab, hld⟩ := Rcds.at_ (HQ.out.below hbr) hlt
      have HT := Lib.hid (show c.recs.take (k + 1) = c.recs.take k ++ [c.recs[k]] from List.take_succ_eq_append_getElem hlt)
      generalize c.recs[k] = x at hld HT
      obtain ⟨x0, x1, x2, x3, x4, x5⟩ := hld
      have hbx := hbr.alloc hbr.size (.cells #[.string x.frm, .int .i64 x.first, .int .i64 x.last, .string x.to, .int .i64 x.num, .int .i64 x.how] 57)
      have hcx := hcr.alloc (.cells #[.string x.frm, .int .i64 x.first, .int .i64 x.last, .string x.to, .int .i64 x.num, .int .i64 x.how] 57)
      have HS := Lib.hid (worked_snoc (c.recs.take k) x)
      by_cases h3 : x.how = 3
      · have q3 : (x.how != 3) = false := by rw [bne_dec]; simp [h3]
        rw [if_pos h3] at HS
        clear h3
        go_wp2_with fail
        go_roundw
        case rel => exact ⟨k + 1, by omega, by go_num, hbx, by rw [HT.out, HS.out]; exact hcx⟩
        case measure => simp [intOf]; omega
      · have q3 : (x.how != 3) = true := by rw [bne_dec]; simp [h3]
        rw [if_neg h3] at HS
        clear h3
        obtain ⟨w3, hup, hc3, hg3, hs3⟩ := hcx.set x.to
        have hbw3 : Below w.heap.size w w3 := hbx.grown hg3 hbx.size (fun j e => by injection e with e; omega)
        go_wp2_with fail
        go_roundw
        case rel => exact ⟨k + 1, by omega, by go_num, hbw3, by rw [HT.out, HS.out]; exact hc3⟩
        case measure => simp [intOf]; omega
    · obtain rfl : k = c.recs.length := by omega
      rw [List.take_length] at hcr
      obtain ⟨-, -, -, -, k6, -, -, -⟩ := box10 (Blk.below HK.out hbr (Blk.lt HK.out))
      go_wp2_with fail
      clear k6 hk hlt
      obtain ⟨W, rfl⟩ : ∃ W, wr = W := ⟨_, rfl⟩
      go_loopw [32] (fun i wr => ∃ (k : Nat), k ≤ c.recs.length ∧ i = .int .i64 k ∧ Below w.heap.size w wr ∧ FlagMap wr w.heap.size (worked c.recs) ∧ Hid (recsF revs c (editsOf c.edits) none c.recs = recsF revs c (editsOf c.edits) (prevOf c.recs k) (c.recs.drop k))) (fun i _ => c.recs.length - (intOf i).toNat)
      case atStart => exact ⟨0, Nat.zero_le _, rfl, hbr, hcr, Lib.hid rfl⟩
      case round =>
        clear hbr hcr
        obtain ⟨k, hk, rfl, hbr, hcr, HF⟩ := hrel
        by_cases hlt : k < c.recs.length
        · obtain ⟨ad, rfl, hab, hld⟩ := Rcds.at_ (HQ.out.below hbr) hlt
          have HP := Lib.hid (prevOf_succ c.recs k hlt)
          have hxs := HSM.out c.recs[k] (List.getElem_mem _)
          rw [List.drop_eq_getElem_cons hlt, recsF_cons] at HF
          have hprev : ∀ j, k = j + 1 → ∃ p, prevOf c.recs k = some p ∧ p.small ∧ RcdAt wr (ad.add (j * 6)) p := by
            intro j hj
            obtain ⟨ad2, e2, -, hld2⟩ := Rcds.at_ (HQ.out.below hbr) (show j < c.recs.length by omega)
            injection e2 with e2
            subst e2
            exact ⟨c.recs[j], by have := prevOf_succ c.recs j (by omega); rwa [← hj] at this, (HSM.out _ (List.getElem_mem _)).1, hld2⟩
          generalize c.recs[k] = x at hld HP hxs HF
          obtain ⟨x0, x1, x2, x3, x4, x5⟩ := hld
          have hbx := hbr.alloc hbr.size (.cells #[.string x.frm, .int .i64 x.first, .int .i64 x.last, .string x.to, .int .i64 x.num, .int .i64 x.how] 57)
          have hcx := hcr.alloc (.cells #[.string x.frm, .int .i64 x.first, .int .i64 x.last, .string x.to, .int .i64 x.num, .int .i64 x.how] 57)
          have hX := blk_new wr [.string x.frm, .int .i64 x.first, .int .i64 x.last, .string x.to, .int .i64 x.num, .int .i64 x.how] 57
          have hKx := Blk.below HK.out hbx (Blk.lt HK.out)
          obtain ⟨pre, hpre⟩ : ∃ b, (match prevOf c.recs k with
              | none => true
              | some b => decide (cmpR b x < 0)) = b := ⟨_, rfl⟩
          rw [hpre] at HF
          have HPRE := Lib.hid hpre
          clear hpre
          obtain ⟨ok, hok⟩ : ∃ b, recOk revs c (editsOf c.edits) x = b := ⟨_, rfl⟩
          rw [hok] at HF
          have HOK := Lib.hid hok
          clear hok
          go_upto_region 11 with fail
          go_cut [52] (fun s52 wx => s52 = .bool (!pre) ∧ Below (World.heap (wr.alloc (.cells #[.string x.frm, .int .i64 x.first, .int .i64 x.last, .string x.to, .int .i64 x.num, .int .i64 x.how] 57))).size (wr.alloc (.cells #[.string x.frm, .int .i64 x.first, .int .i64 x.last, .string x.to, .int .i64 x.num, .int .i64 x.how] 57)) wx)
          case first =>
            by_cases hk0 : k = 0
            · have hp1 : pre = true := by rw [← HPRE.out, hk0]; rfl
              subst hp1
              have qk : decide ((0 : Int) < (k : Int)) = false := by simp; omega
              have qk2 : decide (0 < k) = false := by simp; omega
              have qk3 : ¬ 0 < k := by omega
              clear hk0 hprev
              go_quiet (fail)
              go_wp2_with fail
              go_meet
              exact ⟨rfl, below_drewN (Below.refl _ _) _⟩
            · obtain ⟨j, hj⟩ : ∃ j, k = j + 1 := ⟨k - 1, by omega⟩
              obtain ⟨p, hpe, hps, hpa⟩ := hprev j hj
              have hp1 : pre = decide (cmpR p x < 0) := by rw [← HPRE.out, hpe]
              have hcmp := Lib.hid (fun W' => compareRecords_any p x W' hps hxs.1)
              have qk : decide ((0 : Int) < (k : Int)) = true := by simp; omega
              have qk2 : decide (0 < k) = true := by simp; omega
              have qk3 : 0 < k := by omega
              have qw : IntKind.i64.wrap ((k : Int) - 1) = (j : Int) := by rw [IntWalk.i64_in _ (by omega)]; omega
              have qj : (j : Int) < (c.recs.length : Int) := by omega
              have qj0 : (0 : Int) ≤ (j : Int) := by omega
              obtain ⟨p0, p1, p2, p3, p4, p5⟩ := hpa
              obtain ⟨-, -, -, -, k6, -, -, -⟩ := box10 hKx
              obtain ⟨c0, c1, c2, c3, c4, c5⟩ := box6 hX
              have a0 := cell_alloc p0 (.cells #[.string x.frm, .int .i64 x.first, .int .i64 x.last, .string x.to, .int .i64 x.num, .int .i64 x.how] 57)
              have a1 := cell_alloc p1 (.cells #[.string x.frm, .int .i64 x.first, .int .i64 x.last, .string x.to, .int .i64 x.num, .int .i64 x.how] 57)
              have a2 := cell_alloc p2 (.cells #[.string x.frm, .int .i64 x.first, .int .i64 x.last, .string x.to, .int .i64 x.num, .int .i64 x.how] 57)
              have a3 := cell_alloc p3 (.cells #[.string x.frm, .int .i64 x.first, .int .i64 x.last, .string x.to, .int .i64 x.num, .int .i64 x.how] 57)
              have a4 := cell_alloc p4 (.cells #[.string x.frm, .int .i64 x.first, .int .i64 x.last, .string x.to, .int .i64 x.num, .int .i64 x.how] 57)
              have a5 := cell_alloc p5 (.cells #[.string x.frm, .int .i64 x.first, .int .i64 x.last, .string x.to, .int .i64 x.num, .int .i64 x.how] 57)
              have HC : Hid (∀ w', Below (World.heap (wr.alloc (.cells #[.string x.frm, .int .i64 x.first, .int .i64 x.last, .string x.to, .int .i64 x.num, .int .i64 x.how] 57))).size (wr.alloc (.cells #[.string x.frm, .int .i64 x.first, .int .i64 x.last, .string x.to, .int .i64 x.num, .int .i64 x.how] 57)) w' → w'.cell? ⟨g, 6, none⟩ = some (.slice (some ad) c.recs.length cq) ∧ w'.cell? ⟨wr.heap.size, 0, none⟩ = some (.string x.frm) ∧ w'.cell? ⟨wr.heap.size, 1, none⟩ = some (.int .i64 x.first) ∧ w'.cell? ⟨wr.heap.size, 2, none⟩ = some (.int .i64 x.last) ∧ w'.cell? ⟨wr.heap.size, 3, none⟩ = some (.string x.to) ∧ w'.cell? ⟨wr.heap.size, 4, none⟩ = some (.int .i64 x.num) ∧ w'.cell? ⟨wr.heap.size, 5, none⟩ = some (.int .i64 x.how) ∧ w'.cell? (ad.add (j * 6)) = some (.string p.frm) ∧ w'.cell? ⟨(ad.add (j * 6)).block, (ad.add (j * 6)).off + 1, none⟩ = some (.int .i64 p.first) ∧ w'.cell? ⟨(ad.add (j * 6)).block, (ad.add (j * 6)).off + 2, none⟩ = some (.int .i64 p.last) ∧ w'.cell? ⟨(ad.add (j * 6)).block, (ad.add (j * 6)).off + 3, none⟩ = some (.string p.to) ∧ w'.cell? ⟨(ad.add (j * 6)).block, (ad.add (j * 6)).off + 4, none⟩ = some (.int .i64 p.num) ∧ w'.cell? ⟨(ad.add (j * 6)).block, (ad.add (j * 6)).off + 5, none⟩ = some (.int .i64 p.how)) := Lib.hid fun w' hb => ⟨cell_below k6 hb (cell_lt k6), cell_below c0 hb (cell_lt c0), cell_below c1 hb (cell_lt c1), cell_below c2 hb (cell_lt c2), cell_below c3 hb (cell_lt c3), cell_below c4 hb (cell_lt c4), cell_below c5 hb (cell_lt c5), cell_below a0 hb (cell_lt a0), cell_below a1 hb (cell_lt a1), cell_below a2 hb (cell_lt a2), cell_below a3 hb (cell_lt a3), cell_below a4 hb (cell_lt a4), cell_below a5 hb (cell_lt a5)⟩
              have HP1 := Lib.hid hp1
              clear p0 p1 p2 p3 p4 p5 a0 a1 a2 a3 a4 a5 c0 c1 c2 c3 c4 c5 k6 hprev hpe hk0 hj hp1 x0 x1 x2 x3 x4 x5
              go_region_held3 (fun w' => Below (World.heap (wr.alloc (.cells #[.string x.frm, .int .i64 x.first, .int .i64 x.last, .string x.to, .int .i64 x.num, .int .i64 x.how] 57))).size (wr.alloc (.cells #[.string x.frm, .int .i64 x.first, .int .i64 x.last, .string x.to, .int .i64 x.num, .int .i64 x.how] 57)) w' ∧ w'.cell? ⟨g, 6, none⟩ = some (.slice (some ad) c.recs.length cq) ∧ w'.cell? ⟨wr.heap.size, 0, none⟩ = some (.string x.frm) ∧ w'.cell? ⟨wr.heap.size, 1, none⟩ = some (.int .i64 x.first) ∧ w'.cell? ⟨wr.heap.size, 2, none⟩ = some (.int .i64 x.last) ∧ w'.cell? ⟨wr.heap.size, 3, none⟩ = some (.string x.to) ∧ w'.cell? ⟨wr.heap.size, 4, none⟩ = some (.int .i64 x.num) ∧ w'.cell? ⟨wr.heap.size, 5, none⟩ = some (.int .i64 x.how) ∧ w'.cell? (ad.add (j * 6)) = some (.string p.frm) ∧ w'.cell? ⟨(ad.add (j * 6)).block, (ad.add (j * 6)).off + 1, none⟩ = some (.int .i64 p.first) ∧ w'.cell? ⟨(ad.add (j * 6)).block, (ad.add (j * 6)).off + 2, none⟩ = some (.int .i64 p.last) ∧ w'.cell? ⟨(ad.add (j * 6)).block, (ad.add (j * 6)).off + 3, none⟩ = some (.string p.to) ∧ w'.cell? ⟨(ad.add (j * 6)).block, (ad.add (j * 6)).off + 4, none⟩ = some (.int .i64 p.num) ∧ w'.cell? ⟨(ad.add (j * 6)).block, (ad.add (j * 6)).off + 5, none⟩ = some (.int .i64 p.how))
                ((refine and_of ?_ (HC.out _); first | with_reducible exact (Below.refl _ _).drew | with_reducible assumption))
                ((go_at_call 43; refine (hcmp.out _).mono ?_; rintro e' w5 ⟨rfl, hb5⟩; have hS5 := (Below.refl (World.heap (wr.alloc (.cells #[.string x.frm, .int .i64 x.first, .int .i64 x.last, .string x.to, .int .i64 x.num, .int .i64 x.how] 57))).size (wr.alloc (.cells #[.string x.frm, .int .i64 x.first, .int .i64 x.last, .string x.to, .int .i64 x.num, .int .i64 x.how] 57))).drew.trans hb5))
              all_goals
                have hpp : (!pre) = decide ((0 : Int) ≤ cmpR p x) := by rw [HP1.out, Bool.eq_iff_iff]; simp
                go_wp2_with fail
                go_meet
                exact ⟨by rw [hpp], hS5⟩
          case rest =>
            obtain ⟨rfl, hb12⟩ := hcut
            generalize wc = W2 at hb12 ⊢
            have hbw2 := below_next hbx hb12
            have hX2 := hX.below hb12 hX.lt
            have hc2 := hcx.below hb12
            cases pre
            · have HO : Hid (recsE revs c = 118) := Lib.hid (recsE_no (by rw [HF.out]; rfl))
              go_wp2_with fail
              go_ret
              exact ⟨ret_int HO.out.symm, hbw2⟩
            · have HF2 : Hid (recsF revs c (editsOf c.edits) none c.recs = (ok && recsF revs c (editsOf c.edits) (some x) (c.recs.drop (k + 1)))) := Lib.hid (by rw [HF.out]; rfl)
              go_upto_region 13 with fail
              go_cut [75] (fun s75 wx => s75 = .bool (!ok) ∧ Below W2.heap.size W2 wx)
              case first =>
                obtain ⟨ir, hir⟩ : ∃ b, isRec revs c.num (editsOf c.edits) x = b := ⟨_, rfl⟩
                obtain ⟨wk, hwk⟩ : ∃ b, worked c.recs x.to = b := ⟨_, rfl⟩
                obtain ⟨y, hy⟩ : ∃ y, editR (editsOf c.edits) x.to = y := ⟨_, rfl⟩
                obtain ⟨un, hun⟩ : ∃ b, unchanged (lastOf revs) y = b := ⟨_, rfl⟩
                have hoke : ok = (ir && (wk || un)) := by
                  rw [← HOK.out, ← hir, ← hwk, ← hun, ← hy]; rfl
                have HI := Lib.hid (HIS.out x hxs.2 ir hir)
                have HU := Lib.hid (HUN.out y un hun)
                have cI : ∀ d os, Calls Tryz.prog 106 #[.pointer (some ⟨g, 0, none⟩), .agg #[.string x.frm, .int .i64 x.first, .int .i64 x.last, .string x.to, .int .i64 x.num, .int .i64 x.how]] (grow (redrawn W2 d) os) fun e w'' => e = .returned (.bool ir) ∧ ∃ p : Regrown, w'' = grow (redrawn W2 p.d) p.os := fun d os => Calls.regrown_of (HI.out _ (below_step hbw2 hbw2.size (below_regrown W2 d os)))
                have cU : ∀ d os, Calls Tryz.prog 107 #[.pointer (some ⟨g, 0, none⟩), .agg #[.string y.path, .int .i64 y.act, .int .i64 y.ty.base, .bool y.ty.k, .bool y.ty.l, .bool y.ty.x, .int .u64 y.sum, .int .i64 y.size, .int .i64 y.base, .string y.frm, .int .i64 y.fnum, .int .i64 y.fence]] (grow (redrawn W2 d) os) fun e w'' => e = .returned (.bool un) ∧ ∃ p : Regrown, w'' = grow (redrawn W2 p.d) p.os := fun d os => Calls.regrown_of (HU.out _ (below_step hbw2 hbw2.size (below_regrown W2 d os)))
                have hlw := fun d os => FlagMap.look (hc2.below (below_regrown W2 d os)) x.to
                have hle := fun d os => EditMap.look (w := grow (redrawn W2 d) os) (B := be) (FMap.below HM.out (below_step hbw2 hbw2.size (below_regrown W2 d os))) x.to
                rw [hwk] at hlw
                rw [hy] at hle
                have hK2 := Blk.below HK.out hbw2 (Blk.lt HK.out)
                obtain ⟨-, -, -, -, -, -, k8, -⟩ := box10 hK2
                obtain ⟨c0, c1, c2, c3, c4, c5⟩ := box6 hX2
                have m8 := cell_regrown k8
                have m0 := cell_regrown c0
                have m1 := cell_regrown c1
                have m2 := cell_regrown c2
                have m3 := cell_regrown c3
                have m4 := cell_regrown c4
                have m5 := cell_regrown c5
                have HOE := Lib.hid hoke
                clear hir hwk hy hun hoke x0 x1 x2 x3 x4 x5 hprev c0 c1 c2 c3 c4 c5 k8
                cases ir
                · have ho : ok = false := HOE.out
                  subst ho
                  refine wp_region_quiet_below (by kernel_rfl) (by kernel_rfl) ?_
                  repeat (first | go_big_quiet_step (first | exact cI _ _ | exact cU _ _) | quiet_step (first | exact cI _ _ | exact cU _ _))
                  refine wpQuiet_nil ?_
                  intro _ hw'
                  obtain ⟨⟨dq, osq⟩, hw''⟩ := hw'
                  subst hw''
                  have hS5 := below_regrown W2 dq osq
                  generalize grow (redrawn W2 dq) osq = W5 at hS5 ⊢
                  go_wp2_with fail
                  go_meet
                  exact ⟨rfl, hS5⟩
                · cases wk
                  · have ho : ok = un := HOE.out
                    subst ho
                    refine wp_region_quiet_below (by kernel_rfl) (by kernel_rfl) ?_
                    repeat (first | go_big_quiet_step (first | exact cI _ _ | exact cU _ _) | quiet_step (first | exact cI _ _ | exact cU _ _))
                    refine wpQuiet_nil ?_
                    intro _ hw'
                    obtain ⟨⟨dq, osq⟩, hw''⟩ := hw'
                    subst hw''
                    have hS5 := below_regrown W2 dq osq
                    generalize grow (redrawn W2 dq) osq = W5 at hS5 ⊢
                    go_wp2_with fail
                    go_meet
                    exact ⟨rfl, hS5⟩
                  · have ho : ok = true := HOE.out
                    subst ho
                    refine wp_region_quiet_below (by kernel_rfl) (by kernel_rfl) ?_
                    repeat (first | go_big_quiet_step (first | exact cI _ _ | exact cU _ _) | quiet_step (first | exact cI _ _ | exact cU _ _))
                    refine wpQuiet_nil ?_
                    intro _ hw'
                    obtain ⟨⟨dq, osq⟩, hw''⟩ := hw'
                    subst hw''
                    have hS5 := below_regrown W2 dq osq
                    generalize grow (redrawn W2 dq) osq = W5 at hS5 ⊢
                    go_wp2_with fail
                    go_meet
                    exact ⟨rfl, hS5⟩
              case rest =>
                obtain ⟨rfl, hb23⟩ := hcut
                generalize wc = W3 at hb23 ⊢
                have hbw3 := below_step hbw2 hbw2.size hb23
                have hc3 := hc2.below hb23
                cases ok
                · have HO : Hid (recsE revs c = 118) := Lib.hid (recsE_no (by rw [HF2.out]; rfl))
                  go_wp2_with fail
                  go_ret
                  exact ⟨ret_int HO.out.symm, hbw3⟩
                · go_wp2_with fail
                  go_roundw
                  case rel => exact ⟨k + 1, by omega, by go_num, hbw3, hc3, Lib.hid (by rw [HF2.out, HP.out]; rfl)⟩
                  case measure => simp [intOf]; omega
        · have HO : Hid (recsE revs c = 0) := Lib.hid (recsE_ok (by rw [HF.out, List.drop_of_length_le (by omega)]; rfl))
          go_wp2_with fail
          go_ret
          exact ⟨ret_int HO.out.symm, hbr⟩
end Go.Proofs.YtnblfaagchflaaaGreatDoor
