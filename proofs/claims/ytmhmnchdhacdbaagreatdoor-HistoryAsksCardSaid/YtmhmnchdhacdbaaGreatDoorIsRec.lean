/- isRecord. -/
import Derived.Test.YtmhmnchdhacdbaaGreatDoorSource
namespace Go.Proofs.YtmhmnchdhacdbaaGreatDoor
open Go.RowKit
set_option linter.unusedVariables false
set_option linter.unusedSimpArgs false

/-- What isRecord asks behind the source. -/
def isRecT (e : Edt) (v : Rev) (h : Int) : Bool := if h = 1 then (if v.act = 3 then decide (e.act = 3) else (!decide (e.act = 3)) && decide (e.ty = v.ty) && (decide (e.sum = v.sum) && decide (e.size = v.size))) else true
theorem isRec_none {revs : List Rev} {n : Int} {ed : ByteArray → Option Edt} {x : Rcd} (h : ed x.to = none) : isRec revs n ed x = false := by unfold isRec; rw [h]
theorem isRec_bad {revs : List Rev} {n : Int} {ed : ByteArray → Option Edt} {x : Rcd} {e : Edt} (h : ed x.to = some e) (hb : e.act = 5 ∨ x.num ≠ e.base + 1 ∨ x.how < 1 ∨ 4 < x.how) : isRec revs n ed x = false := by
  unfold isRec; rw [h]; exact if_pos hb
theorem isRec_rest {revs : List Rev} {n : Int} {ed : ByteArray → Option Edt} {x : Rcd} {e : Edt} (h : ed x.to = some e) (hb : ¬ (e.act = 5 ∨ x.num ≠ e.base + 1 ∨ x.how < 1 ∨ 4 < x.how)) :
    isRec revs n ed x = match sourceR revs x (lineV (linesOf revs) (madeR (lastOf revs) n e)) with
      | none => false
      | some v => isRecT e v x.how := by
  unfold isRec; rw [h]
  show (if _ then false else _) = _
  rw [if_neg hb]
  cases sourceR revs x (lineV (linesOf revs) (madeR (lastOf revs) n e)) with
  | none => rfl
  | some v => unfold isRecT; simp only [Bool.and_assoc]
theorem source_is (o : Option Rev) (r : Rev) (b : Bool) (revs : List Rev) (x : Rcd) (t : Fil) (ho : sourceR revs x t = o) (hr : someR o = r) (hb : o.isSome = b) (g : Nat) (dv dr ev rv : Value) (n : Int) (cl tx : ByteArray) (bl be bn : Nat) (w : World) (hk : Chk w g dv dr n cl tx ev rv bl be bn) (hR : Revs w dv revs) (hL : LineMap w bn (linesOf revs)) (hl : revs.length ≤ 1000000) (hw1 : x.last ≤ 9223372036854775807) :
    Calls Tryz.prog 139 #[.pointer (some ⟨g, 0, none⟩), .agg #[.string x.frm, .int .i64 x.first, .int .i64 x.last, .string x.to, .int .i64 x.num, .int .i64 x.how], .agg #[.string t.1, .int .i64 t.2]] w
      fun e w' => e = .returned (.tuple #[.agg #[.string r.path, .int .i64 r.num, .int .i64 r.chg, .int .i64 r.act, .int .i64 r.ty.base, .bool r.ty.k, .bool r.ty.l, .bool r.ty.x, .int .u64 r.sum, .int .i64 r.size, .string r.frm, .int .i64 r.fnum], .bool b]) ∧ Below w.heap.size w w' := by
  subst hb hr ho; exact source_any revs x t g dv dr ev rv n cl tx bl be bn w hk hR hL hl hw1
theorem revision_is (m : Rev) (f : ByteArray → Option Rev) (x : Edt) (n : Int) (hm : madeR f n x = m) (g : Nat) (dv dr ev rv : Value) (cl tx : ByteArray) (bl be bn : Nat) (w : World) (hk : Chk w g dv dr n cl tx ev rv bl be bn) (hL : LastMap w bl f)
    (h1 : 0 ≤ (lastR f x.path).num) (h2 : (lastR f x.path).num ≤ 1000000) :
    Calls Tryz.prog 51 #[.pointer (some ⟨g, 0, none⟩), .agg #[.string x.path, .int .i64 x.act, .int .i64 x.ty.base, .bool x.ty.k, .bool x.ty.l, .bool x.ty.x, .int .u64 x.sum, .int .i64 x.size, .int .i64 x.base, .string x.frm, .int .i64 x.fnum, .int .i64 x.fence]] w
      fun e w' => e = .returned (.agg #[.string m.path, .int .i64 m.num, .int .i64 m.chg, .int .i64 m.act, .int .i64 m.ty.base, .bool m.ty.k, .bool m.ty.l, .bool m.ty.x, .int .u64 m.sum, .int .i64 m.size, .string m.frm, .int .i64 m.fnum]) ∧ Below w.heap.size w w' := by
  subst hm; exact revision_any f x g dv dr ev rv n cl tx bl be bn w hk hL h1 h2
theorem lineOf_is (t : Fil) (f : Fil → Option Fil) (r : Rev) (ht : lineV f r = t) (g : Nat) (dv dr ev rv : Value) (n : Int) (cl tx : ByteArray) (bl be bn : Nat) (w : World) (hk : Chk w g dv dr n cl tx ev rv bl be bn) (hL : LineMap w bn f) (hn : 0 < r.num) (hn2 : r.num ≤ 1000000) :
    Calls Tryz.prog 78 #[.pointer (some ⟨g, 0, none⟩), .agg #[.string r.path, .int .i64 r.num, .int .i64 r.chg, .int .i64 r.act, .int .i64 r.ty.base, .bool r.ty.k, .bool r.ty.l, .bool r.ty.x, .int .u64 r.sum, .int .i64 r.size, .string r.frm, .int .i64 r.fnum]] w
      fun e w' => e = .returned (.agg #[.string t.1, .int .i64 t.2]) ∧ Below w.heap.size w w' := by
  subst ht; exact lineOf_main f r g dv dr ev rv n cl tx bl be bn w hk hL hn hn2

set_option maxRecDepth 100000 in
set_option maxHeartbeats 8000000 in
theorem isRecord_any (revs : List Rev) (ed : ByteArray → Option Edt) (x : Rcd) (g : Nat) (dv dr ev rv : Value) (n : Int) (cl tx : ByteArray) (bl be bn : Nat) (w : World) (hk : Chk w g dv dr n cl tx ev rv bl be bn) (hR : Revs w dv revs) (hA : LastMap w bl (lastOf revs)) (hM : EditMap w be ed) (hL : LineMap w bn (linesOf revs)) (hl : revs.length ≤ 1000000) (hw1 : x.last ≤ 9223372036854775807)
    (hb1 : ∀ p, 0 ≤ (lastR (lastOf revs) p).num) (hb2 : ∀ p, (lastR (lastOf revs) p).num ≤ 999999) (hed : ∀ p e, ed p = some e → 0 ≤ e.base ∧ e.base ≤ 1000000) :
    Calls Tryz.prog 116 #[.pointer (some ⟨g, 0, none⟩), .agg #[.string x.frm, .int .i64 x.first, .int .i64 x.last, .string x.to, .int .i64 x.num, .int .i64 x.how]] w
      fun e w' => e = .returned (.bool (isRec revs n ed x)) ∧ Below w.heap.size w w' := by
  obtain ⟨W, hW⟩ : ∃ W, W = w.alloc (.cells #[.string x.frm, .int .i64 x.first, .int .i64 x.last, .string x.to, .int .i64 x.num, .int .i64 x.how] 60) := ⟨_, rfl⟩
  have hbW : Below w.heap.size w W := by rw [hW]; exact (Below.refl _ _).alloc (Nat.le_refl _) _
  have hX : Blk W w.heap.size 60 [.string x.frm, .int .i64 x.first, .int .i64 x.last, .string x.to, .int .i64 x.num, .int .i64 x.how] := by rw [hW]; exact blk_new w _ _
  have hK : Chk W g dv dr n cl tx ev rv bl be bn := Blk.below hk hbW (Blk.lt hk)
  have HRW := Lib.hid (hR.below hbW)
  have HAW := Lib.hid (FMap.below hA hbW)
  have HMW := Lib.hid (FMap.below hM hbW)
  have HLW := Lib.hid (FMap.below hL hbW)
  have HW := Lib.hid hW
  clear hW
  obtain ⟨e, he⟩ : ∃ e, editR ed x.to = e := ⟨_, rfl⟩
  obtain ⟨bs, hbs⟩ : ∃ b, (ed x.to).isSome = b := ⟨_, rfl⟩
  have hlk : ∀ w', Below W.heap.size W w' → _ := fun w' hb => EditMap.look2 (w := w') (FMap.below HMW.out hb) x.to
  rw [he, hbs] at hlk
  have hsome : bs = true → ed x.to = some e := by
    intro h
    rw [h] at hbs
    cases hq : ed x.to with
    | none => rw [hq] at hbs; cases hbs
    | some a => rw [← he]; unfold editR; rw [hq]; rfl
  have hnone : bs = false → ed x.to = none := by
    intro h
    rw [h] at hbs
    cases hq : ed x.to with
    | none => rfl
    | some a => rw [hq] at hbs; cases hbs
  have HSOME := Lib.hid hsome
  have HNONE := Lib.hid hnone
  have HB1 := Lib.hid hb1
  have HB2 := Lib.hid hb2
  have HED := Lib.hid hed
  clear he hbs hsome hnone hb1 hb2 hed
  obtain ⟨-, -, -, -, -, -, k8, -⟩ := box10 hK
  obtain ⟨c0, c1, c2, c3, c4, c5⟩ := box6 hX
  have HC : Hid (∀ w', Below W.heap.size W w' → w'.cell? ⟨g, 8, none⟩ = some (.map (some be)) ∧ w'.cell? ⟨w.heap.size, 3, none⟩ = some (.string x.to)) := Lib.hid fun w' hb => ⟨cell_below k8 hb (cell_lt k8), cell_below c3 hb (cell_lt c3)⟩
  go_enter Tryz.func116, Tryz.ntmps116
  go_upto_region 1 with fail
  rw [← HW.out]
  go_cut [5, 6] (fun s5 s6 wx => ∃ ge : Nat, s5 = .pointer (some ⟨ge, 0, none⟩) ∧ s6 = .bool bs ∧ Below W.heap.size W wx ∧ Blk wx ge 58 [.string e.path, .int .i64 e.act, .int .i64 e.ty.base, .bool e.ty.k, .bool e.ty.l, .bool e.ty.x, .int .u64 e.sum, .int .i64 e.size, .int .i64 e.base, .string e.frm, .int .i64 e.fnum, .int .i64 e.fence])
  case first =>
    go_region_held3 (fun w' => Below W.heap.size W w' ∧ w'.cell? ⟨g, 8, none⟩ = some (.map (some be)) ∧ w'.cell? ⟨w.heap.size, 3, none⟩ = some (.string x.to))
      ((refine and_of ?_ (HC.out _); first | with_reducible exact (Below.refl _ _).drew | with_reducible assumption | with_reducible exact ((Below.refl _ _).alloc (Nat.le_refl _) _).drew)) (fail)
    all_goals
      have hq1 : Below W.heap.size W (W.alloc (.cells #[.string e.path, .int .i64 e.act, .int .i64 e.ty.base, .bool e.ty.k, .bool e.ty.l, .bool e.ty.x, .int .u64 e.sum, .int .i64 e.size, .int .i64 e.base, .string e.frm, .int .i64 e.fnum, .int .i64 e.fence] 58)).drew := ((Below.refl _ _).alloc (Nat.le_refl _) _).drew
      have hq2 : Blk (W.alloc (.cells #[.string e.path, .int .i64 e.act, .int .i64 e.ty.base, .bool e.ty.k, .bool e.ty.l, .bool e.ty.x, .int .u64 e.sum, .int .i64 e.size, .int .i64 e.base, .string e.frm, .int .i64 e.fnum, .int .i64 e.fence] 58)).drew W.heap.size 58 [.string e.path, .int .i64 e.act, .int .i64 e.ty.base, .bool e.ty.k, .bool e.ty.l, .bool e.ty.x, .int .u64 e.sum, .int .i64 e.size, .int .i64 e.base, .string e.frm, .int .i64 e.fnum, .int .i64 e.fence] := blk_new W _ _
      go_wp2_with fail
      go_meet
      exact ⟨_, rfl, rfl, hq1, hq2⟩
  case rest =>
    obtain ⟨ge, rfl, rfl, hbW2, hE2⟩ := hcut
    generalize wc = W2 at hbW2 hE2 ⊢
    have hX2 := hX.below hbW2 hX.lt
    have hK2 : Chk W2 g dv dr n cl tx ev rv bl be bn := Blk.below hK hbW2 (Blk.lt hK)
    have hb2 := below_next hbW hbW2
    clear hlk HC k8 c0 c1 c2 c3 c4 c5
    obtain ⟨c0, c1, c2, c3, c4, c5⟩ := box6 hX2
    obtain ⟨d0, d1, d2, d3, d4, d5, d6, d7, d8, d9, d10, d11⟩ := box12 hE2
    cases bs
    · have HN := Lib.hid (isRec_none (revs := revs) (n := n) (HNONE.out rfl))
      go_wp2_with fail
      go_ret
      exact ⟨ret_bool HN.out.symm, hb2⟩
    · have HSE := Lib.hid (HSOME.out rfl)
      obtain ⟨hba, hbb⟩ := HED.out _ _ HSE.out
      by_cases h5 : e.act = 5
      · have q5 : (e.act == 5) = true := by rw [h5]; rfl
        have HN := Lib.hid (isRec_bad (revs := revs) (n := n) HSE.out (.inl h5))
        clear h5
        go_wp2_with fail
        go_ret
        exact ⟨ret_bool HN.out.symm, hb2⟩
      · have q5 : (e.act == 5) = false := by simpa using h5
        by_cases hnum : x.num = e.base + 1
        · have qn : (x.num != e.base + 1) = false := by rw [bne_dec]; simp [hnum]
          by_cases hh1 : x.how < 1
          · have HN := Lib.hid (isRec_bad (revs := revs) (n := n) HSE.out (.inr (.inr (.inl hh1))))
            clear hnum h5
            go_wp2_with fail
            go_ret
            exact ⟨ret_bool HN.out.symm, hb2⟩
          · by_cases hh4 : 4 < x.how
            · have HN := Lib.hid (isRec_bad (revs := revs) (n := n) HSE.out (.inr (.inr (.inr hh4))))
              clear hnum h5
              go_wp2_with fail
              go_ret
              exact ⟨ret_bool HN.out.symm, hb2⟩
            · have HR0 := Lib.hid (isRec_rest (revs := revs) (n := n) HSE.out (show ¬ (e.act = 5 ∨ x.num ≠ e.base + 1 ∨ x.how < 1 ∨ 4 < x.how) by omega))
              clear hnum h5
              obtain ⟨m, hm⟩ : ∃ m, madeR (lastOf revs) n e = m := ⟨_, rfl⟩
              obtain ⟨t, ht⟩ : ∃ t, lineV (linesOf revs) m = t := ⟨_, rfl⟩
              obtain ⟨o, ho⟩ : ∃ o, sourceR revs x t = o := ⟨_, rfl⟩
              obtain ⟨r, hr⟩ : ∃ r, someR o = r := ⟨_, rfl⟩
              obtain ⟨bo, hbo⟩ : ∃ b, o.isSome = b := ⟨_, rfl⟩
              rw [hm, ht, ho] at HR0
              have hm1 : 0 < m.num ∧ m.num ≤ 1000000 := by
                rw [← hm]
                have h1 := HB1.out e.path
                have h2 := HB2.out e.path
                show 0 < (lastR (lastOf revs) e.path).num + 1 ∧ (lastR (lastOf revs) e.path).num + 1 ≤ 1000000
                omega
              have H1 := Lib.hid (fun W' (h : Below W2.heap.size W2 W') => (revision_is m (lastOf revs) e n hm g dv dr ev rv cl tx bl be bn W' (Blk.below hK2 h (Blk.lt hK2)) (FMap.below (FMap.below HAW.out hbW2) h) (HB1.out _) (by have := HB2.out e.path; omega)).mono (fun e' w' (h2 : _ ∧ _) => (⟨h2.1, h.trans (h2.2.mono h.size), h2.2⟩ : _ ∧ Below W2.heap.size W2 w' ∧ Below W'.heap.size W' w')))
              have H2 := Lib.hid (fun W' (h : Below W2.heap.size W2 W') => (lineOf_is t (linesOf revs) m ht g dv dr ev rv n cl tx bl be bn W' (Blk.below hK2 h (Blk.lt hK2)) (FMap.below (FMap.below HLW.out hbW2) h) hm1.1 hm1.2).mono (fun e' w' (h2 : _ ∧ _) => (⟨h2.1, h.trans (h2.2.mono h.size), h2.2⟩ : _ ∧ Below W2.heap.size W2 w' ∧ Below W'.heap.size W' w')))
              have H3 := Lib.hid (fun W' (h : Below W2.heap.size W2 W') => (source_is o r bo revs x t ho hr hbo g dv dr ev rv n cl tx bl be bn W' (Blk.below hK2 h (Blk.lt hK2)) ((HRW.out.below hbW2).below h) (FMap.below (FMap.below HLW.out hbW2) h) hl hw1).mono (fun e' w' (h2 : _ ∧ _) => (⟨h2.1, h.trans (h2.2.mono h.size), h2.2⟩ : _ ∧ Below W2.heap.size W2 w' ∧ Below W'.heap.size W' w')))
              have HRR : Hid (isRec revs n ed x = (bo && isRecT e r x.how)) := Lib.hid (by
                rw [HR0.out]
                cases o with
                | none => rw [← hbo]; rfl
                | some v => rw [← hbo, ← hr]; rfl)
              have HC : Hid (∀ w', Below W2.heap.size W2 w' → w'.cell? ⟨w.heap.size, 0, none⟩ = some (.string x.frm) ∧ w'.cell? ⟨w.heap.size, 1, none⟩ = some (.int .i64 x.first) ∧ w'.cell? ⟨w.heap.size, 2, none⟩ = some (.int .i64 x.last) ∧ w'.cell? ⟨w.heap.size, 3, none⟩ = some (.string x.to) ∧ w'.cell? ⟨w.heap.size, 4, none⟩ = some (.int .i64 x.num) ∧ w'.cell? ⟨w.heap.size, 5, none⟩ = some (.int .i64 x.how) ∧ w'.cell? ⟨ge, 0, none⟩ = some (.string e.path) ∧ w'.cell? ⟨ge, 1, none⟩ = some (.int .i64 e.act) ∧ w'.cell? ⟨ge, 2, none⟩ = some (.int .i64 e.ty.base) ∧ w'.cell? ⟨ge, 3, none⟩ = some (.bool e.ty.k) ∧ w'.cell? ⟨ge, 4, none⟩ = some (.bool e.ty.l) ∧ w'.cell? ⟨ge, 5, none⟩ = some (.bool e.ty.x) ∧ w'.cell? ⟨ge, 6, none⟩ = some (.int .u64 e.sum) ∧ w'.cell? ⟨ge, 7, none⟩ = some (.int .i64 e.size) ∧ w'.cell? ⟨ge, 8, none⟩ = some (.int .i64 e.base) ∧ w'.cell? ⟨ge, 9, none⟩ = some (.string e.frm) ∧ w'.cell? ⟨ge, 10, none⟩ = some (.int .i64 e.fnum) ∧ w'.cell? ⟨ge, 11, none⟩ = some (.int .i64 e.fence)) := Lib.hid fun w' hb => ⟨(hX2.below hb hX2.lt).cell 0, (hX2.below hb hX2.lt).cell 1, (hX2.below hb hX2.lt).cell 2, (hX2.below hb hX2.lt).cell 3, (hX2.below hb hX2.lt).cell 4, (hX2.below hb hX2.lt).cell 5, (hE2.below hb hE2.lt).cell 0, (hE2.below hb hE2.lt).cell 1, (hE2.below hb hE2.lt).cell 2, (hE2.below hb hE2.lt).cell 3, (hE2.below hb hE2.lt).cell 4, (hE2.below hb hE2.lt).cell 5, (hE2.below hb hE2.lt).cell 6, (hE2.below hb hE2.lt).cell 7, (hE2.below hb hE2.lt).cell 8, (hE2.below hb hE2.lt).cell 9, (hE2.below hb hE2.lt).cell 10, (hE2.below hb hE2.lt).cell 11⟩
              have hZ0 : Blk (W2.alloc (.cells #[.string ⟨#[]⟩, .int .i64 0, .int .i64 0, .int .i64 0, .int .i64 0, .bool false, .bool false, .bool false, .int .u64 0, .int .i64 0, .string ⟨#[]⟩, .int .i64 0] 36)).drew W2.heap.size 36 [.string ⟨#[]⟩, .int .i64 0, .int .i64 0, .int .i64 0, .int .i64 0, .bool false, .bool false, .bool false, .int .u64 0, .int .i64 0, .string ⟨#[]⟩, .int .i64 0] := blk_new W2 [.string ⟨#[]⟩, .int .i64 0, .int .i64 0, .int .i64 0, .int .i64 0, .bool false, .bool false, .bool false, .int .u64 0, .int .i64 0, .string ⟨#[]⟩, .int .i64 0] 36
              clear hm ht ho hr hbo hm1 HR0
              go_upto_region 4 with fail
              go_cut [6, 7] (fun s6 s7 wx => ∃ gb : Nat, s7 = .pointer (some ⟨gb, 0, none⟩) ∧ s6 = .bool bo ∧ Below W2.heap.size W2 wx ∧ Blk wx gb 36 [.string r.path, .int .i64 r.num, .int .i64 r.chg, .int .i64 r.act, .int .i64 r.ty.base, .bool r.ty.k, .bool r.ty.l, .bool r.ty.x, .int .u64 r.sum, .int .i64 r.size, .string r.frm, .int .i64 r.fnum])
              case first =>
                clear c0 c1 c2 c3 c4 c5 d0 d1 d2 d3 d4 d5 d6 d7 d8 d9 d10 d11
                go_region_held3 (fun w' => Below W2.heap.size W2 w' ∧ w'.cell? ⟨w.heap.size, 0, none⟩ = some (.string x.frm) ∧ w'.cell? ⟨w.heap.size, 1, none⟩ = some (.int .i64 x.first) ∧ w'.cell? ⟨w.heap.size, 2, none⟩ = some (.int .i64 x.last) ∧ w'.cell? ⟨w.heap.size, 3, none⟩ = some (.string x.to) ∧ w'.cell? ⟨w.heap.size, 4, none⟩ = some (.int .i64 x.num) ∧ w'.cell? ⟨w.heap.size, 5, none⟩ = some (.int .i64 x.how) ∧ w'.cell? ⟨ge, 0, none⟩ = some (.string e.path) ∧ w'.cell? ⟨ge, 1, none⟩ = some (.int .i64 e.act) ∧ w'.cell? ⟨ge, 2, none⟩ = some (.int .i64 e.ty.base) ∧ w'.cell? ⟨ge, 3, none⟩ = some (.bool e.ty.k) ∧ w'.cell? ⟨ge, 4, none⟩ = some (.bool e.ty.l) ∧ w'.cell? ⟨ge, 5, none⟩ = some (.bool e.ty.x) ∧ w'.cell? ⟨ge, 6, none⟩ = some (.int .u64 e.sum) ∧ w'.cell? ⟨ge, 7, none⟩ = some (.int .i64 e.size) ∧ w'.cell? ⟨ge, 8, none⟩ = some (.int .i64 e.base) ∧ w'.cell? ⟨ge, 9, none⟩ = some (.string e.frm) ∧ w'.cell? ⟨ge, 10, none⟩ = some (.int .i64 e.fnum) ∧ w'.cell? ⟨ge, 11, none⟩ = some (.int .i64 e.fence))
                  ((refine and_of ?_ (HC.out _); first | with_reducible exact (Below.refl _ _).drew | with_reducible exact ((Below.refl _ _).alloc (Nat.le_refl _) _).drew | with_reducible assumption | with_reducible exact hS5.alloc hS5.size _ | with_reducible exact hS6.alloc hS6.size _ | with_reducible exact hS7.alloc hS7.size _ | with_reducible exact below12 hS7 hge7 r))
                  (first
                    | (go_at_call 51; (with_reducible refine (H1.out _ (Below.refl _ _).drew).mono ?_); rintro e' w5 ⟨rfl, hS5, hb5⟩)
                    | (go_at_call 51; (with_reducible refine (H1.out _ ((Below.refl _ _).alloc (Nat.le_refl _) _).drew).mono ?_); rintro e' w5 ⟨rfl, hS5, hb5⟩; have hZ5 := hZ0.below hb5 hZ0.lt; have hge5 : W2.heap.size ≤ W2.heap.size := Nat.le_refl _)
                    | (go_at_call 78; (with_reducible refine (H2.out w5 hS5).mono ?_); rintro e' w6 ⟨rfl, hS6, hb6⟩; try (have hZ6 := hZ5.below hb6 hZ5.lt; have hge6 := hge5))
                    | (go_at_call 78; (with_reducible refine (H2.out _ (hS5.alloc hS5.size _)).mono ?_); rintro e' w6 ⟨rfl, hS6, hb6⟩; have hZ6 := (blk_new w5 [.string ⟨#[]⟩, .int .i64 0, .int .i64 0, .int .i64 0, .int .i64 0, .bool false, .bool false, .bool false, .int .u64 0, .int .i64 0, .string ⟨#[]⟩, .int .i64 0] 36).below hb6 (by simp); have hge6 : W2.heap.size ≤ w5.heap.size := hS5.size)
                    | (go_at_call 139; (with_reducible refine (H3.out w6 hS6).mono ?_); rintro e' w7 ⟨rfl, hS7, hb7⟩; try (have hZ7 := hZ6.below hb7 hZ6.lt; have hge7 := hge6; obtain ⟨z0, z1, z2, z3, z4, z5, z6, z7, z8, z9, z10, z11⟩ := box12 hZ7; obtain ⟨y0, y1, y2, y3, y4, y5, y6, y7, y8, y9, y10, y11⟩ := frz12 hZ7))
                    | (go_at_call 139; (with_reducible refine (H3.out _ (hS6.alloc hS6.size _)).mono ?_); rintro e' w7 ⟨rfl, hS7, hb7⟩; have hZ7 := (blk_new w6 [.string ⟨#[]⟩, .int .i64 0, .int .i64 0, .int .i64 0, .int .i64 0, .bool false, .bool false, .bool false, .int .u64 0, .int .i64 0, .string ⟨#[]⟩, .int .i64 0] 36).below hb7 (by simp); have hge7 : W2.heap.size ≤ w6.heap.size := hS6.size; obtain ⟨z0, z1, z2, z3, z4, z5, z6, z7, z8, z9, z10, z11⟩ := box12 hZ7; obtain ⟨y0, y1, y2, y3, y4, y5, y6, y7, y8, y9, y10, y11⟩ := frz12 hZ7))
                all_goals
                  first
                    | (have hRR := set12 hZ7 r
                       have hbW5 := below12 hS7 hge7 r
                       go_wp2_with fail
                       go_meet
                       exact ⟨_, rfl, rfl, hbW5, hRR⟩)
                    | (have hRR := blk_new w7 [.string r.path, .int .i64 r.num, .int .i64 r.chg, .int .i64 r.act, .int .i64 r.ty.base, .bool r.ty.k, .bool r.ty.l, .bool r.ty.x, .int .u64 r.sum, .int .i64 r.size, .string r.frm, .int .i64 r.fnum] 36
                       have hbW5 := hS7.alloc hS7.size (.cells #[.string r.path, .int .i64 r.num, .int .i64 r.chg, .int .i64 r.act, .int .i64 r.ty.base, .bool r.ty.k, .bool r.ty.l, .bool r.ty.x, .int .u64 r.sum, .int .i64 r.size, .string r.frm, .int .i64 r.fnum] 36)
                       go_wp2_with fail
                       go_meet
                       exact ⟨_, rfl, rfl, hbW5, hRR⟩)
              case rest =>
                obtain ⟨gb, rfl, rfl, hbW3, hRR⟩ := hcut
                generalize wc = W3 at hbW3 hRR ⊢
                have hX3 := hX2.below hbW3 hX2.lt
                have hE3 := hE2.below hbW3 hE2.lt
                have hb3 := below_next hb2 hbW3
                clear c0 c1 c2 c3 c4 c5 d0 d1 d2 d3 d4 d5 d6 d7 d8 d9 d10 d11 HC H1 H2 H3
                obtain ⟨c0, c1, c2, c3, c4, c5⟩ := box6 hX3
                obtain ⟨d0, d1, d2, d3, d4, d5, d6, d7, d8, d9, d10, d11⟩ := box12 hE3
                obtain ⟨f0, f1, f2, f3, f4, f5, f6, f7, f8, f9, f10, f11⟩ := box12 hRR
                have hty := run_eql_ty e.ty r.ty
                have hcn := run_eql_con e.sum e.size r.sum r.size
                cases bo
                · go_wp2_with fail
                  go_ret
                  exact ⟨ret_bool HRR.out.symm, hb3⟩
                · have HT : Hid (isRec revs n ed x = isRecT e r x.how) := Lib.hid (by rw [HRR.out]; rfl)
                  by_cases hh : x.how = 1
                  · have qh : (x.how == 1) = true := by rw [hh]; rfl
                    by_cases hr3 : r.act = 3
                    · have q3 : (r.act == 3) = true := by rw [hr3]; rfl
                      have HF : Hid (isRec revs n ed x = (e.act == 3)) := Lib.hid (by rw [HT.out]; unfold isRecT; rw [if_pos hh, if_pos hr3, beq_dec])
                      clear hh hr3
                      go_wp2_with fail
                      go_ret
                      exact ⟨ret_bool HF.out.symm, hb3⟩
                    · have q3 : (r.act == 3) = false := by simpa using hr3
                      have HF : Hid (isRec revs n ed x = ((!decide (e.act = 3)) && decide (e.ty = r.ty) && (decide (e.sum = r.sum) && decide (e.size = r.size)))) := Lib.hid (by rw [HT.out]; unfold isRecT; rw [if_pos hh, if_neg hr3])
                      clear hh hr3
                      generalize (decide (e.sum = r.sum) && decide (e.size = r.size)) = bc at hcn HF
                      generalize decide (e.ty = r.ty) = bt at hty HF
                      by_cases he3 : e.act = 3
                      · have qe : (e.act != 3) = false := by rw [bne_dec]; simp [he3]
                        rw [show decide (e.act = 3) = true by simpa using he3] at HF
                        clear he3
                        go_wp2_with fail
                        go_ret
                        exact ⟨ret_bool HF.out.symm, hb3⟩
                      · have qe : (e.act != 3) = true := by rw [bne_dec]; simp [he3]
                        rw [show decide (e.act = 3) = false by simpa using he3] at HF
                        clear he3
                        cases bt
                        all_goals
                          go_wp2_with fail
                          go_ret
                          exact ⟨ret_bool HF.out.symm, hb3⟩
                  · have qh : (x.how == 1) = false := by simpa using hh
                    have HF : Hid (isRec revs n ed x = true) := Lib.hid (by rw [HT.out]; unfold isRecT; rw [if_neg hh])
                    clear hh
                    go_wp2_with fail
                    go_ret
                    exact ⟨ret_bool HF.out.symm, hb3⟩
        · have qn : (x.num != e.base + 1) = true := by rw [bne_dec]; simp [hnum]
          have HN := Lib.hid (isRec_bad (revs := revs) (n := n) HSE.out (.inr (.inl hnum)))
          clear hnum h5
          go_wp2_with fail
          go_ret
          exact ⟨ret_bool HN.out.symm, hb2⟩
end Go.Proofs.YtmhmnchdhacdbaaGreatDoor
