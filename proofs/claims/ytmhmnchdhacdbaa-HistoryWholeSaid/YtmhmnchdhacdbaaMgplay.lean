/- Slices of changes; the statements' own Small and play. -/
import Derived.Test.YtmhmnchdhacdbaaMzApp
namespace Go.Proofs.Ytmhmnchdhacdbaa
open Go.RowKit
set_option linter.unusedVariables false
set_option linter.unusedSimpArgs false

/-- A change with the slices that it has in memory. -/
abbrev ChV := Chg × Value × Value
def ChV.cells (p : ChV) : List Value := [.int .i64 p.1.num, .string p.1.client, .string p.1.text, p.2.1, p.2.2]
def ChV.ok (w : World) (p : ChV) : Prop := Edts w p.2.1 p.1.edits ∧ Rcds w p.2.2 p.1.recs
def Chgs (w : World) (v : Value) (ps : List ChV) : Prop := Row w 5 v ps.length (ps.flatMap ChV.cells) ∧ ∀ p ∈ ps, p.ok w
theorem ChV.ok_below {w w' : World} {p : ChV} (h : p.ok w) (hb : Below w.heap.size w w') : p.ok w' := ⟨h.1.below hb, h.2.below hb⟩
theorem Chgs.below {w w' : World} {v : Value} {ps : List ChV} (h : Chgs w v ps) (hb : Below w.heap.size w w') : Chgs w' v ps := ⟨Row.below h.1 hb, fun p hp => ChV.ok_below (h.2 p hp) hb⟩
def ChAt (w : World) (a : Addr) (p : ChV) : Prop := w.cell? a = some (.int .i64 p.1.num) ∧ w.cell? ⟨a.block, a.off + 1, none⟩ = some (.string p.1.client) ∧ w.cell? ⟨a.block, a.off + 2, none⟩ = some (.string p.1.text) ∧ w.cell? ⟨a.block, a.off + 3, none⟩ = some p.2.1 ∧ w.cell? ⟨a.block, a.off + 4, none⟩ = some p.2.2
theorem Chgs.at_ {w : World} {A : Option Addr} {c : Nat} {l : List ChV} (h : Chgs w (.slice A l.length c) l) {k : Nat} (hk : k < l.length) :
    ∃ ad, A = some ad ∧ ad.block < w.heap.size ∧ ChAt w (ad.add (k * 5)) l[k] := by
  obtain ⟨ad, e, hb, hc⟩ := row_at (f := ChV.cells) (n := 5) (fun _ => rfl) h.1 hk
  exact ⟨ad, e, hb, hc 0 _ rfl, hc 1 _ rfl, hc 2 _ rfl, hc 3 _ rfl, hc 4 _ rfl⟩

def edtSm (x : Edt) : Prop := x.path.size + x.frm.size ≤ 500
def rcdSm (x : Rcd) : Prop := x.frm.size + x.to.size ≤ 500
def chgSm (c : Chg) : Prop := (∀ x ∈ c.edits, edtSm x) ∧ ∀ x ∈ c.recs, rcdSm x
def chgLen (c : Chg) : Nat := c.edits.length + c.recs.length
def lenSum (l : List Chg) : Nat := (l.map chgLen).sum
def smallL (l : List Chg) : Prop := (∀ c ∈ l, chgSm c) ∧ l.length ≤ 40 ∧ lenSum l ≤ 200
theorem lenSum_snoc (l : List Chg) (c : Chg) : lenSum (l ++ [c]) = lenSum l + chgLen c := by unfold lenSum; simp
theorem lenSum_mem {l : List Chg} {c : Chg} (h : c ∈ l) : chgLen c ≤ lenSum l := by
  induction l with
  | nil => cases h
  | cons x l ih =>
    unfold lenSum at ih ⊢
    simp only [List.map_cons, List.sum_cons]
    rcases List.mem_cons.1 h with rfl | h
    · omega
    · have := ih h; omega

def SmPost (w : World) (l : List Chg) (e : Ending) (w' : World) : Prop := ∃ b, e = .returned (.bool b) ∧ Below w.heap.size w w' ∧ (b = true → smallL l)
set_option maxRecDepth 100000 in
set_option maxHeartbeats 8000000 in
theorem small_any (ps : List ChV) (v : Value) (w : World) (hP : Chgs w v ps) (hl : ps.length ≤ 10000000000000) (hs : ∀ p ∈ ps, chgLen p.1 ≤ 10000000000000) (hz : ∀ p ∈ ps, (∀ x ∈ p.1.edits, x.path.size ≤ 140737488355328 ∧ x.frm.size ≤ 140737488355328) ∧ ∀ x ∈ p.1.recs, x.frm.size ≤ 140737488355328 ∧ x.to.size ≤ 140737488355328) :
    Calls Try.prog 7 #[v] w (SmPost w (ps.map (·.1))) := by
  obtain ⟨A, c, rfl, hc, hm, -⟩ := id hP.1
  have HP := Lib.hid hP
  have HS := Lib.hid hs
  have HZ := Lib.hid hz
  unfold maxLen at hm
  clear hP hs hz
  go_enter Try.func7, Try.ntmps7
  go_wp2_with fail
  go_loopw [3, 12] (fun s t wr => ∃ (k : Nat) (tot : Int), s = .int .i64 tot ∧ t = .int .i64 k ∧ k ≤ ps.length ∧ Hid ((k ≤ 40 → tot = lenSum ((ps.take k).map (·.1)) ∧ 0 ≤ tot ∧ tot ≤ k * 10000000000000) ∧ (∀ p ∈ ps.take k, chgSm p.1) ∧ Below w.heap.size w wr)) (fun _ t _ => ps.length - (intOf t).toNat)
  case atStart => exact ⟨0, 0, rfl, rfl, Nat.zero_le _, fun _ => ⟨rfl, by omega, by omega⟩, fun p hp => by simp at hp, Below.refl _ _⟩
  case round =>
    obtain ⟨k, tot, rfl, rfl, hk, HI⟩ := hrel
    by_cases hlt : k < ps.length
    · have hPr := HP.out.below HI.out.2.2
      obtain ⟨ad, rfl, hab, hld⟩ := Chgs.at_ hPr hlt
      have HT := Lib.hid (show ps.take (k + 1) = ps.take k ++ [ps[k]] from List.take_succ_eq_append_getElem hlt)
      have hpm : ps[k] ∈ ps := List.getElem_mem _
      have hok := hPr.2 ps[k] hpm
      have hcl := HS.out ps[k] hpm
      have HPM := Lib.hid (HZ.out ps[k] hpm)
      generalize ps[k] = p at hld HT hok hcl HPM
      clear hpm hPr
      obtain ⟨ch, ev, rv⟩ := p
      obtain ⟨Ae, ce, he, -⟩ := id hok.1
      obtain ⟨Ac, cc, hc2, -⟩ := id hok.2
      change ev = .slice Ae ch.edits.length ce at he
      change rv = .slice Ac ch.recs.length cc at hc2
      subst he hc2
      obtain ⟨x0, x1, x2, x3, x4⟩ := hld
      change wr.cell? (ad.add (k * 5)) = some (.int .i64 ch.num) at x0
      change wr.cell? ⟨(ad.add (k * 5)).block, (ad.add (k * 5)).off + 1, none⟩ = some (.string ch.client) at x1
      change wr.cell? ⟨(ad.add (k * 5)).block, (ad.add (k * 5)).off + 2, none⟩ = some (.string ch.text) at x2
      change wr.cell? ⟨(ad.add (k * 5)).block, (ad.add (k * 5)).off + 3, none⟩ = some (.slice Ae ch.edits.length ce) at x3
      change wr.cell? ⟨(ad.add (k * 5)).block, (ad.add (k * 5)).off + 4, none⟩ = some (.slice Ac ch.recs.length cc) at x4
      unfold chgLen at hcl
      change ch.edits.length + ch.recs.length ≤ 10000000000000 at hcl
      have HOK : Hid (Edts wr (.slice Ae ch.edits.length ce) ch.edits ∧ Rcds wr (.slice Ac ch.recs.length cc) ch.recs) := Lib.hid hok
      clear hok
      have hX1 := blk_new wr [.int .i64 ch.num, .string ch.client, .string ch.text, .slice Ae ch.edits.length ce, .slice Ac ch.recs.length cc] 26
      have hA1 : Below wr.heap.size wr (wr.alloc (.cells #[.int .i64 ch.num, .string ch.client, .string ch.text, .slice Ae ch.edits.length ce, .slice Ac ch.recs.length cc] 26)) := (Below.refl _ _).alloc (Nat.le_refl _) _
      go_upto_region 5 with fail
      clear x0 x1 x2 x3 x4
      generalize wr.alloc (.cells #[.int .i64 ch.num, .string ch.client, .string ch.text, .slice Ae ch.edits.length ce, .slice Ac ch.recs.length cc] 26) = V1 at hX1 hA1 ⊢
      generalize wr = wq at hX1 hA1 HOK HI hab ⊢
      obtain ⟨-, -, -, y3, y4⟩ := box5 hX1
      go_wp2_with fail
      clear y3 y4
      have HX1 := Lib.hid hX1
      have HA1 := Lib.hid hA1
      clear hX1 hA1
      go_loopw [28] (fun s wy => ∃ j : Nat, s = .int .i64 j ∧ j ≤ ch.edits.length ∧ Hid ((∀ x ∈ ch.edits.take j, edtSm x) ∧ Below V1.heap.size V1 wy)) (fun s _ => ch.edits.length - (intOf s).toNat)
      case atStart => exact ⟨0, rfl, Nat.zero_le _, fun x hx => by simp at hx, Below.refl _ _⟩
      case round =>
        obtain ⟨j, rfl, hj, HJ⟩ := hrel
        by_cases hjl : j < ch.edits.length
        · have hEd := (HOK.out.1.below HA1.out).below HJ.out.2
          obtain ⟨ad2, rfl, hab2, hld2⟩ := Edts.at_ hEd hjl
          have HTJ := Lib.hid (show ch.edits.take (j + 1) = ch.edits.take j ++ [ch.edits[j]] from List.take_succ_eq_append_getElem hjl)
          have hzz := HPM.out.1 ch.edits[j] (List.getElem_mem _)
          generalize ch.edits[j] = x at hld2 HTJ hzz
          obtain ⟨x0, x1, x2, x3, x4, x5, x6, x7, x8, x9, x10, x11⟩ := hld2
          have hX2 := blk_new wr [.string x.path, .int .i64 x.act, .int .i64 x.ty.base, .bool x.ty.k, .bool x.ty.l, .bool x.ty.x, .int .u64 x.sum, .int .i64 x.size, .int .i64 x.base, .string x.frm, .int .i64 x.fnum, .int .i64 x.fence] 45
          have hb2 : Below V1.heap.size V1 (wr.alloc (.cells #[.string x.path, .int .i64 x.act, .int .i64 x.ty.base, .bool x.ty.k, .bool x.ty.l, .bool x.ty.x, .int .u64 x.sum, .int .i64 x.size, .int .i64 x.base, .string x.frm, .int .i64 x.fnum, .int .i64 x.fence] 45)) := HJ.out.2.alloc HJ.out.2.size _
          clear hEd
          go_upto_region 9 with fail
          clear x0 x1 x2 x3 x4 x5 x6 x7 x8 x9 x10 x11
          generalize wr.alloc (.cells #[.string x.path, .int .i64 x.act, .int .i64 x.ty.base, .bool x.ty.k, .bool x.ty.l, .bool x.ty.x, .int .u64 x.sum, .int .i64 x.size, .int .i64 x.base, .string x.frm, .int .i64 x.fnum, .int .i64 x.fence] 45) = V2 at hX2 hb2 ⊢
          obtain ⟨y0, -, -, -, -, -, -, -, -, y9, -, -⟩ := box12 hX2
          have HB2 := Lib.hid hb2
          clear hX2 hb2
          by_cases hq : x.path.size + x.frm.size ≤ 500
          · have q : decide ((500 : Int) < (x.path.size : Int) + (x.frm.size : Int)) = false := by simp; omega
            have HQ : Hid (edtSm x) := Lib.hid hq
            clear hq
            go_wp2_with fail
            go_roundw
            case rel => exact ⟨j + 1, by go_num, by omega, fun y hy => by
              rw [HTJ.out] at hy
              rcases List.mem_append.1 hy with hy | hy
              · exact HJ.out.1 y hy
              · rw [List.mem_singleton] at hy; subst hy; exact HQ.out, HB2.out⟩
            case measure => simp [intOf]; omega
          · have q : decide ((500 : Int) < (x.path.size : Int) + (x.frm.size : Int)) = true := by simp; omega
            clear hq
            go_wp2_with fail
            go_ret
            exact ⟨false, rfl, below_next HI.out.2.2 (below_next HA1.out HB2.out), fun h => by cases h⟩
        · have hje : j = ch.edits.length := by omega
          subst hje
          have HES : Hid (∀ x ∈ ch.edits, edtSm x) := Lib.hid (by have := HJ.out.1; rwa [List.take_length] at this)
          have y4 : wr.cell? ⟨wq.heap.size, 4, none⟩ = some (.slice Ac ch.recs.length cc) := (HX1.out.below HJ.out.2 HX1.out.lt).cell 4
          have HJB := Lib.hid HJ.out.2
          clear HJ
          go_wp2_with fail
          clear y4
          generalize wr = V3 at HJB ⊢
          go_loopw [44] (fun s wy => ∃ j : Nat, s = .int .i64 j ∧ j ≤ ch.recs.length ∧ Hid ((∀ x ∈ ch.recs.take j, rcdSm x) ∧ Below V3.heap.size V3 wy)) (fun s _ => ch.recs.length - (intOf s).toNat)
          case atStart => exact ⟨0, rfl, Nat.zero_le _, fun x hx => by simp at hx, Below.refl _ _⟩
          case round =>
            obtain ⟨j, rfl, hj, HJ⟩ := hrel
            by_cases hjl : j < ch.recs.length
            · have hEd := ((HOK.out.2.below HA1.out).below HJB.out).below HJ.out.2
              obtain ⟨ad2, rfl, hab2, hld2⟩ := Rcds.at_ hEd hjl
              have HTJ := Lib.hid (show ch.recs.take (j + 1) = ch.recs.take j ++ [ch.recs[j]] from List.take_succ_eq_append_getElem hjl)
              have hzz := HPM.out.2 ch.recs[j] (List.getElem_mem _)
              generalize ch.recs[j] = x at hld2 HTJ hzz
              obtain ⟨x0, x1, x2, x3, x4, x5⟩ := hld2
              have hX2 := blk_new wr [.string x.frm, .int .i64 x.first, .int .i64 x.last, .string x.to, .int .i64 x.num, .int .i64 x.how] 53
              have hb2 : Below V3.heap.size V3 (wr.alloc (.cells #[.string x.frm, .int .i64 x.first, .int .i64 x.last, .string x.to, .int .i64 x.num, .int .i64 x.how] 53)) := HJ.out.2.alloc HJ.out.2.size _
              clear hEd
              go_upto_region 15 with fail
              clear x0 x1 x2 x3 x4 x5
              generalize wr.alloc (.cells #[.string x.frm, .int .i64 x.first, .int .i64 x.last, .string x.to, .int .i64 x.num, .int .i64 x.how] 53) = V2 at hX2 hb2 ⊢
              obtain ⟨y0, -, -, y3, -, -⟩ := box6 hX2
              have HB2 := Lib.hid hb2
              clear hX2 hb2
              by_cases hq : x.frm.size + x.to.size ≤ 500
              · have q : decide ((500 : Int) < (x.frm.size : Int) + (x.to.size : Int)) = false := by simp; omega
                have HQ : Hid (rcdSm x) := Lib.hid hq
                clear hq
                go_wp2_with fail
                go_roundw
                case rel => exact ⟨j + 1, by go_num, by omega, fun y hy => by
                  rw [HTJ.out] at hy
                  rcases List.mem_append.1 hy with hy | hy
                  · exact HJ.out.1 y hy
                  · rw [List.mem_singleton] at hy; subst hy; exact HQ.out, HB2.out⟩
                case measure => simp [intOf]; omega
              · have q : decide ((500 : Int) < (x.frm.size : Int) + (x.to.size : Int)) = true := by simp; omega
                clear hq
                go_wp2_with fail
                go_ret
                exact ⟨false, rfl, below_next HI.out.2.2 (below_next HA1.out (below_next HJB.out HB2.out)), fun h => by cases h⟩
            · have hje : j = ch.recs.length := by omega
              subst hje
              have HRS : Hid (∀ x ∈ ch.recs, rcdSm x) := Lib.hid (by have := HJ.out.1; rwa [List.take_length] at this)
              go_wp2_with fail
              go_roundw
              case rel =>
                refine ⟨k + 1, wrap64 (tot + ((ch.edits.length : Int) + (ch.recs.length : Int))), rfl, by go_num, by omega, ?_, ?_, below_next HI.out.2.2 (below_next HA1.out (below_next HJB.out HJ.out.2))⟩
                · intro h40
                  obtain ⟨i1, i2, i3⟩ := HI.out.1 (by omega)
                  have hwr : wrap64 (tot + ((ch.edits.length : Int) + (ch.recs.length : Int))) = tot + ((ch.edits.length : Int) + (ch.recs.length : Int)) := by unfold wrap64; omega
                  rw [hwr, HT.out, List.map_append, List.map_cons, List.map_nil, lenSum_snoc]
                  refine ⟨?_, by omega, by omega⟩
                  rw [i1]; unfold chgLen; dsimp only; omega
                · intro p hp
                  rw [HT.out] at hp
                  rcases List.mem_append.1 hp with hp | hp
                  · exact HI.out.2.1 p hp
                  · rw [List.mem_singleton] at hp; subst hp; exact ⟨HES.out, HRS.out⟩
              case measure => simp [intOf]; omega
    · have hkk : k = ps.length := by omega
      subst hkk
      have HI2 : Hid ((ps.length ≤ 40 → tot = lenSum (ps.map (·.1)) ∧ 0 ≤ tot ∧ tot ≤ ps.length * 10000000000000) ∧ (∀ c ∈ ps.map (·.1), chgSm c)) := Lib.hid (by
        have h1 := HI.out.1
        have h2 := HI.out.2.1
        rw [List.take_length] at h1 h2
        exact ⟨h1, fun c hc => by obtain ⟨p, hp, rfl⟩ := List.mem_map.1 hc; exact h2 p hp⟩)
      by_cases h40 : ps.length ≤ 40
      · have d1 : decide (ps.length ≤ 40) = true := by simp; omega
        by_cases h200 : tot ≤ 200
        · have d1' : decide ((ps.length : Int) ≤ 40) = true := by simp; omega
          have d2' : decide (tot ≤ 200) = true := by simp; omega
          go_wp2_with fail
          go_ret
          exact ⟨true, rfl, HI.out.2.2, fun _ => ⟨HI2.out.2, by rw [List.length_map]; exact h40, by have := (HI2.out.1 h40).1; omega⟩⟩
        · have d1' : decide ((ps.length : Int) ≤ 40) = true := by simp; omega
          have d2' : decide (tot ≤ 200) = false := by simp; omega
          go_wp2_with fail
          go_ret
          exact ⟨false, rfl, HI.out.2.2, fun h => by cases h⟩
      · have d1' : decide ((ps.length : Int) ≤ 40) = false := by simp; omega
        go_wp2_with fail
        go_ret
        exact ⟨false, rfl, HI.out.2.2, fun h => by cases h⟩
end Go.Proofs.Ytmhmnchdhacdbaa
/- The statements' own play. -/
namespace Go.Proofs.Ytmhmnchdhacdbaa
open Go.RowKit
set_option linter.unusedVariables false
set_option linter.unusedSimpArgs false

/-- The depots that the changes make, one after the other (the order of equal records is left open). -/
inductive Plays : List Chg → Dep → Prop where
  | nil : Plays [] ⟨[], []⟩
  | skip {l : List Chg} {d : Dep} {c : Chg} : Plays l d → appE d c ≠ 0 → Plays (l ++ [c]) d
  | step {l : List Chg} {d : Dep} {c : Chg} {rs : List Rcd} : Plays l d → appE d c = 0 → rs.Perm (d.recs ++ c.recs) → rs.Pairwise (fun a b => 0 ≤ cmpR b a) → Plays (l ++ [c]) ⟨newRevs d c, rs⟩
theorem depW_nil : DepW ⟨[], []⟩ := ⟨by simp, by simp, fun r hr => by simp at hr, fun r hr => by simp at hr, fun r hr => by simp at hr⟩
theorem small_chgW {c : Chg} (h : chgSm c) (hl : chgLen c ≤ 200) (hr : ∀ r ∈ c.recs, r.last ≤ 9223372036854775807) : ChgW c := by
  unfold chgLen at hl
  refine ⟨by omega, by omega, fun x hx => ?_, fun r hx => ⟨⟨?_, ?_⟩, hr r hx⟩⟩
  · have := h.1 x hx; unfold edtSm at this; omega
  · have := h.2 r hx; unfold rcdSm at this; omega
  · have := h.2 r hx; unfold rcdSm at this; omega
/-- A depot in memory, of which everything that the walks ask is known. -/
def DepAt (w : World) (dv dr : Value) (d : Dep) : Prop := Revs w dv d.revs ∧ Rcds w dr d.recs ∧ DepW d
theorem DepAt.below {w w' : World} {dv dr : Value} {d : Dep} (h : DepAt w dv dr d) (hb : Below w.heap.size w w') : DepAt w' dv dr d := ⟨h.1.below hb, h.2.1.below hb, h.2.2⟩
theorem Row.setCell_far {w : World} {size n g i : Nat} {v u : Value} {xs : List Value} (h : Row w size v n xs) (hne : v.ownBlock ≠ some g) : Row (w.setCell ⟨g, i, none⟩ u) size v n xs := by
  obtain ⟨A, c, rfl, hc, hm, hl, h0, hx⟩ := h
  refine ⟨A, c, rfl, hc, hm, hl, h0, fun hn => ?_⟩
  obtain ⟨ad, rfl, hb, hcell⟩ := hx hn
  refine ⟨ad, rfl, by simpa [World.setCell] using hb, fun j u' hu => ?_⟩
  rw [← hcell j u' hu]
  refine World.cell?_of_block (Below.heap_setCell w _ _ _ ?_)
  rw [add_block]
  intro e
  exact hne (congrArg some e)
theorem DepAt.setCell {w : World} {dv dr u : Value} {d : Dep} {g i : Nat} (h : DepAt w dv dr d) (h1 : dv.ownBlock ≠ some g) (h2 : dr.ownBlock ≠ some g) : DepAt (w.setCell ⟨g, i, none⟩ u) dv dr d :=
  ⟨Row.setCell_far h.1 h1, Row.setCell_far h.2.1 h2, h.2.2⟩
/-- What play leaves. -/
def PlayPost (w : World) (l : List Chg) (e : Ending) (w' : World) : Prop := ∃ dv dr d, e = .returned (.agg #[dv, dr]) ∧ Below w.heap.size w w' ∧ DepAt w' dv dr d ∧ Plays l d ∧ Fresh w.heap.size dv ∧ Fresh w.heap.size dr

/-- The state of play's loop. -/
structure PlSt (w wr : World) (l : List Chg) (g2 g3 B : Nat) (dv dr : Value) (d : Dep) : Prop where
  bel : Below w.heap.size w wr
  box2 : Blk wr g2 31 [.slice none 0 0, .slice none 0 0]
  box3 : Blk wr g3 31 [dv, dr]
  dep : DepAt wr dv dr d
  far : Fresh B dv ∧ Fresh B dr
  pl : Plays l d

set_option maxRecDepth 100000 in
set_option maxHeartbeats 8000000 in
theorem play_any (ps : List ChV) (v : Value) (w : World) (hP : Chgs w v ps) (hs : smallL (ps.map (·.1))) (hr : ∀ p ∈ ps, ∀ r ∈ p.1.recs, r.last ≤ 9223372036854775807) :
    Calls Try.prog 10 #[v] w (PlayPost w (ps.map (·.1))) := by
  obtain ⟨A, c, rfl, hc, hm, -⟩ := id hP.1
  have HP := Lib.hid hP
  have hl40 : ps.length ≤ 40 := by have := hs.2.1; rwa [List.length_map] at this
  have HS := Lib.hid (fun (p : ChV) (hp : p ∈ ps) => small_chgW (hs.1 p.1 (List.mem_map_of_mem hp)) (Nat.le_trans (lenSum_mem (List.mem_map_of_mem hp)) hs.2.2) (hr p hp))
  unfold maxLen at hm
  clear hP hs hr
  go_enter Try.func10, Try.ntmps10
  go_wp2_with fail
  have hst : PlSt w ((w.alloc (.cells #[.slice none 0 0, .slice none 0 0] 31)).alloc (.cells #[.slice none 0 0, .slice none 0 0] 31)) [] w.heap.size (w.heap.size + 1) (w.heap.size + 1 + 1) (.slice none 0 0) (.slice none 0 0) ⟨[], []⟩ := by
    refine ⟨((Below.refl _ _).alloc (Nat.le_refl _) _).alloc (by simp) _, (blk_new w _ _).alloc _, blk_at (by simp), ⟨Revs.nil_ _, Rcds.nil_ _, depW_nil⟩, ⟨fun x e => (by cases e), fun x e => (by cases e)⟩, Plays.nil⟩
  generalize (w.alloc (.cells #[.slice none 0 0, .slice none 0 0] 31)).alloc (.cells #[.slice none 0 0, .slice none 0 0] 31) = W0 at hst ⊢
  go_loopw [10] (fun s wr => ∃ (k : Nat) (dv dr : Value) (d : Dep), s = .int .i64 k ∧ k ≤ ps.length ∧ Hid (PlSt w wr ((ps.take k).map (·.1)) w.heap.size (w.heap.size + 1) (w.heap.size + 1 + 1) dv dr d)) (fun s _ => ps.length - (intOf s).toNat)
  case atStart => exact ⟨0, _, _, _, rfl, Nat.zero_le _, hst⟩
  case round =>
    obtain ⟨k, dv, dr, d, rfl, hk, HI⟩ := hrel
    clear hst
    by_cases hlt : k < ps.length
    · have hPr := HP.out.below HI.out.bel
      obtain ⟨ad, rfl, hab, hld⟩ := Chgs.at_ hPr hlt
      have HT := Lib.hid (show ps.take (k + 1) = ps.take k ++ [ps[k]] from List.take_succ_eq_append_getElem hlt)
      have hpm : ps[k] ∈ ps := List.getElem_mem _
      have hok := hPr.2 ps[k] hpm
      have HPM := Lib.hid (HS.out ps[k] hpm)
      generalize ps[k] = p at hld HT hok HPM
      clear hpm hPr
      obtain ⟨ch, ev, rv⟩ := p
      obtain ⟨Ae, ce, he, -⟩ := id hok.1
      obtain ⟨Ac, cc, hc2, -⟩ := id hok.2
      change ev = .slice Ae ch.edits.length ce at he
      change rv = .slice Ac ch.recs.length cc at hc2
      subst he hc2
      obtain ⟨x0, x1, x2, x3, x4⟩ := hld
      change wr.cell? (ad.add (k * 5)) = some (.int .i64 ch.num) at x0
      change wr.cell? ⟨(ad.add (k * 5)).block, (ad.add (k * 5)).off + 1, none⟩ = some (.string ch.client) at x1
      change wr.cell? ⟨(ad.add (k * 5)).block, (ad.add (k * 5)).off + 2, none⟩ = some (.string ch.text) at x2
      change wr.cell? ⟨(ad.add (k * 5)).block, (ad.add (k * 5)).off + 3, none⟩ = some (.slice Ae ch.edits.length ce) at x3
      change wr.cell? ⟨(ad.add (k * 5)).block, (ad.add (k * 5)).off + 4, none⟩ = some (.slice Ac ch.recs.length cc) at x4
      have HOK : Hid (Edts wr (.slice Ae ch.edits.length ce) ch.edits ∧ Rcds wr (.slice Ac ch.recs.length cc) ch.recs) := Lib.hid hok
      clear hok
      have hX1 := blk_new wr [.int .i64 ch.num, .string ch.client, .string ch.text, .slice Ae ch.edits.length ce, .slice Ac ch.recs.length cc] 26
      have hA1 : Below wr.heap.size wr (wr.alloc (.cells #[.int .i64 ch.num, .string ch.client, .string ch.text, .slice Ae ch.edits.length ce, .slice Ac ch.recs.length cc] 26)) := (Below.refl _ _).alloc (Nat.le_refl _) _
      go_upto_region 5 with fail
      clear x0 x1 x2 x3 x4
      generalize wr.alloc (.cells #[.int .i64 ch.num, .string ch.client, .string ch.text, .slice Ae ch.edits.length ce, .slice Ac ch.recs.length cc] 26) = V1 at hX1 hA1 ⊢
      obtain ⟨y0, y1, y2, y3, y4⟩ := box5 hX1
      have hb3 := HI.out.box3.below hA1 HI.out.box3.lt
      obtain ⟨z0, z1, -, -⟩ := box2 hb3
      have HB3 := Lib.hid hb3
      have hD1 := HI.out.dep.below hA1
      have HAP := Lib.hid (append_any d ch dv dr (.slice Ae ch.edits.length ce) (.slice Ac ch.recs.length cc) V1 hD1.1 hD1.2.1 (HOK.out.1.below hA1) (HOK.out.2.below hA1) hD1.2.2 HPM.out)
      have HA1 := Lib.hid hA1
      clear hb3 hD1 hX1 hA1
      go_wp2_with fail
      refine HAP.out.mono ?_
      rintro e V2 ⟨hb2, ⟨hn0, rfl⟩ | ⟨h0, dv', dr', rs, rfl, hR', hQ', hpm', hpw', hf1, hf2⟩⟩
      · clear y0 y1 y2 y3 y4 z0 z1
        have HB2 := Lib.hid hb2
        have HN0 := Lib.hid hn0
        have q : (appE d ch == 0) = false := by simpa using hn0
        clear hb2 hn0
        go_wp2_with fail
        go_roundw
        case rel =>
          have hbb : Below wr.heap.size wr (V2.alloc (.cells #[.slice none 0 0, .slice none 0 0] 31)) := (below_next HA1.out HB2.out).alloc (below_next HA1.out HB2.out).size _
          refine ⟨k + 1, dv, dr, d, by go_num, by omega, below_next HI.out.bel hbb, HI.out.box2.below hbb HI.out.box2.lt, HI.out.box3.below hbb HI.out.box3.lt, HI.out.dep.below hbb, HI.out.far, ?_⟩
          rw [HT.out, List.map_append, List.map_cons, List.map_nil]
          exact Plays.skip HI.out.pl HN0.out
        case measure => simp [intOf]; omega
      · clear y0 y1 y2 y3 y4 z0 z1
        obtain ⟨A5, c5, rfl, -⟩ := id hR'
        obtain ⟨A6, c6, rfl, -⟩ := id hQ'
        have hbb := below_next HA1.out hb2
        have hlen := HI.out.box3.lt
        have hlen2 := HI.out.box2.lt
        have hsz1 := hbb.size
        have hle1 : wr.heap.size ≤ V1.heap.size := HA1.out.size
        have HN : Hid (DepAt V2 (.slice A5 (newRevs d ch).length c5) (.slice A6 rs.length c6) ⟨newRevs d ch, rs⟩ ∧ Plays ((ps.take k).map (·.1) ++ [ch]) ⟨newRevs d ch, rs⟩ ∧ Fresh V1.heap.size (.slice A5 (newRevs d ch).length c5) ∧ Fresh V1.heap.size (.slice A6 rs.length c6)) := Lib.hid ⟨⟨hR', hQ', appE_keeps HI.out.dep.2.2 HPM.out h0 rs hpm'⟩, Plays.step HI.out.pl h0 hpm' hpw', hf1, hf2⟩
        have h3a := (HI.out.box3.below hbb hlen).alloc (.cells #[.slice A5 (newRevs d ch).length c5, .slice A6 rs.length c6] 31)
        have h2a := (HI.out.box2.below hbb hlen2).alloc (.cells #[.slice A5 (newRevs d ch).length c5, .slice A6 rs.length c6] 31)
        have hba : Below w.heap.size w (V2.alloc (.cells #[.slice A5 (newRevs d ch).length c5, .slice A6 rs.length c6] 31)) := (below_next HI.out.bel hbb).alloc (below_next HI.out.bel hbb).size _
        have hda := HN.out.1.below ((Below.refl _ _).alloc (Nat.le_refl _) (.cells #[.slice A5 (newRevs d ch).length c5, .slice A6 rs.length c6] 31))
        have hx6 := blk_new V2 [.slice A5 (newRevs d ch).length c5, .slice A6 rs.length c6] 31
        have q : (appE d ch == 0) = true := by simpa using h0
        clear hR' hQ' hpm' hpw' hf1 hf2 hb2 hbb h0
        go_upto_region 6 with fail
        generalize V2.alloc (.cells #[.slice A5 (newRevs d ch).length c5, .slice A6 rs.length c6] 31) = V3 at h3a h2a hba hda hx6 ⊢
        obtain ⟨z0, z1, f0, f1⟩ := box2 h3a
        obtain ⟨w0, w1, -, -⟩ := box2 hx6
        have HBA := Lib.hid hba
        have HDA := Lib.hid hda
        have H2A := Lib.hid h2a
        have H3A := Lib.hid h3a
        clear hba hda h2a h3a hx6
        go_wp2_with fail
        go_roundw
        case rel =>
          have n1 : (Value.slice A5 (newRevs d ch).length c5).ownBlock ≠ some (w.heap.size + 1) := fun e => by have := HN.out.2.2.1 _ e; omega
          have n2 : (Value.slice A6 rs.length c6).ownBlock ≠ some (w.heap.size + 1) := fun e => by have := HN.out.2.2.2 _ e; omega
          refine ⟨k + 1, _, _, _, by go_num, by omega, (HBA.out.setCell (p := ⟨w.heap.size + 1, 0, none⟩) (by simp) _).setCell (p := ⟨w.heap.size + 1, 1, none⟩) (by simp) _, (H2A.out.far (p := ⟨w.heap.size + 1, 0, none⟩) (by simp) _).far (p := ⟨w.heap.size + 1, 1, none⟩) (by simp) _, (H3A.out.set_ 0 _).set_ 1 _, (HDA.out.setCell n1 n2).setCell n1 n2, ⟨fun x e => by have := HN.out.2.2.1 _ e; omega, fun x e => by have := HN.out.2.2.2 _ e; omega⟩, ?_⟩
          rw [HT.out, List.map_append, List.map_cons, List.map_nil]
          exact HN.out.2.1
        case measure => simp [intOf]; omega
    · have hkk : k = ps.length := by omega
      subst hkk
      have HPL : Hid (Plays (ps.map (·.1)) d) := Lib.hid (by have := HI.out.pl; rwa [List.take_length] at this)
      obtain ⟨A5, c5, rfl, -⟩ := id HI.out.dep.1
      obtain ⟨A6, c6, rfl, -⟩ := id HI.out.dep.2.1
      obtain ⟨z0, z1, -, -⟩ := box2 HI.out.box3
      obtain ⟨r0, r1, f0, f1⟩ := box2 HI.out.box2
      go_wp2_with fail
      have n1 : (Value.slice A5 d.revs.length c5).ownBlock ≠ some w.heap.size := fun e => by have := HI.out.far.1 _ e; omega
      have n2 : (Value.slice A6 d.recs.length c6).ownBlock ≠ some w.heap.size := fun e => by have := HI.out.far.2 _ e; omega
      have hR5 := (HI.out.box2.set_ 0 (.slice A5 d.revs.length c5)).set_ 1 (.slice A6 d.recs.length c6)
      have hB5 := (HI.out.bel.setCell (p := ⟨w.heap.size, 0, none⟩) (Nat.le_refl _) (.slice A5 d.revs.length c5)).setCell (p := ⟨w.heap.size, 1, none⟩) (Nat.le_refl _) (.slice A6 d.recs.length c6)
      have hD5 := (HI.out.dep.setCell (g := w.heap.size) (i := 0) (u := .slice A5 d.revs.length c5) n1 n2).setCell (g := w.heap.size) (i := 1) (u := .slice A6 d.recs.length c6) n1 n2
      clear z0 z1 r0 r1 f0 f1
      generalize (wr.setCell ⟨w.heap.size, 0, none⟩ (.slice A5 d.revs.length c5)).setCell ⟨w.heap.size, 1, none⟩ (.slice A6 d.recs.length c6) = W5 at hR5 hB5 hD5 ⊢
      obtain ⟨r0, r1, -, -⟩ := box2 hR5
      refine bodyPost_ret (v := .agg #[.slice A5 d.revs.length c5, .slice A6 d.recs.length c6]) (by simp [results, Try.results10, go_sem, r0, r1]) rfl ?_
      exact ⟨_, _, d, rfl, hB5, hD5, HPL.out, fun x e => by have := HI.out.far.1 _ e; omega, fun x e => by have := HI.out.far.2 _ e; omega⟩
end Go.Proofs.Ytmhmnchdhacdbaa
/- history.editOf; region 24 of history.Valid. -/
namespace Go.Proofs.Ytmhmnchdhacdbaa
open Go.RowKit
set_option linter.unusedVariables false
set_option linter.unusedSimpArgs false

/-- The edit that made a revision. -/
def edtOf (r : Rev) : Edt := ⟨r.path, r.act, r.ty, r.sum, r.size, r.num - 1, r.frm, r.fnum, 0⟩
theorem set12E {w : World} {g : Nat} {e : TypeId} {a0 a1 a2 a3 a4 a5 a6 a7 a8 a9 a10 a11 : Value} (h : Blk w g e [a0, a1, a2, a3, a4, a5, a6, a7, a8, a9, a10, a11]) (x : Edt) : Blk ((((((((((((w.setCell ⟨g, 0, none⟩ (.string x.path)).setCell ⟨g, 1, none⟩ (.int .i64 x.act)).setCell ⟨g, 2, none⟩ (.int .i64 x.ty.base)).setCell ⟨g, 3, none⟩ (.bool x.ty.k)).setCell ⟨g, 4, none⟩ (.bool x.ty.l)).setCell ⟨g, 5, none⟩ (.bool x.ty.x)).setCell ⟨g, 6, none⟩ (.int .u64 x.sum)).setCell ⟨g, 7, none⟩ (.int .i64 x.size)).setCell ⟨g, 8, none⟩ (.int .i64 x.base)).setCell ⟨g, 9, none⟩ (.string x.frm)).setCell ⟨g, 10, none⟩ (.int .i64 x.fnum)).setCell ⟨g, 11, none⟩ (.int .i64 x.fence)) g e [.string x.path, .int .i64 x.act, .int .i64 x.ty.base, .bool x.ty.k, .bool x.ty.l, .bool x.ty.x, .int .u64 x.sum, .int .i64 x.size, .int .i64 x.base, .string x.frm, .int .i64 x.fnum, .int .i64 x.fence] := ((((((((((((h.set_ 0 _).set_ 1 _).set_ 2 _).set_ 3 _).set_ 4 _).set_ 5 _).set_ 6 _).set_ 7 _).set_ 8 _).set_ 9 _).set_ 10 _).set_ 11 _)
theorem below12E {w0 w : World} {B g : Nat} (h : Below B w0 w) (hg : B ≤ g) (x : Edt) : Below B w0 ((((((((((((w.setCell ⟨g, 0, none⟩ (.string x.path)).setCell ⟨g, 1, none⟩ (.int .i64 x.act)).setCell ⟨g, 2, none⟩ (.int .i64 x.ty.base)).setCell ⟨g, 3, none⟩ (.bool x.ty.k)).setCell ⟨g, 4, none⟩ (.bool x.ty.l)).setCell ⟨g, 5, none⟩ (.bool x.ty.x)).setCell ⟨g, 6, none⟩ (.int .u64 x.sum)).setCell ⟨g, 7, none⟩ (.int .i64 x.size)).setCell ⟨g, 8, none⟩ (.int .i64 x.base)).setCell ⟨g, 9, none⟩ (.string x.frm)).setCell ⟨g, 10, none⟩ (.int .i64 x.fnum)).setCell ⟨g, 11, none⟩ (.int .i64 x.fence)) := ((((((((((((h.setCell (p := ⟨g, 0, none⟩) hg _).setCell (p := ⟨g, 1, none⟩) hg _).setCell (p := ⟨g, 2, none⟩) hg _).setCell (p := ⟨g, 3, none⟩) hg _).setCell (p := ⟨g, 4, none⟩) hg _).setCell (p := ⟨g, 5, none⟩) hg _).setCell (p := ⟨g, 6, none⟩) hg _).setCell (p := ⟨g, 7, none⟩) hg _).setCell (p := ⟨g, 8, none⟩) hg _).setCell (p := ⟨g, 9, none⟩) hg _).setCell (p := ⟨g, 10, none⟩) hg _).setCell (p := ⟨g, 11, none⟩) hg _)
set_option maxRecDepth 100000 in
set_option maxHeartbeats 4000000 in
theorem editOf_any (revs : List Rev) (k : Nat) (dv dr : Value) (w : World) (hR : Revs w dv revs) (hk : k < revs.length) (x : Rev) (hx : revs[k] = x) (hn : 0 < x.num ∧ x.num ≤ 1000000) :
    Calls Try.prog 29 #[.agg #[dv, dr], .int .i64 k] w fun e w' => e = .returned (.agg #[.string (edtOf x).path, .int .i64 (edtOf x).act, .int .i64 (edtOf x).ty.base, .bool (edtOf x).ty.k, .bool (edtOf x).ty.l, .bool (edtOf x).ty.x, .int .u64 (edtOf x).sum, .int .i64 (edtOf x).size, .int .i64 (edtOf x).base, .string (edtOf x).frm, .int .i64 (edtOf x).fnum, .int .i64 (edtOf x).fence]) ∧ Below w.heap.size w w' := by
  obtain ⟨Ar, cr, rfl, hcr, hmr, -⟩ := id hR
  unfold maxLen at hmr
  obtain ⟨W, hW⟩ : ∃ W, W = (w.alloc (.cells #[.slice Ar revs.length cr, dr] 31)).alloc (.cells #[.string ⟨#[]⟩, .int .i64 0, .int .i64 0, .bool false, .bool false, .bool false, .int .u64 0, .int .i64 0, .int .i64 0, .string ⟨#[]⟩, .int .i64 0, .int .i64 0] 45) := ⟨_, rfl⟩
  have hbW : Below w.heap.size w W := by rw [hW]; exact ((Below.refl _ _).alloc (Nat.le_refl _) _).alloc (by simp) _
  have hsz : W.heap.size = w.heap.size + 1 + 1 := by rw [hW]; simp
  have hD : Blk W w.heap.size 31 [.slice Ar revs.length cr, dr] := by rw [hW]; exact (blk_new w _ _).alloc _
  have hF : Blk W (w.heap.size + 1) 45 [.string ⟨#[]⟩, .int .i64 0, .int .i64 0, .bool false, .bool false, .bool false, .int .u64 0, .int .i64 0, .int .i64 0, .string ⟨#[]⟩, .int .i64 0, .int .i64 0] := by rw [hW]; exact blk_at (by simp)
  obtain ⟨ad, rfl, hab, hld⟩ := Revs.at_ (hR.below hbW) hk
  have hkz : (k : Int) < (revs.length : Int) := by omega
  rw [hx] at hld
  clear hx
  obtain ⟨x0, x1, x2, x3, x4, x5, x6, x7, x8, x9, x10, x11⟩ := hld
  have HW := Lib.hid hW
  clear hW hR
  obtain ⟨d0, -, -, -⟩ := box2 hD
  have hwr : IntKind.i64.wrap (x.num - 1) = x.num - 1 := IntWalk.i64_in _ (by omega)
  go_enter Try.func29, Try.ntmps29
  go_upto_region 1 with fail
  rw [← HW.out]
  have hX1 := blk_new W [.string x.path, .int .i64 x.num, .int .i64 x.chg, .int .i64 x.act, .int .i64 x.ty.base, .bool x.ty.k, .bool x.ty.l, .bool x.ty.x, .int .u64 x.sum, .int .i64 x.size, .string x.frm, .int .i64 x.fnum] 43
  have hA1 := hbW.alloc hbW.size (.cells #[.string x.path, .int .i64 x.num, .int .i64 x.chg, .int .i64 x.act, .int .i64 x.ty.base, .bool x.ty.k, .bool x.ty.l, .bool x.ty.x, .int .u64 x.sum, .int .i64 x.size, .string x.frm, .int .i64 x.fnum] 43)
  have hF1 := hF.alloc (.cells #[.string x.path, .int .i64 x.num, .int .i64 x.chg, .int .i64 x.act, .int .i64 x.ty.base, .bool x.ty.k, .bool x.ty.l, .bool x.ty.x, .int .u64 x.sum, .int .i64 x.size, .string x.frm, .int .i64 x.fnum] 43)
  go_upto_region 2 with fail
  clear x0 x1 x2 x3 x4 x5 x6 x7 x8 x9 x10 x11 d0
  generalize W.alloc (.cells #[.string x.path, .int .i64 x.num, .int .i64 x.chg, .int .i64 x.act, .int .i64 x.ty.base, .bool x.ty.k, .bool x.ty.l, .bool x.ty.x, .int .u64 x.sum, .int .i64 x.size, .string x.frm, .int .i64 x.fnum] 43) = W1 at hX1 hA1 hF1 ⊢
  rw [hsz] at hX1
  obtain ⟨c0, c1, c2, c3, c4, c5, c6, c7, c8, c9, c10, c11⟩ := box12 hX1
  obtain ⟨z0, z1, z2, z3, z4, z5, z6, z7, z8, z9, z10, z11⟩ := box12 hF1
  obtain ⟨y0, y1, y2, y3, y4, y5, y6, y7, y8, y9, y10, y11⟩ := frz12 hF1
  have HF1 := Lib.hid hF1
  have HA1 := Lib.hid hA1
  clear hF1 hA1 hX1 hD hF hbW
  go_wp2_with fail
  have hZ3 := set12E HF1.out (edtOf x)
  have hB3 := below12E HA1.out (show w.heap.size ≤ w.heap.size + 1 by omega) (edtOf x)
  clear c0 c1 c2 c3 c4 c5 c6 c7 c8 c9 c10 c11 z0 z1 z2 z3 z4 z5 z6 z7 z8 z9 z10 z11 y0 y1 y2 y3 y4 y5 y6 y7 y8 y9 y10 y11
  have e : ((((((((((((W1.setCell ⟨w.heap.size + 1, 0, none⟩ (.string (edtOf x).path)).setCell ⟨w.heap.size + 1, 1, none⟩ (.int .i64 (edtOf x).act)).setCell ⟨w.heap.size + 1, 2, none⟩ (.int .i64 (edtOf x).ty.base)).setCell ⟨w.heap.size + 1, 3, none⟩ (.bool (edtOf x).ty.k)).setCell ⟨w.heap.size + 1, 4, none⟩ (.bool (edtOf x).ty.l)).setCell ⟨w.heap.size + 1, 5, none⟩ (.bool (edtOf x).ty.x)).setCell ⟨w.heap.size + 1, 6, none⟩ (.int .u64 (edtOf x).sum)).setCell ⟨w.heap.size + 1, 7, none⟩ (.int .i64 (edtOf x).size)).setCell ⟨w.heap.size + 1, 8, none⟩ (.int .i64 (edtOf x).base)).setCell ⟨w.heap.size + 1, 9, none⟩ (.string (edtOf x).frm)).setCell ⟨w.heap.size + 1, 10, none⟩ (.int .i64 (edtOf x).fnum)).setCell ⟨w.heap.size + 1, 11, none⟩ (.int .i64 (edtOf x).fence)) = ((((((((((((W1.setCell ⟨w.heap.size + 1, 0, none⟩ (.string ((⟨x.path, x.act, x.ty, x.sum, x.size, x.num - 1, x.frm, x.fnum, 0⟩ : Edt)).path)).setCell ⟨w.heap.size + 1, 1, none⟩ (.int .i64 ((⟨x.path, x.act, x.ty, x.sum, x.size, x.num - 1, x.frm, x.fnum, 0⟩ : Edt)).act)).setCell ⟨w.heap.size + 1, 2, none⟩ (.int .i64 ((⟨x.path, x.act, x.ty, x.sum, x.size, x.num - 1, x.frm, x.fnum, 0⟩ : Edt)).ty.base)).setCell ⟨w.heap.size + 1, 3, none⟩ (.bool ((⟨x.path, x.act, x.ty, x.sum, x.size, x.num - 1, x.frm, x.fnum, 0⟩ : Edt)).ty.k)).setCell ⟨w.heap.size + 1, 4, none⟩ (.bool ((⟨x.path, x.act, x.ty, x.sum, x.size, x.num - 1, x.frm, x.fnum, 0⟩ : Edt)).ty.l)).setCell ⟨w.heap.size + 1, 5, none⟩ (.bool ((⟨x.path, x.act, x.ty, x.sum, x.size, x.num - 1, x.frm, x.fnum, 0⟩ : Edt)).ty.x)).setCell ⟨w.heap.size + 1, 6, none⟩ (.int .u64 ((⟨x.path, x.act, x.ty, x.sum, x.size, x.num - 1, x.frm, x.fnum, 0⟩ : Edt)).sum)).setCell ⟨w.heap.size + 1, 7, none⟩ (.int .i64 ((⟨x.path, x.act, x.ty, x.sum, x.size, x.num - 1, x.frm, x.fnum, 0⟩ : Edt)).size)).setCell ⟨w.heap.size + 1, 8, none⟩ (.int .i64 ((⟨x.path, x.act, x.ty, x.sum, x.size, x.num - 1, x.frm, x.fnum, 0⟩ : Edt)).base)).setCell ⟨w.heap.size + 1, 9, none⟩ (.string ((⟨x.path, x.act, x.ty, x.sum, x.size, x.num - 1, x.frm, x.fnum, 0⟩ : Edt)).frm)).setCell ⟨w.heap.size + 1, 10, none⟩ (.int .i64 ((⟨x.path, x.act, x.ty, x.sum, x.size, x.num - 1, x.frm, x.fnum, 0⟩ : Edt)).fnum)).setCell ⟨w.heap.size + 1, 11, none⟩ (.int .i64 ((⟨x.path, x.act, x.ty, x.sum, x.size, x.num - 1, x.frm, x.fnum, 0⟩ : Edt)).fence)) := rfl
  dsimp only at e
  rw [← e]
  generalize ((((((((((((W1.setCell ⟨w.heap.size + 1, 0, none⟩ (.string (edtOf x).path)).setCell ⟨w.heap.size + 1, 1, none⟩ (.int .i64 (edtOf x).act)).setCell ⟨w.heap.size + 1, 2, none⟩ (.int .i64 (edtOf x).ty.base)).setCell ⟨w.heap.size + 1, 3, none⟩ (.bool (edtOf x).ty.k)).setCell ⟨w.heap.size + 1, 4, none⟩ (.bool (edtOf x).ty.l)).setCell ⟨w.heap.size + 1, 5, none⟩ (.bool (edtOf x).ty.x)).setCell ⟨w.heap.size + 1, 6, none⟩ (.int .u64 (edtOf x).sum)).setCell ⟨w.heap.size + 1, 7, none⟩ (.int .i64 (edtOf x).size)).setCell ⟨w.heap.size + 1, 8, none⟩ (.int .i64 (edtOf x).base)).setCell ⟨w.heap.size + 1, 9, none⟩ (.string (edtOf x).frm)).setCell ⟨w.heap.size + 1, 10, none⟩ (.int .i64 (edtOf x).fnum)).setCell ⟨w.heap.size + 1, 11, none⟩ (.int .i64 (edtOf x).fence)) = W3 at hZ3 hB3 ⊢
  obtain ⟨e0, e1, e2, e3, e4, e5, e6, e7, e8, e9, e10, e11⟩ := box12 hZ3
  refine bodyPost_ret (v := .agg #[.string (edtOf x).path, .int .i64 (edtOf x).act, .int .i64 (edtOf x).ty.base, .bool (edtOf x).ty.k, .bool (edtOf x).ty.l, .bool (edtOf x).ty.x, .int .u64 (edtOf x).sum, .int .i64 (edtOf x).size, .int .i64 (edtOf x).base, .string (edtOf x).frm, .int .i64 (edtOf x).fnum, .int .i64 (edtOf x).fence]) (by simp [results, Try.results29, go_sem, e0, e1, e2, e3, e4, e5, e6, e7, e8, e9, e10, e11]) rfl ⟨rfl, hB3⟩
end Go.Proofs.Ytmhmnchdhacdbaa
/- slices.Equal at revisions and at records. -/
namespace Go.Proofs.Ytmhmnchdhacdbaa
open Go.RowKit
set_option linter.unusedVariables false
set_option linter.unusedSimpArgs false

set_option maxHeartbeats 2000000 in
theorem run_neq_rev (x y : Rev) (W : World) : (binOp .neq 43 (.agg #[.string x.path, .int .i64 x.num, .int .i64 x.chg, .int .i64 x.act, .int .i64 x.ty.base, .bool x.ty.k, .bool x.ty.l, .bool x.ty.x, .int .u64 x.sum, .int .i64 x.size, .string x.frm, .int .i64 x.fnum]) (.agg #[.string y.path, .int .i64 y.num, .int .i64 y.chg, .int .i64 y.act, .int .i64 y.ty.base, .bool y.ty.k, .bool y.ty.l, .bool y.ty.x, .int .u64 y.sum, .int .i64 y.size, .string y.frm, .int .i64 y.fnum])).run Try.prog W = .ok (.bool (!decide (x = y))) W := by
  obtain ⟨x1, x2, x3, x4, ⟨x5, x6, x7, x8⟩, x9, x10, x11, x12⟩ := x
  obtain ⟨y1, y2, y3, y4, ⟨y5, y6, y7, y8⟩, y9, y10, y11, y12⟩ := y
  rw [run_neq_struct, run_equalIn_agg W 9999 43 _ _ (by kernel_rfl) (by kernel_rfl)]
  simp [go_sem, Op.eqFields, toList_inj]
  by_cases h1 : x1 = y1
  case neg => simp [h1]
  rw [if_pos h1]
  by_cases h2 : x2 = y2
  case neg => simp [h2]
  rw [if_pos h2]
  by_cases h3 : x3 = y3
  case neg => simp [h3]
  rw [if_pos h3]
  by_cases h4 : x4 = y4
  case neg => simp [h4]
  rw [if_pos h4]
  by_cases h5 : x5 = y5
  case neg => simp [h5]
  rw [if_pos h5]
  by_cases h6 : x6 = y6
  case neg => simp [h6]
  rw [if_pos h6]
  by_cases h7 : x7 = y7
  case neg => simp [h7]
  rw [if_pos h7]
  by_cases h8 : x8 = y8
  case neg => simp [h8]
  rw [if_pos h8]
  by_cases h9 : x9 = y9
  case neg => simp [h9]
  rw [if_pos h9]
  by_cases h10 : x10 = y10
  case neg => simp [h10]
  rw [if_pos h10]
  by_cases h11 : x11 = y11
  case neg => simp [h11]
  rw [if_pos h11]
  by_cases h12 : x12 = y12
  case neg => simp [h12]
  rw [if_pos h12]
  simp [h1, h2, h3, h4, h5, h6, h7, h8, h9, h10, h11, h12]
theorem run_neq_rcd (x y : Rcd) (W : World) : (binOp .neq 53 (.agg #[.string x.frm, .int .i64 x.first, .int .i64 x.last, .string x.to, .int .i64 x.num, .int .i64 x.how]) (.agg #[.string y.frm, .int .i64 y.first, .int .i64 y.last, .string y.to, .int .i64 y.num, .int .i64 y.how])).run Try.prog W = .ok (.bool (!decide (x = y))) W := by
  obtain ⟨x1, x2, x3, x4, x5, x6⟩ := x
  obtain ⟨y1, y2, y3, y4, y5, y6⟩ := y
  rw [run_neq_struct, run_equalIn_agg W 9999 53 _ _ (by kernel_rfl) (by kernel_rfl)]
  simp [go_sem, Op.eqFields, toList_inj]
  repeat' split
  all_goals simp_all
theorem take_eq_all {α : Type} {l m : List α} (h : l.length = m.length) {k : Nat} (hk : l.length ≤ k) (he : l.take k = m.take k) : l = m := by
  rwa [List.take_of_length_le hk, List.take_of_length_le (by omega)] at he
theorem take_eq_step {α : Type} {l m : List α} {k : Nat} (h1 : k < l.length) (h2 : k < m.length) (he : l.take k = m.take k) (hx : l[k] = m[k]) : l.take (k + 1) = m.take (k + 1) := by
  rw [List.take_succ_eq_append_getElem h1, List.take_succ_eq_append_getElem h2, he, hx]

set_option maxRecDepth 100000 in
set_option maxHeartbeats 4000000 in
theorem equal_rev (l m : List Rev) (v1 v2 : Value) (w : World) (h1 : Revs w v1 l) (h2 : Revs w v2 m) :
    Calls Try.prog 30 #[v1, v2] w fun e w' => e = .returned (.bool (decide (l = m))) ∧ Below w.heap.size w w' := by
  obtain ⟨A1, c1, rfl, hc1, hm1, -⟩ := id h1
  obtain ⟨A2, c2, rfl, hc2, hm2, -⟩ := id h2
  unfold maxLen at hm1 hm2
  have H1 := Lib.hid h1
  have H2 := Lib.hid h2
  clear h1 h2
  by_cases hl : l.length = m.length
  · have q : ((l.length : Int) != (m.length : Int)) = false := by rw [bne_eq_false_iff_eq]; omega
    have HL := Lib.hid hl
    go_enter Try.func30, Try.ntmps30
    clear hl
    go_wp2_with fail
    go_loopw [13] (fun s wr => ∃ k : Nat, s = .int .i64 k ∧ k ≤ l.length ∧ Hid (l.take k = m.take k ∧ Below w.heap.size w wr)) (fun s _ => l.length - (intOf s).toNat)
    case atStart => exact ⟨0, rfl, Nat.zero_le _, by simp, Below.refl _ _⟩
    case round =>
      obtain ⟨k, rfl, hk, HI⟩ := hrel
      by_cases hlt : k < l.length
      · have hlt2 : k < m.length := by have := HL.out; omega
        have hz1 : (k : Int) < (l.length : Int) := by omega
        have hz2 : (k : Int) < (m.length : Int) := by omega
        obtain ⟨a1, rfl, hb1, hx⟩ := Revs.at_ (H1.out.below HI.out.2) hlt
        obtain ⟨a2, rfl, hb2, hy⟩ := Revs.at_ (H2.out.below HI.out.2) hlt2
        have HST := Lib.hid (fun h => take_eq_step hlt hlt2 HI.out.1 h)
        have HNE : Hid (l[k] ≠ m[k] → l ≠ m) := Lib.hid fun h e => h (by subst e; rfl)
        generalize l[k] = x at hx HST HNE
        generalize m[k] = y at hy HST HNE
        obtain ⟨x0, x1, x2, x3, x4, x5, x6, x7, x8, x9, x10, x11⟩ := hx
        obtain ⟨y0, y1, y2, y3, y4, y5, y6, y7, y8, y9, y10, y11⟩ := hy
        have hne := run_neq_rev x y
        by_cases e : x = y
        · have hd : (!decide (x = y)) = false := by simp [e]
          rw [hd] at hne
          have HE := Lib.hid e
          clear hd e
          go_wp2_with fail
          go_quiet (fail)
          clear x0 x1 x2 x3 x4 x5 x6 x7 x8 x9 x10 x11 y0 y1 y2 y3 y4 y5 y6 y7 y8 y9 y10 y11 hne
          go_wp2_with fail
          go_roundw
          case rel => exact ⟨k + 1, by go_num, by omega, HST.out HE.out, below_dN HI.out.2 _⟩
          case measure => simp [intOf]; omega
        · have hd : (!decide (x = y)) = true := by simp [e]
          rw [hd] at hne
          have HE : Hid (decide (l = m) = false) := Lib.hid (by simp; exact HNE.out e)
          clear hd e
          go_wp2_with fail
          go_quiet (fail)
          clear x0 x1 x2 x3 x4 x5 x6 x7 x8 x9 x10 x11 y0 y1 y2 y3 y4 y5 y6 y7 y8 y9 y10 y11 hne
          go_wp2_with fail
          go_ret
          exact ⟨ret_bool HE.out.symm, below_dN HI.out.2 _⟩
      · have HE : Hid (decide (l = m) = true) := Lib.hid (by simp; exact take_eq_all HL.out (by omega) HI.out.1)
        go_wp2_with fail
        go_ret
        exact ⟨ret_bool HE.out.symm, HI.out.2⟩
  · have q : ((l.length : Int) != (m.length : Int)) = true := by rw [bne_iff_ne]; omega
    have HE : Hid (decide (l = m) = false) := Lib.hid (by simp; intro e; exact hl (by rw [e]))
    clear hl
    go_enter Try.func30, Try.ntmps30
    go_wp2_with fail
    go_ret
    exact ⟨ret_bool HE.out.symm, Below.refl _ _⟩

set_option maxRecDepth 100000 in
set_option maxHeartbeats 4000000 in
theorem equal_rcd (l m : List Rcd) (v1 v2 : Value) (w : World) (h1 : Rcds w v1 l) (h2 : Rcds w v2 m) :
    Calls Try.prog 31 #[v1, v2] w fun e w' => e = .returned (.bool (decide (l = m))) ∧ Below w.heap.size w w' := by
  obtain ⟨A1, c1, rfl, hc1, hm1, -⟩ := id h1
  obtain ⟨A2, c2, rfl, hc2, hm2, -⟩ := id h2
  unfold maxLen at hm1 hm2
  have H1 := Lib.hid h1
  have H2 := Lib.hid h2
  clear h1 h2
  by_cases hl : l.length = m.length
  · have q : ((l.length : Int) != (m.length : Int)) = false := by rw [bne_eq_false_iff_eq]; omega
    have HL := Lib.hid hl
    go_enter Try.func31, Try.ntmps31
    clear hl
    go_wp2_with fail
    go_loopw [13] (fun s wr => ∃ k : Nat, s = .int .i64 k ∧ k ≤ l.length ∧ Hid (l.take k = m.take k ∧ Below w.heap.size w wr)) (fun s _ => l.length - (intOf s).toNat)
    case atStart => exact ⟨0, rfl, Nat.zero_le _, by simp, Below.refl _ _⟩
    case round =>
      obtain ⟨k, rfl, hk, HI⟩ := hrel
      by_cases hlt : k < l.length
      · have hlt2 : k < m.length := by have := HL.out; omega
        have hz1 : (k : Int) < (l.length : Int) := by omega
        have hz2 : (k : Int) < (m.length : Int) := by omega
        obtain ⟨a1, rfl, hb1, hx⟩ := Rcds.at_ (H1.out.below HI.out.2) hlt
        obtain ⟨a2, rfl, hb2, hy⟩ := Rcds.at_ (H2.out.below HI.out.2) hlt2
        have HST := Lib.hid (fun h => take_eq_step hlt hlt2 HI.out.1 h)
        have HNE : Hid (l[k] ≠ m[k] → l ≠ m) := Lib.hid fun h e => h (by subst e; rfl)
        generalize l[k] = x at hx HST HNE
        generalize m[k] = y at hy HST HNE
        obtain ⟨x0, x1, x2, x3, x4, x5⟩ := hx
        obtain ⟨y0, y1, y2, y3, y4, y5⟩ := hy
        have hne := run_neq_rcd x y
        by_cases e : x = y
        · have hd : (!decide (x = y)) = false := by simp [e]
          rw [hd] at hne
          have HE := Lib.hid e
          clear hd e
          go_wp2_with fail
          go_quiet (fail)
          clear x0 x1 x2 x3 x4 x5 y0 y1 y2 y3 y4 y5 hne
          go_wp2_with fail
          go_roundw
          case rel => exact ⟨k + 1, by go_num, by omega, HST.out HE.out, below_dN HI.out.2 _⟩
          case measure => simp [intOf]; omega
        · have hd : (!decide (x = y)) = true := by simp [e]
          rw [hd] at hne
          have HE : Hid (decide (l = m) = false) := Lib.hid (by simp; exact HNE.out e)
          clear hd e
          go_wp2_with fail
          go_quiet (fail)
          clear x0 x1 x2 x3 x4 x5 y0 y1 y2 y3 y4 y5 hne
          go_wp2_with fail
          go_ret
          exact ⟨ret_bool HE.out.symm, below_dN HI.out.2 _⟩
      · have HE : Hid (decide (l = m) = true) := Lib.hid (by simp; exact take_eq_all HL.out (by omega) HI.out.1)
        go_wp2_with fail
        go_ret
        exact ⟨ret_bool HE.out.symm, HI.out.2⟩
  · have q : ((l.length : Int) != (m.length : Int)) = true := by rw [bne_iff_ne]; omega
    have HE : Hid (decide (l = m) = false) := Lib.hid (by simp; intro e; exact hl (by rw [e]))
    clear hl
    go_enter Try.func31, Try.ntmps31
    go_wp2_with fail
    go_ret
    exact ⟨ret_bool HE.out.symm, Below.refl _ _⟩
end Go.Proofs.Ytmhmnchdhacdbaa
