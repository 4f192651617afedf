/- localBytes: a text file with keywords, at the line ends of LF. -/
import Derived.Test.YteolonjmgojoeaaGreatDoorMzWsK
import Derived.Test.YteolonjmgojoeaaGreatDoorMzWsM
import Derived.Test.YteolonjmgojoeaaGreatDoorMzWsI
import Derived.Test.YteolonjmgojoeaaGreatDoorMzKRepl
namespace Go.Proofs.YteolonjmgojoeaaGreatDoor
open Go.RowKit
set_option linter.unusedVariables false
set_option linter.unusedSimpArgs false

theorem IsFile.all {w : World} {g : Nat} {f : WF} {bv : Value} (h : IsFile w g f bv) :
    w.cell? ⟨g, 1, none⟩ = some (.string f.rev.path) ∧ w.cell? ⟨g, 2, none⟩ = some (.int .i64 f.rev.num) ∧ w.cell? ⟨g, 3, none⟩ = some (.int .i64 f.rev.chg) ∧ w.cell? ⟨g, 4, none⟩ = some (.int .i64 f.rev.act) ∧ w.cell? ⟨g, 5, none⟩ = some (.int .i64 f.rev.ty.base) ∧ w.cell? ⟨g, 6, none⟩ = some (.bool f.rev.ty.k) ∧ w.cell? ⟨g, 7, none⟩ = some (.bool f.rev.ty.l) ∧ w.cell? ⟨g, 8, none⟩ = some (.bool f.rev.ty.x) ∧ w.cell? ⟨g, 9, none⟩ = some (.int .u64 f.rev.sum) ∧ w.cell? ⟨g, 10, none⟩ = some (.int .i64 f.rev.size) ∧ w.cell? ⟨g, 11, none⟩ = some (.string f.rev.frm) ∧ w.cell? ⟨g, 12, none⟩ = some (.int .i64 f.rev.fnum) ∧ w.cell? ⟨g, 14, none⟩ = some bv :=
  ⟨Blk.cell h 1, Blk.cell h 2, Blk.cell h 3, Blk.cell h 4, Blk.cell h 5, Blk.cell h 6, Blk.cell h 7, Blk.cell h 8, Blk.cell h 9, Blk.cell h 10, Blk.cell h 11, Blk.cell h 12, Blk.cell h 14⟩
/-- The bytes with the keywords of a revision expanded. -/
def expL (path : ByteArray) (num chg : Nat) (l : List UInt8) : List UInt8 := kw.replL l (kw.txtL (wordsOf path num chg) fun nm val => kw.expText (nm, val)) (kw.occs (kw.namesOf (wordsOf path num chg)) l 0)
set_option maxRecDepth 100000 in
set_option maxHeartbeats 4000000 in
theorem localBytes_kw (t bl bp bs ba g : Nat) (f : WF) (bv : Value) (l : List UInt8) (num chg : Nat) (w : World) (hT : IsTree w t 1 bl bp bs ba) (hF : IsFile w g f bv) (hB : Bytes w bv l) (hk : f.rev.ty.k = true)
    (hn : f.rev.num = (num : Int)) (hc : f.rev.chg = (chg : Int)) (h0 : ¬ num = 0) (h1 : num < 100) (h2 : chg < 100) (hp : f.rev.path.size ≤ 1000) (hok : tyOk f.rev.ty.base f.rev.ty.k f.rev.ty.x = true) (h3 : ¬ f.rev.ty.base = 3)
    (hl : l.length ≤ 1000000) (htab : kw.tabB (wordsOf f.rev.path num chg) = true) (hl2 : (expL f.rev.path num chg l).length ≤ 1000000) (hws : ∀ s ∈ wordsOf f.rev.path num chg, s.1.size ≤ 100000 ∧ s.2.size ≤ 100000) :
    Calls Tryz.prog 28 #[.pointer (some ⟨t, 0, none⟩), .pointer (some ⟨g, 0, none⟩)] w fun e w' => ∃ v, e = .returned (.tuple #[v, .int .i64 0]) ∧ Bytes w' v (expL f.rev.path num chg l) ∧ Below w.heap.size w w' := by
  have HAD := Lib.hid (added_any f g bv w hF)
  have hne : (f.rev.num == 0) = false := by rw [hn]; simp; omega
  rw [hne] at HAD
  have HWO := Lib.hid (words_any f.rev num chg w hn hc h1 h2 (by omega))
  have HEX := Lib.hid (fun X v (hX : Below w.heap.size w X) (hv : Pairs X v (wordsOf f.rev.path num chg)) => kw.expand_any l (wordsOf f.rev.path num chg) bv v X (hB.below hX) hv (by omega) (by simp [wordsOf]) hws)
  have HLO := Lib.hid (fun X v (hv : Bytes X v (expL f.rev.path num chg l)) => localLF f.rev.ty.base f.rev.ty.k f.rev.ty.l f.rev.ty.x (expL f.rev.path num chg l) v X hv hok h3 hl2)
  have HCL := Lib.hid (fun X v (hv : Bytes X v (expL f.rev.path num chg l)) => sclone_any (expL f.rev.path num chg l) v X hv hl2)
  have HTR := Lib.hid (fun X (hX : Below w.heap.size w X) => hT.under hX)
  have HFI := Lib.hid (fun X (hX : Below w.heap.size w X) => hF.under hX)
  have HTB := Lib.hid htab
  obtain ⟨c1, c2, c3, c4, c5, c6, c7, c8, c9, c10, c11, c12, c14⟩ := hF.all
  rw [hk] at c6 HWO HLO
  obtain ⟨A, c, rfl, -⟩ := id hB
  clear hT hF hB hn hc h0 h1 h2 hp hok h3 hl htab hl2 hws hne
  generalize hfr : f.rev = r at *
  go_enter Tryz.func28, Tryz.ntmps28
  go_wp2_with fail
  refine HAD.out.mono ?_
  rintro e w1 ⟨rfl, rfl⟩
  go_wp2_with fail
  refine HWO.out.mono ?_
  rintro e w1 ⟨v, rfl, hv, hb⟩
  have HX1 := Lib.hid (HEX.out w1 v hb hv)
  have HB1 := Lib.hid hb
  obtain ⟨A2, cc2, rfl, -⟩ := id hv
  clear hv hb
  go_wp2_with fail
  refine HX1.out.mono ?_
  rintro e w2 ⟨h1, -, h3⟩
  obtain ⟨v, rfl, hv⟩ := h1 HTB.out
  have HV2 := Lib.hid (show Bytes w2 v (expL r.path num chg l) from hv)
  have HB2 := Lib.hid (below_next HB1.out h3)
  obtain ⟨A3, cc3, rfl, -⟩ := id hv
  clear hv h1 h3
  go_upto_region 7 with fail
  clear c1 c2 c3 c4 c5 c6 c7 c8 c9 c10 c11 c12 c14 HX1
  obtain ⟨c1, c2, c3, c4, c5, c6, c7, c8, c9, c10, c11, c12, c14⟩ := IsFile.all (HFI.out w2 HB2.out)
  rw [hfr, hk] at c6
  rw [hfr] at c5 c7 c8
  obtain ⟨s0, s1, s2, s3, s4⟩ := IsTree.facts (HTR.out w2 HB2.out)
  refine wp_region_noPanic ?_
  first
    | go_region_law (go_simp; go_at_call 54; refine (HLO.out _ _ (HV2.out.below (by repeat (first | exact Below.refl _ _ | with_reducible refine Below.drew ?_)))).mono ?_; rintro e w6 ⟨v6, rfl, hv6, hb6⟩; have HV6 := Lib.hid hv6; have HB6 := Lib.hid (below_next HB2.out ((show Below w2.heap.size w2 _ by repeat (first | exact Below.refl _ _ | with_reducible refine Below.drew ?_)).trans hb6)); clear hv6 hb6)
    | fail
  all_goals
    refine NoPanic.normal ?_
    obtain ⟨A6, c6, rfl, -⟩ := id HV6.out
    have HC6 := Lib.hid (HCL.out w6 _ HV6.out)
    go_wp2_with fail
    refine HC6.out.mono ?_
    rintro e w7 ⟨v7, rfl, hv7, hb7⟩
    go_wp2_with fail
    go_ret2
    exact ⟨v7, rfl, hv7, below_next HB6.out hb7⟩
end Go.Proofs.YteolonjmgojoeaaGreatDoor
