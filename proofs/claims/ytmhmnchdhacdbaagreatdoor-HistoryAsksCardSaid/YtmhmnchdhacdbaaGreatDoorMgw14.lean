/- Region 3 of HistoryOnce: the change appended to what the changes make. -/
import Derived.Test.YtmhmnchdhacdbaaGreatDoorMgw11
import Derived.Test.YtmhmnchdhacdbaaGreatDoorMgv2
import Derived.Test.YtmhmnchdhacdbaaGreatDoorMgw10
import Derived.Test.YtmhmnchdhacdbaaGreatDoorGet
import Derived.Test.YtmhmnchdhacdbaaGreatDoorMgw13
import Derived.Test.YtmhmnchdhacdbaaGreatDoorCards
import Derived.Test.YtmhmnchdhacdbaaGreatDoorTie
import Derived.ProofKit
import Derived.OpenShut
import Derived.ShutString
import Derived.ChangeOld
import Derived.Deep.Slices
import Derived.Deep.Fields
import Derived.SizedLaws
import Derived.WalkKit
import Derived.Deep.DeepHandedRow
import Derived.Lib.LaidTab
import Derived.Lib.SmallJoins
namespace Go.Proofs.YtmhmnchdhacdbaaGreatDoor
open Go.RowKit
set_option linter.unusedVariables false
set_option linter.unusedSimpArgs false

/-- What region 3 of HistoryOnce leaves. -/
def R3Post (V w' : World) (g7 : Nat) (err : Int) (c : Chg) : Prop :=
  Below V.heap.size V w' ∧ V.heap.size ≤ g7 ∧ (err ≠ 0 ∨ err = 0 ∧ ∃ d rs dv dr, appE d c = 0 ∧ Blk w' g7 28 [dv, dr] ∧ DepAt w' dv dr ⟨newRevs d c, rs⟩ ∧ Fresh V.heap.size dv ∧ Fresh V.heap.size dr)
/-- What Append leaves, both ways in one form. -/
def ApU (w : World) (d : Dep) (c : Chg) (e : Ending) (w' : World) : Prop :=
  ∃ A5 n5 c5 A6 n6 c6 err, e = .returned (.tuple #[.agg #[.slice A5 n5 c5, .slice A6 n6 c6], .int .i64 err]) ∧ Below w.heap.size w w' ∧ err = appE d c ∧ (err ≠ 0 ∧ A5 = none ∧ n5 = 0 ∧ c5 = 0 ∧ A6 = none ∧ n6 = 0 ∧ c6 = 0 ∨ err = 0 ∧ appE d c = 0 ∧ ∃ rs, rs.Perm (d.recs ++ c.recs) ∧ rs.Pairwise (fun a b => 0 ≤ cmpR b a) ∧ DepAt w' (.slice A5 n5 c5) (.slice A6 n6 c6) ⟨newRevs d c, rs⟩) ∧ Fresh w.heap.size (.slice A5 n5 c5) ∧ Fresh w.heap.size (.slice A6 n6 c6)
theorem append_u (d : Dep) (c : Chg) (dv dr ev rv : Value) (w : World) (hd : DepAt w dv dr d) (hE : Edts w ev c.edits) (hC : Rcds w rv c.recs) (hW : ChgW c) :
    Calls Tryz.prog 23 #[.agg #[dv, dr], .agg #[.int .i64 c.num, .string c.client, .string c.text, ev, rv]] w (ApU w d c) :=
  (append_any d c dv dr ev rv w hd.1 hd.2.1 hE hC hd.2.2 hW).mono fun e w' h => by
    obtain ⟨hb, ⟨h0, rfl⟩ | ⟨h0, dv', dr', rs, rfl, h1, h2, h3, h4, h5, h6⟩⟩ := h
    · exact ⟨none, 0, 0, none, 0, 0, appE d c, rfl, hb, rfl, .inl ⟨h0, rfl, rfl, rfl, rfl, rfl, rfl⟩, fun x e => (by cases e), fun x e => (by cases e)⟩
    · obtain ⟨A5, c5, e5, -⟩ := id h1
      obtain ⟨A6, c6, e6, -⟩ := id h2
      subst e5 e6
      exact ⟨_, _, _, _, _, _, 0, rfl, hb, h0.symm, .inr ⟨rfl, h0, rs, h3, h4, h1, h2, appE_keeps hd.2.2 hW h0 rs h3⟩, h5, h6⟩
theorem r3_any {V w6 : World} {c : Chg} {d : Dep} {A5 A6 : Option Addr} {n5 n6 c5 c6 : Nat} {err : Int} (h : Below V.heap.size V w6) (f1 : Fresh V.heap.size (.slice A5 n5 c5)) (f2 : Fresh V.heap.size (.slice A6 n6 c6)) (hd : err ≠ 0 ∧ A5 = none ∧ n5 = 0 ∧ c5 = 0 ∧ A6 = none ∧ n6 = 0 ∧ c6 = 0 ∨ err = 0 ∧ appE d c = 0 ∧ ∃ rs, rs.Perm (d.recs ++ c.recs) ∧ rs.Pairwise (fun a b => 0 ≤ cmpR b a) ∧ DepAt w6 (.slice A5 n5 c5) (.slice A6 n6 c6) ⟨newRevs d c, rs⟩) :
    R3Post V (w6.alloc (.cells #[.slice A5 n5 c5, .slice A6 n6 c6] 28)) w6.heap.size err c := by
  refine ⟨below_alloc' h _, h.size, ?_⟩
  rcases hd with h1 | ⟨h1, h2, rs, -, -, h3⟩
  · exact .inl h1.1
  · exact .inr ⟨h1, d, rs, _, _, h2, blk_new w6 _ _, h3.below ((Below.refl _ _).alloc (Nat.le_refl _) _), f1, f2⟩

theorem r3_set {V X w6 : World} {c : Chg} {d : Dep} {A5 A6 : Option Addr} {n5 n6 c5 c6 g7 : Nat} {err : Int} {a b : Value} (h : Below V.heap.size V w6) (hb : Blk w6 g7 28 [a, b]) (hg : V.heap.size ≤ g7) (hX : g7 < X.heap.size) (f1 : Fresh X.heap.size (.slice A5 n5 c5)) (f2 : Fresh X.heap.size (.slice A6 n6 c6))
    (hd : err ≠ 0 ∧ A5 = none ∧ n5 = 0 ∧ c5 = 0 ∧ A6 = none ∧ n6 = 0 ∧ c6 = 0 ∨ err = 0 ∧ appE d c = 0 ∧ ∃ rs, rs.Perm (d.recs ++ c.recs) ∧ rs.Pairwise (fun a b => 0 ≤ cmpR b a) ∧ DepAt w6 (.slice A5 n5 c5) (.slice A6 n6 c6) ⟨newRevs d c, rs⟩) :
    R3Post V ((w6.setCell ⟨g7, 0, none⟩ (.slice A5 n5 c5)).setCell ⟨g7, 1, none⟩ (.slice A6 n6 c6)) g7 err c := by
  have n1 : (Value.slice A5 n5 c5).ownBlock ≠ some g7 := fun e => by have := f1 _ e; omega
  have n2 : (Value.slice A6 n6 c6).ownBlock ≠ some g7 := fun e => by have := f2 _ e; omega
  refine ⟨(h.setCell (p := ⟨g7, 0, none⟩) hg _).setCell (p := ⟨g7, 1, none⟩) hg _, hg, ?_⟩
  rcases hd with h1 | ⟨h1, h2, rs, -, -, h3⟩
  · exact .inl h1.1
  · exact .inr ⟨h1, d, rs, _, _, h2, (hb.set_ 0 _).set_ 1 _, (h3.setCell n1 n2).setCell n1 n2, fun x e => Nat.le_trans hg (Nat.le_trans (Nat.le_of_lt hX) (f1 x e)), fun x e => Nat.le_trans hg (Nat.le_trans (Nat.le_of_lt hX) (f2 x e))⟩

end Go.Proofs.YtmhmnchdhacdbaaGreatDoor
/- HistoryOnce: the walk. -/
namespace Go.Proofs.YtmhmnchdhacdbaaGreatDoor
open Go.RowKit
set_option linter.unusedVariables false
set_option linter.unusedSimpArgs false

theorem smallL_init {l : List Chg} {c : Chg} (h : smallL (l ++ [c])) : smallL l ∧ chgSm c ∧ chgLen c ≤ 200 := by
  obtain ⟨h1, h2, h3⟩ := h
  rw [lenSum_snoc] at h3
  rw [List.length_append] at h2
  exact ⟨⟨fun x hx => h1 x (List.mem_append_left _ hx), by simp at h2; omega, by omega⟩, h1 c (by simp), by omega⟩
end Go.Proofs.YtmhmnchdhacdbaaGreatDoor
/- HistoryAsks: the walk. -/
namespace Go.Proofs.YtmhmnchdhacdbaaGreatDoor
open Go.RowKit
set_option linter.unusedVariables false
set_option linter.unusedSimpArgs false

theorem eql_rev_run (x y : Rev) (W : World) : (binOp .eql 36 (.agg #[.string x.path, .int .i64 x.num, .int .i64 x.chg, .int .i64 x.act, .int .i64 x.ty.base, .bool x.ty.k, .bool x.ty.l, .bool x.ty.x, .int .u64 x.sum, .int .i64 x.size, .string x.frm, .int .i64 x.fnum]) (.agg #[.string y.path, .int .i64 y.num, .int .i64 y.chg, .int .i64 y.act, .int .i64 y.ty.base, .bool y.ty.k, .bool y.ty.l, .bool y.ty.x, .int .u64 y.sum, .int .i64 y.size, .string y.frm, .int .i64 y.fnum])).run Tryz.prog W = .ok (.bool (decide (x = y))) W := by
  obtain ⟨x1, x2, x3, x4, ⟨x5, x6, x7, x8⟩, x9, x10, x11, x12⟩ := x
  obtain ⟨y1, y2, y3, y4, ⟨y5, y6, y7, y8⟩, y9, y10, y11, y12⟩ := y
  rw [run_eql_struct, run_equalIn_agg W 9999 36 _ _ (by kernel_rfl) (by kernel_rfl)]
  simp [go_sem, Op.eqFields, toList_inj]
  by_cases h1 : x1 = y1
  case neg => simp [h1]
  rw [if_pos h1]
  by_cases h2 : x2 = y2
  case neg => simp [h2]
  rw [if_pos h2]
  by_cases h3 : x3 = y3
  case neg => simp [h3]
  rw [if_pos h3]
  by_cases h4 : x4 = y4
  case neg => simp [h4]
  rw [if_pos h4]
  by_cases h5 : x5 = y5
  case neg => simp [h5]
  rw [if_pos h5]
  by_cases h6 : x6 = y6
  case neg => simp [h6]
  rw [if_pos h6]
  by_cases h7 : x7 = y7
  case neg => simp [h7]
  rw [if_pos h7]
  by_cases h8 : x8 = y8
  case neg => simp [h8]
  rw [if_pos h8]
  by_cases h9 : x9 = y9
  case neg => simp [h9]
  rw [if_pos h9]
  by_cases h10 : x10 = y10
  case neg => simp [h10]
  rw [if_pos h10]
  by_cases h11 : x11 = y11
  case neg => simp [h11]
  rw [if_pos h11]
  by_cases h12 : x12 = y12
  case neg => simp [h12]
  rw [if_pos h12]
  simp [h1, h2, h3, h4, h5, h6, h7, h8, h9, h10, h11, h12]
/-- The state between the questions: the depot of W5, two revisions in boxes. -/
structure AkSt (W5 wr : World) (g5 g10 g12 : Nat) (v1 v2 : Value) (x y : Rev) : Prop where
  bel : Below W5.heap.size W5 wr
  box5 : Blk W5 g5 28 [v1, v2]
  box10 : Blk wr g10 36 [.string x.path, .int .i64 x.num, .int .i64 x.chg, .int .i64 x.act, .int .i64 x.ty.base, .bool x.ty.k, .bool x.ty.l, .bool x.ty.x, .int .u64 x.sum, .int .i64 x.size, .string x.frm, .int .i64 x.fnum]
  box12 : Blk wr g12 36 [.string y.path, .int .i64 y.num, .int .i64 y.chg, .int .i64 y.act, .int .i64 y.ty.base, .bool y.ty.k, .bool y.ty.l, .bool y.ty.x, .int .u64 y.sum, .int .i64 y.size, .string y.frm, .int .i64 y.fnum]
  le10 : W5.heap.size ≤ g10
  le12 : W5.heap.size ≤ g12
  ne : g10 ≠ g12
theorem AkSt.under {W5 wr X : World} {g5 g10 g12 : Nat} {v1 v2 : Value} {x y : Rev} (h : AkSt W5 wr g5 g10 g12 v1 v2 x y) (hX : Below wr.heap.size wr X) : AkSt W5 X g5 g10 g12 v1 v2 x y :=
  ⟨below_next h.bel hX, h.box5, h.box10.below' hX, h.box12.below' hX, h.le10, h.le12, h.ne⟩
theorem AkSt.dep {W5 wr : World} {g5 g10 g12 : Nat} {v1 v2 : Value} {x y : Rev} (h : AkSt W5 wr g5 g10 g12 v1 v2 x y) : Blk wr g5 28 [v1, v2] := h.box5.below h.bel h.box5.lt
theorem AkSt.put10 {W5 wr : World} {g5 g10 g12 : Nat} {v1 v2 : Value} {x y : Rev} (h : AkSt W5 wr g5 g10 g12 v1 v2 x y) (r : Rev) : AkSt W5 ((((((((((((wr.setCell ⟨g10, 0, none⟩ (.string r.path)).setCell ⟨g10, 1, none⟩ (.int .i64 r.num)).setCell ⟨g10, 2, none⟩ (.int .i64 r.chg)).setCell ⟨g10, 3, none⟩ (.int .i64 r.act)).setCell ⟨g10, 4, none⟩ (.int .i64 r.ty.base)).setCell ⟨g10, 5, none⟩ (.bool r.ty.k)).setCell ⟨g10, 6, none⟩ (.bool r.ty.l)).setCell ⟨g10, 7, none⟩ (.bool r.ty.x)).setCell ⟨g10, 8, none⟩ (.int .u64 r.sum)).setCell ⟨g10, 9, none⟩ (.int .i64 r.size)).setCell ⟨g10, 10, none⟩ (.string r.frm)).setCell ⟨g10, 11, none⟩ (.int .i64 r.fnum)) g5 g10 g12 v1 v2 r y :=
  ⟨below12 h.bel h.le10 r, h.box5, set12 h.box10 r, far12 h.box12 h.ne r, h.le10, h.le12, h.ne⟩
theorem AkSt.put12 {W5 wr : World} {g5 g10 g12 : Nat} {v1 v2 : Value} {x y : Rev} (h : AkSt W5 wr g5 g10 g12 v1 v2 x y) (r : Rev) : AkSt W5 ((((((((((((wr.setCell ⟨g12, 0, none⟩ (.string r.path)).setCell ⟨g12, 1, none⟩ (.int .i64 r.num)).setCell ⟨g12, 2, none⟩ (.int .i64 r.chg)).setCell ⟨g12, 3, none⟩ (.int .i64 r.act)).setCell ⟨g12, 4, none⟩ (.int .i64 r.ty.base)).setCell ⟨g12, 5, none⟩ (.bool r.ty.k)).setCell ⟨g12, 6, none⟩ (.bool r.ty.l)).setCell ⟨g12, 7, none⟩ (.bool r.ty.x)).setCell ⟨g12, 8, none⟩ (.int .u64 r.sum)).setCell ⟨g12, 9, none⟩ (.int .i64 r.size)).setCell ⟨g12, 10, none⟩ (.string r.frm)).setCell ⟨g12, 11, none⟩ (.int .i64 r.fnum)) g5 g10 g12 v1 v2 x r :=
  ⟨below12 h.bel h.le12 r, h.box5, far12 h.box10 (fun e => h.ne e.symm) r, set12 h.box12 r, h.le10, h.le12, h.ne⟩
set_option maxRecDepth 100000 in
set_option maxHeartbeats 8000000 in
theorem asks_any (ps : List ChV) (s : ByteArray) (n m : Int) (v : Value) (w : World) (henv : Env w) (hP : Chgs w v ps) (hz : sizeOk ps) (hr : ∀ p ∈ ps, ∀ r ∈ p.1.recs, r.last ≤ 9223372036854775807) :
    Calls Tryz.prog 3 #[v, .string s, .int .i64 n, .int .i64 m] w fun e w' => e = .returned (.bool true) ∧ Below w.heap.size w w' := by
  have HSM := Lib.hid (small_any ps v w hP (by have := hz.1; omega) hz.2.1 hz.2.2)
  have HPL := Lib.hid (fun X (hX : Below w.heap.size w X) (hs : smallL (ps.map (·.1))) => build_any ps v X (henv.below hX) (hP.below hX) hs hr)
  have HAW := Lib.hid (fun X => awake_any X)
  clear hP hz hr henv
  go_enter Tryz.func3, Tryz.ntmps3
  go_wp2_with fail
  refine HSM.out.mono ?_
  rintro e w2 ⟨b, rfl, hb2, hsm⟩
  have HB2 := Lib.hid hb2
  cases b with
  | false =>
    clear hb2 hsm
    go_wp2_with fail
    refine (HAW.out w2).mono ?_
    rintro e w3 ⟨rfl, hb3⟩
    have HB3 := Lib.hid hb3
    clear hb3
    go_wp2_with fail
    go_ret
    exact ⟨rfl, below_next HB2.out HB3.out⟩
  | true =>
    have HP2 := Lib.hid (HPL.out w2 hb2 (hsm rfl))
    clear hb2 hsm HPL
    by_cases h300 : 300 < s.size
    · have q3 : decide ((300 : Int) < (s.size : Int)) = true := by simp; omega
      go_wp2_with fail
      refine (HAW.out w2).mono ?_
      rintro e w3 ⟨rfl, hb3⟩
      have HB3 := Lib.hid hb3
      clear hb3
      go_wp2_with fail
      go_ret
      exact ⟨rfl, below_next HB2.out HB3.out⟩
    have q3 : decide ((300 : Int) < (s.size : Int)) = false := by simp; omega
    go_wp2_with fail
    refine HP2.out.mono ?_
    rintro e w3 ⟨dv, dr, d, rfl, hb3, hd, hpl, -, -⟩
    obtain ⟨Ar, cr, rfl, hcr, hmr, -⟩ := id hd.1
    obtain ⟨Aq, cq, rfl, -⟩ := id hd.2.1
    unfold maxLen at hmr
    have HLO := Lib.hid (plays_log hpl s)
    have hB4 := blk_new w3 [.slice Ar d.revs.length cr, .slice Aq d.recs.length cq] 28
    have hb4 : Below w.heap.size w (w3.alloc (.cells #[.slice Ar d.revs.length cr, .slice Aq d.recs.length cq] 28)) := below_next HB2.out (below_alloc' hb3 _)
    have hd4 := hd.below ((Below.refl _ _).alloc (Nat.le_refl _) (.cells #[.slice Ar d.revs.length cr, .slice Aq d.recs.length cq] 28))
    have hlen : d.revs.length ≤ 512 := hd.2.2.len
    clear hb3 hd hpl HP2 HSM h300 q3
    go_upto_region 4 with fail
    generalize w3.alloc (.cells #[.slice Ar d.revs.length cr, .slice Aq d.recs.length cq] 28) = W4 at hB4 hb4 hd4 ⊢
    have HB4 := Lib.hid hB4
    have Hb4 := Lib.hid hb4
    have HD4 := Lib.hid hd4.1
    obtain ⟨d0, d1, -, -⟩ := box2 hB4
    generalize w3.heap.size = g5 at HB4 d0 d1 hB4 ⊢
    have hLA := last_any d.revs s (.slice Ar d.revs.length cr) (.slice Aq d.recs.length cq) W4 hd4.1 (by omega)
    rw [show greatest d.revs s (fun _ : Rev => true) = rLast d.revs s by rw [HLO.out.rlast]; exact greatest_lastOf _ _ (fun _ _ => rfl)] at hLA
    have HLA := Lib.hid hLA
    have HLR := Lib.hid (fun X (hX : Below W4.heap.size W4 X) => refLast_any d.revs s (.slice Ar d.revs.length cr) (.slice Aq d.recs.length cq) X (HD4.out.below hX) (by omega))
    have hGA := fun X (hX : Below W4.heap.size W4 X) => get_any d.revs s n (.slice Ar d.revs.length cr) (.slice Aq d.recs.length cq) X (HD4.out.below hX) (by omega)
    rw [← HLO.out.rget_eq n] at hGA
    have HGA := Lib.hid hGA
    have HGR := Lib.hid (fun X (hX : Below W4.heap.size W4 X) => refGet_any d.revs s n (.slice Ar d.revs.length cr) (.slice Aq d.recs.length cq) X (HD4.out.below hX) (by omega))
    have hTA := fun X (hX : Below W4.heap.size W4 X) => at_any d.revs s m (.slice Ar d.revs.length cr) (.slice Aq d.recs.length cq) X (HD4.out.below hX) (by omega)
    rw [(HLO.out.rat_eq m).1, (HLO.out.rat_eq m).2] at hTA
    have HTA := Lib.hid hTA
    have HTR := Lib.hid (fun X (hX : Below W4.heap.size W4 X) => refAt_any d.revs s m (.slice Ar d.revs.length cr) (.slice Aq d.recs.length cq) X (HD4.out.below hX) (by omega))
    have HLG := Lib.hid (fun X (hX : Below W4.heap.size W4 X) => log_any d.revs s (.slice Ar d.revs.length cr) (.slice Aq d.recs.length cq) X (HD4.out.below hX) (by omega))
    have HLH := Lib.hid (fun X (hX : Below W4.heap.size W4 X) => refLog_any d.revs s (.slice Ar d.revs.length cr) (.slice Aq d.recs.length cq) X (HD4.out.below hX) (by omega))
    clear hLA hGA hTA hB4 hb4 hd4
    go_wp2_with fail
    refine HLA.out.mono ?_
    rintro e w5 ⟨rfl, hb5⟩
    clear d0 d1 HLA
    generalize rLast d.revs s = o at HLR ⊢
    generalize hso : someR o = r at ⊢
    have HSO := Lib.hid hso
    clear hso
    have hB10 := blk_new w5 [.string r.path, .int .i64 r.num, .int .i64 r.chg, .int .i64 r.act, .int .i64 r.ty.base, .bool r.ty.k, .bool r.ty.l, .bool r.ty.x, .int .u64 r.sum, .int .i64 r.size, .string r.frm, .int .i64 r.fnum] 36
    have hA6 : Below w5.heap.size w5 (w5.alloc (.cells #[.string r.path, .int .i64 r.num, .int .i64 r.chg, .int .i64 r.act, .int .i64 r.ty.base, .bool r.ty.k, .bool r.ty.l, .bool r.ty.x, .int .u64 r.sum, .int .i64 r.size, .string r.frm, .int .i64 r.fnum] 36)) := (Below.refl _ _).alloc (Nat.le_refl _) _
    have HB5 := Lib.hid (HB4.out.below hb5 HB4.out.lt)
    have Hb5 := Lib.hid hb5
    clear hb5
    go_upto_region 5 with fail
    generalize w5.alloc (.cells #[.string r.path, .int .i64 r.num, .int .i64 r.chg, .int .i64 r.act, .int .i64 r.ty.base, .bool r.ty.k, .bool r.ty.l, .bool r.ty.x, .int .u64 r.sum, .int .i64 r.size, .string r.frm, .int .i64 r.fnum] 36) = W6 at hB10 hA6 ⊢
    generalize hg10 : w5.heap.size = g10 at hB10 ⊢
    have HG10 := Lib.hid hg10
    have HB10 := Lib.hid hB10
    have HA6 := Lib.hid hA6
    obtain ⟨d0, d1, -, -⟩ := box2 (HB5.out.below hA6 HB5.out.lt)
    have HLR2 := Lib.hid (HLR.out W6 (below_next Hb5.out hA6))
    clear hB10 hA6 hg10 HLR
    go_wp2_with fail
    refine HLR2.out.mono ?_
    rintro e w7 ⟨rfl, hb7⟩
    rw [HSO.out]
    clear d0 d1 HLR2
    have hB12 := blk_new w7 [.string r.path, .int .i64 r.num, .int .i64 r.chg, .int .i64 r.act, .int .i64 r.ty.base, .bool r.ty.k, .bool r.ty.l, .bool r.ty.x, .int .u64 r.sum, .int .i64 r.size, .string r.frm, .int .i64 r.fnum] 36
    have hA8 : Below W6.heap.size W6 (w7.alloc (.cells #[.string r.path, .int .i64 r.num, .int .i64 r.chg, .int .i64 r.act, .int .i64 r.ty.base, .bool r.ty.k, .bool r.ty.l, .bool r.ty.x, .int .u64 r.sum, .int .i64 r.size, .string r.frm, .int .i64 r.fnum] 36)) := below_alloc' hb7 _
    have hs7 := hb7.size
    clear hb7
    go_upto_region 6 with fail
    generalize w7.alloc (.cells #[.string r.path, .int .i64 r.num, .int .i64 r.chg, .int .i64 r.act, .int .i64 r.ty.base, .bool r.ty.k, .bool r.ty.l, .bool r.ty.x, .int .u64 r.sum, .int .i64 r.size, .string r.frm, .int .i64 r.fnum] 36) = W8 at hB12 hA8 ⊢
    generalize w7.heap.size = g12 at hB12 hs7 ⊢
    have HS8 : Hid (AkSt w5 W8 g5 g10 g12 (.slice Ar d.revs.length cr) (.slice Aq d.recs.length cq) r r) := Lib.hid (by
      have h1 := HG10.out
      have h2 := HB10.out.lt
      exact ⟨below_next HA6.out hA8, HB5.out, HB10.out.below' hA8, hB12, by omega, by omega, by omega⟩)
    clear hB12 hA8 hs7 HB10 HA6 HSO HB5
    obtain ⟨y0, y1, y2, y3, y4, y5, y6, y7, y8, y9, y10, y11⟩ := box12 HS8.out.box10
    obtain ⟨z0, z1, z2, z3, z4, z5, z6, z7, z8, z9, z10, z11⟩ := box12 HS8.out.box12
    have qr := run_neq_rev r r
    rw [show (!decide (r = r)) = false by simp] at qr
    go_upto_region 8 with fail
    clear y0 y1 y2 y3 y4 y5 y6 y7 y8 y9 y10 y11 z0 z1 z2 z3 z4 z5 z6 z7 z8 z9 z10 z11 qr
    -- the revision with a number
    obtain ⟨d0, d1, -, -⟩ := box2 HS8.out.dep
    have HG1 := Lib.hid (HGA.out W8 (below_next Hb5.out HS8.out.bel))
    generalize rGet d.revs s n = o2 at HG1 HGR
    generalize hso : someR o2 = r2 at HG1
    have HSO := Lib.hid hso
    clear hso HGA
    go_wp2_with fail
    refine HG1.out.mono ?_
    rintro e w9 ⟨rfl, hb9⟩
    clear d0 d1 HG1
    have HS9 := Lib.hid (HS8.out.under hb9)
    clear hb9 HS8
    obtain ⟨y0, y1, y2, y3, y4, y5, y6, y7, y8, y9, y10, y11⟩ := frz12 HS9.out.box10
    obtain ⟨z0, z1, z2, z3, z4, z5, z6, z7, z8, z9, z10, z11⟩ := box12 HS9.out.box10
    have hS10 := HS9.out.put10 r2
    go_upto_region 9 with fail
    clear y0 y1 y2 y3 y4 y5 y6 y7 y8 y9 y10 y11 z0 z1 z2 z3 z4 z5 z6 z7 z8 z9 z10 z11
    generalize ((((((((((((w9.setCell ⟨g10, 0, none⟩ (.string r2.path)).setCell ⟨g10, 1, none⟩ (.int .i64 r2.num)).setCell ⟨g10, 2, none⟩ (.int .i64 r2.chg)).setCell ⟨g10, 3, none⟩ (.int .i64 r2.act)).setCell ⟨g10, 4, none⟩ (.int .i64 r2.ty.base)).setCell ⟨g10, 5, none⟩ (.bool r2.ty.k)).setCell ⟨g10, 6, none⟩ (.bool r2.ty.l)).setCell ⟨g10, 7, none⟩ (.bool r2.ty.x)).setCell ⟨g10, 8, none⟩ (.int .u64 r2.sum)).setCell ⟨g10, 9, none⟩ (.int .i64 r2.size)).setCell ⟨g10, 10, none⟩ (.string r2.frm)).setCell ⟨g10, 11, none⟩ (.int .i64 r2.fnum)) = W10 at hS10 ⊢
    have HS10 := Lib.hid hS10
    clear hS10 HS9
    obtain ⟨d0, d1, -, -⟩ := box2 HS10.out.dep
    have HG2 := Lib.hid (HGR.out W10 (below_next Hb5.out HS10.out.bel))
    clear HGR
    go_wp2_with fail
    refine HG2.out.mono ?_
    rintro e w11 ⟨rfl, hb11⟩
    rw [HSO.out]
    clear d0 d1 HG2
    have HS11 := Lib.hid (HS10.out.under hb11)
    clear hb11 HS10 HSO
    obtain ⟨y0, y1, y2, y3, y4, y5, y6, y7, y8, y9, y10, y11⟩ := frz12 HS11.out.box12
    obtain ⟨z0, z1, z2, z3, z4, z5, z6, z7, z8, z9, z10, z11⟩ := box12 HS11.out.box12
    have hS12 := HS11.out.put12 r2
    go_upto_region 10 with fail
    clear y0 y1 y2 y3 y4 y5 y6 y7 y8 y9 y10 y11 z0 z1 z2 z3 z4 z5 z6 z7 z8 z9 z10 z11
    generalize ((((((((((((w11.setCell ⟨g12, 0, none⟩ (.string r2.path)).setCell ⟨g12, 1, none⟩ (.int .i64 r2.num)).setCell ⟨g12, 2, none⟩ (.int .i64 r2.chg)).setCell ⟨g12, 3, none⟩ (.int .i64 r2.act)).setCell ⟨g12, 4, none⟩ (.int .i64 r2.ty.base)).setCell ⟨g12, 5, none⟩ (.bool r2.ty.k)).setCell ⟨g12, 6, none⟩ (.bool r2.ty.l)).setCell ⟨g12, 7, none⟩ (.bool r2.ty.x)).setCell ⟨g12, 8, none⟩ (.int .u64 r2.sum)).setCell ⟨g12, 9, none⟩ (.int .i64 r2.size)).setCell ⟨g12, 10, none⟩ (.string r2.frm)).setCell ⟨g12, 11, none⟩ (.int .i64 r2.fnum)) = W12 at hS12 ⊢
    have HS12 := Lib.hid hS12
    clear hS12 HS11
    obtain ⟨y0, y1, y2, y3, y4, y5, y6, y7, y8, y9, y10, y11⟩ := box12 HS12.out.box10
    obtain ⟨z0, z1, z2, z3, z4, z5, z6, z7, z8, z9, z10, z11⟩ := box12 HS12.out.box12
    have qr := run_neq_rev r2 r2
    rw [show (!decide (r2 = r2)) = false by simp] at qr
    go_upto_region 12 with fail
    clear y0 y1 y2 y3 y4 y5 y6 y7 y8 y9 y10 y11 z0 z1 z2 z3 z4 z5 z6 z7 z8 z9 z10 z11 qr
    -- the revision as of a change
    obtain ⟨d0, d1, -, -⟩ := box2 HS12.out.dep
    have HT1 := Lib.hid (HTA.out W12 (below_next Hb5.out HS12.out.bel))
    generalize rAt d.revs s m = r3 at HT1 HTR
    clear HTA
    go_wp2_with fail
    refine HT1.out.mono ?_
    rintro e w13 ⟨rfl, hb13⟩
    clear d0 d1 HT1
    have HS13 := Lib.hid (HS12.out.under hb13)
    clear hb13 HS12
    obtain ⟨y0, y1, y2, y3, y4, y5, y6, y7, y8, y9, y10, y11⟩ := frz12 HS13.out.box10
    obtain ⟨z0, z1, z2, z3, z4, z5, z6, z7, z8, z9, z10, z11⟩ := box12 HS13.out.box10
    have hS14 := HS13.out.put10 r3
    go_upto_region 13 with fail
    clear y0 y1 y2 y3 y4 y5 y6 y7 y8 y9 y10 y11 z0 z1 z2 z3 z4 z5 z6 z7 z8 z9 z10 z11
    generalize ((((((((((((w13.setCell ⟨g10, 0, none⟩ (.string r3.path)).setCell ⟨g10, 1, none⟩ (.int .i64 r3.num)).setCell ⟨g10, 2, none⟩ (.int .i64 r3.chg)).setCell ⟨g10, 3, none⟩ (.int .i64 r3.act)).setCell ⟨g10, 4, none⟩ (.int .i64 r3.ty.base)).setCell ⟨g10, 5, none⟩ (.bool r3.ty.k)).setCell ⟨g10, 6, none⟩ (.bool r3.ty.l)).setCell ⟨g10, 7, none⟩ (.bool r3.ty.x)).setCell ⟨g10, 8, none⟩ (.int .u64 r3.sum)).setCell ⟨g10, 9, none⟩ (.int .i64 r3.size)).setCell ⟨g10, 10, none⟩ (.string r3.frm)).setCell ⟨g10, 11, none⟩ (.int .i64 r3.fnum)) = W14 at hS14 ⊢
    have HS14 := Lib.hid hS14
    clear hS14 HS13
    obtain ⟨d0, d1, -, -⟩ := box2 HS14.out.dep
    have HT2 := Lib.hid (HTR.out W14 (below_next Hb5.out HS14.out.bel))
    clear HTR
    go_wp2_with fail
    refine HT2.out.mono ?_
    rintro e w15 ⟨rfl, hb15⟩
    clear d0 d1 HT2
    have HS15 := Lib.hid (HS14.out.under hb15)
    clear hb15 HS14
    obtain ⟨y0, y1, y2, y3, y4, y5, y6, y7, y8, y9, y10, y11⟩ := frz12 HS15.out.box12
    obtain ⟨z0, z1, z2, z3, z4, z5, z6, z7, z8, z9, z10, z11⟩ := box12 HS15.out.box12
    have hS16 := HS15.out.put12 r3
    go_upto_region 14 with fail
    clear y0 y1 y2 y3 y4 y5 y6 y7 y8 y9 y10 y11 z0 z1 z2 z3 z4 z5 z6 z7 z8 z9 z10 z11
    generalize ((((((((((((w15.setCell ⟨g12, 0, none⟩ (.string r3.path)).setCell ⟨g12, 1, none⟩ (.int .i64 r3.num)).setCell ⟨g12, 2, none⟩ (.int .i64 r3.chg)).setCell ⟨g12, 3, none⟩ (.int .i64 r3.act)).setCell ⟨g12, 4, none⟩ (.int .i64 r3.ty.base)).setCell ⟨g12, 5, none⟩ (.bool r3.ty.k)).setCell ⟨g12, 6, none⟩ (.bool r3.ty.l)).setCell ⟨g12, 7, none⟩ (.bool r3.ty.x)).setCell ⟨g12, 8, none⟩ (.int .u64 r3.sum)).setCell ⟨g12, 9, none⟩ (.int .i64 r3.size)).setCell ⟨g12, 10, none⟩ (.string r3.frm)).setCell ⟨g12, 11, none⟩ (.int .i64 r3.fnum)) = W16 at hS16 ⊢
    have HS16 := Lib.hid hS16
    clear hS16 HS15
    obtain ⟨y0, y1, y2, y3, y4, y5, y6, y7, y8, y9, y10, y11⟩ := box12 HS16.out.box10
    obtain ⟨z0, z1, z2, z3, z4, z5, z6, z7, z8, z9, z10, z11⟩ := box12 HS16.out.box12
    have qr := eql_rev_run r3 r3
    rw [show decide (r3 = r3) = true by simp] at qr
    obtain ⟨d0, d1, -, -⟩ := box2 HS16.out.dep
    have hB16 := below_next Hb5.out HS16.out.bel
    have HCC : Hid (∀ w', Below W16.heap.size W16 w' → w'.cell? ⟨g10, 0, none⟩ = some (.string r3.path) ∧ w'.cell? ⟨g10, 1, none⟩ = some (.int .i64 r3.num) ∧ w'.cell? ⟨g10, 2, none⟩ = some (.int .i64 r3.chg) ∧ w'.cell? ⟨g10, 3, none⟩ = some (.int .i64 r3.act) ∧ w'.cell? ⟨g10, 4, none⟩ = some (.int .i64 r3.ty.base) ∧ w'.cell? ⟨g10, 5, none⟩ = some (.bool r3.ty.k) ∧ w'.cell? ⟨g10, 6, none⟩ = some (.bool r3.ty.l) ∧ w'.cell? ⟨g10, 7, none⟩ = some (.bool r3.ty.x) ∧ w'.cell? ⟨g10, 8, none⟩ = some (.int .u64 r3.sum) ∧ w'.cell? ⟨g10, 9, none⟩ = some (.int .i64 r3.size) ∧ w'.cell? ⟨g10, 10, none⟩ = some (.string r3.frm) ∧ w'.cell? ⟨g10, 11, none⟩ = some (.int .i64 r3.fnum) ∧ w'.cell? ⟨g12, 0, none⟩ = some (.string r3.path) ∧ w'.cell? ⟨g12, 1, none⟩ = some (.int .i64 r3.num) ∧ w'.cell? ⟨g12, 2, none⟩ = some (.int .i64 r3.chg) ∧ w'.cell? ⟨g12, 3, none⟩ = some (.int .i64 r3.act) ∧ w'.cell? ⟨g12, 4, none⟩ = some (.int .i64 r3.ty.base) ∧ w'.cell? ⟨g12, 5, none⟩ = some (.bool r3.ty.k) ∧ w'.cell? ⟨g12, 6, none⟩ = some (.bool r3.ty.l) ∧ w'.cell? ⟨g12, 7, none⟩ = some (.bool r3.ty.x) ∧ w'.cell? ⟨g12, 8, none⟩ = some (.int .u64 r3.sum) ∧ w'.cell? ⟨g12, 9, none⟩ = some (.int .i64 r3.size) ∧ w'.cell? ⟨g12, 10, none⟩ = some (.string r3.frm) ∧ w'.cell? ⟨g12, 11, none⟩ = some (.int .i64 r3.fnum) ∧ w'.cell? ⟨g5, 0, none⟩ = some (.slice Ar d.revs.length cr) ∧ w'.cell? ⟨g5, 1, none⟩ = some (.slice Aq d.recs.length cq)) := Lib.hid fun w' hb => by
      obtain ⟨a0, a1, a2, a3, a4, a5, a6, a7, a8, a9, a10, a11⟩ := box12 (HS16.out.under hb).box10
      obtain ⟨b0, b1, b2, b3, b4, b5, b6, b7, b8, b9, b10, b11⟩ := box12 (HS16.out.under hb).box12
      obtain ⟨c0, c1, -, -⟩ := box2 (HS16.out.under hb).dep
      exact ⟨a0, a1, a2, a3, a4, a5, a6, a7, a8, a9, a10, a11, b0, b1, b2, b3, b4, b5, b6, b7, b8, b9, b10, b11, c0, c1⟩
    have HB16 := Lib.hid hB16
    have HSE : Hid (∀ l : List Rev, l.Perm (logOf d.revs s) → l.Pairwise (fun a b => a.num ≤ b.num) → l = logOf d.revs s) := Lib.hid (fun l h1 h2 => HLO.out.sort_eq h1 h2)
    clear hB16
    go_region_held3 (fun w' => Below W16.heap.size W16 w' ∧ w'.cell? ⟨g10, 0, none⟩ = some (.string r3.path) ∧ w'.cell? ⟨g10, 1, none⟩ = some (.int .i64 r3.num) ∧ w'.cell? ⟨g10, 2, none⟩ = some (.int .i64 r3.chg) ∧ w'.cell? ⟨g10, 3, none⟩ = some (.int .i64 r3.act) ∧ w'.cell? ⟨g10, 4, none⟩ = some (.int .i64 r3.ty.base) ∧ w'.cell? ⟨g10, 5, none⟩ = some (.bool r3.ty.k) ∧ w'.cell? ⟨g10, 6, none⟩ = some (.bool r3.ty.l) ∧ w'.cell? ⟨g10, 7, none⟩ = some (.bool r3.ty.x) ∧ w'.cell? ⟨g10, 8, none⟩ = some (.int .u64 r3.sum) ∧ w'.cell? ⟨g10, 9, none⟩ = some (.int .i64 r3.size) ∧ w'.cell? ⟨g10, 10, none⟩ = some (.string r3.frm) ∧ w'.cell? ⟨g10, 11, none⟩ = some (.int .i64 r3.fnum) ∧ w'.cell? ⟨g12, 0, none⟩ = some (.string r3.path) ∧ w'.cell? ⟨g12, 1, none⟩ = some (.int .i64 r3.num) ∧ w'.cell? ⟨g12, 2, none⟩ = some (.int .i64 r3.chg) ∧ w'.cell? ⟨g12, 3, none⟩ = some (.int .i64 r3.act) ∧ w'.cell? ⟨g12, 4, none⟩ = some (.int .i64 r3.ty.base) ∧ w'.cell? ⟨g12, 5, none⟩ = some (.bool r3.ty.k) ∧ w'.cell? ⟨g12, 6, none⟩ = some (.bool r3.ty.l) ∧ w'.cell? ⟨g12, 7, none⟩ = some (.bool r3.ty.x) ∧ w'.cell? ⟨g12, 8, none⟩ = some (.int .u64 r3.sum) ∧ w'.cell? ⟨g12, 9, none⟩ = some (.int .i64 r3.size) ∧ w'.cell? ⟨g12, 10, none⟩ = some (.string r3.frm) ∧ w'.cell? ⟨g12, 11, none⟩ = some (.int .i64 r3.fnum) ∧ w'.cell? ⟨g5, 0, none⟩ = some (.slice Ar d.revs.length cr) ∧ w'.cell? ⟨g5, 1, none⟩ = some (.slice Aq d.recs.length cq))
      ((refine and_of ?_ (HCC.out _); first | with_reducible exact Below.refl _ _ | with_reducible exact (Below.refl _ _).drew | with_reducible assumption))
      (first
        | (go_at_call 16; refine (HLG.out _ (by first | exact HB16.out | exact HB16.out.drew)).mono ?_; rintro e w17 ⟨vl, L, rfl, hb17, hL, hLp, hLs⟩; obtain rfl : L = logOf d.revs s := HSE.out _ hLp hLs; obtain ⟨A1, c1, hvl, -⟩ := id hL; subst hvl; have hS17 : Below W16.heap.size W16 w17 := below_next (by first | exact Below.refl _ _ | exact (Below.refl _ _).drew) hb17)
        | (go_at_call 17; refine (HLH.out _ (by first | exact below_next HB16.out hS17 | exact (below_next HB16.out hS17).drew)).mono ?_; rintro e w18 ⟨A2, c2, rfl, hb18, hL2⟩; have hL18 := hL.below (by first | exact hb18 | exact below_next (Below.refl _ _).drew hb18); have hS18 : Below W16.heap.size W16 w18 := below_next (by first | exact hS17 | exact hS17.drew) hb18)
        | (go_at_call 15; refine (same_any (logOf d.revs s) A1 A2 c1 c2 w18 hL18 hL2).mono ?_; rintro e w19 ⟨rfl, hb19⟩; have hS19 : Below W16.heap.size W16 w19 := below_next hS18 hb19)
        | (go_at_call 7; refine (HAW.out _).mono ?_; rintro e w20 ⟨rfl, hb20⟩; have hS20 : Below W16.heap.size W16 w20 := below_next hS19 hb20))
    all_goals
      go_wp2_with fail
      go_ret
      exact ⟨rfl, below_next Hb4.out (below_next HB16.out hS20)⟩
end Go.Proofs.YtmhmnchdhacdbaaGreatDoor
/- The arguments of the statements, opened: changes, edits, records. -/
namespace Go.Proofs.YtmhmnchdhacdbaaGreatDoor
open Go.RowKit Go.ChangeShapes Go.WideShapes Go.Deep
set_option linter.unusedVariables false
set_option linter.unusedSimpArgs false

section
variable {H : Type} {enc : TypeId × Value → H} {P : Program} {w : World} {spare : Nat → Bool} {held : Bool}
/-- No part of d is too great for memory. -/
def Wt (P : Program) (e : TypeId) (d : DataW H) : Prop := ∀ x ∈ d.weights P e, x ≤ reachBytes
/-- Whatever reads as a value of type e is the cells of some x, of which Pr holds. -/
def Rd {α : Type} (enc : TypeId × Value → H) (P : Program) (w : World) (spare : Nat → Bool) (held : Bool) (e : TypeId) (f : α → List Value) (Pr : α → Prop) : Prop :=
  ∀ n cs y, DataW.trod enc P w 0 spare held n e cs = some y → Wt P e y.1 → ∃ x, cs = f x ∧ Pr x
theorem rd_string {t : TypeId} (ht : P.underlying t = some .string) : Rd enc P w spare held t (fun s : ByteArray => [.string s]) (fun s => s.size ≤ reachBytes) := fun n cs y h hw => by
  obtain ⟨s, e, hy, hs⟩ := DataW.trod_string ht h
  subst hy
  exact ⟨s, e, hw _ (by simp [DataW.weights])⟩
theorem rd_int {t : TypeId} {k : IntKind} (ht : P.underlying t = some (.int k)) : Rd enc P w spare held t (fun n : Int => [.int k n]) (fun n => (Lit.int k n).wf = true) := fun n cs y h _ => by
  obtain ⟨s, e, _, hs⟩ := DataW.trod_int ht h
  exact ⟨s, e, hs⟩
theorem rd_bool {t : TypeId} (ht : P.underlying t = some .bool) : Rd enc P w spare held t (fun b : Bool => [.bool b]) (fun _ => True) := fun n cs y h _ => by
  obtain ⟨s, e, _⟩ := DataW.trod_bool ht h
  exact ⟨s, e, trivial⟩
theorem choose_list {α : Type} {p : Nat → α → Prop} : ∀ (n : Nat), (∀ i, i < n → ∃ x, p i x) → ∃ l : List α, l.length = n ∧ ∀ i (h : i < l.length), p i l[i]
  | 0, _ => ⟨[], rfl, fun i h => absurd h (by simp)⟩
  | n + 1, h => by
    obtain ⟨l, hl, hp⟩ := choose_list n (fun i hi => h i (by omega))
    obtain ⟨x, hx⟩ := h n (by omega)
    refine ⟨l ++ [x], by simp [hl], fun i hi => ?_⟩
    by_cases hil : i < l.length
    · rw [List.getElem_append_left hil]; exact hp i hil
    · have : i = n := by simp at hi; omega
      subst this
      rw [List.getElem_append_right (by omega)]; simpa using hx
theorem wts_all {P : Program} {e : TypeId} {l : List (DataW H)} {d : DataW H} {x : Nat} (hd : d ∈ l) (hx : x ∈ d.weights P e) : x ∈ DataW.weightsAll P e l := by
  induction l with
  | nil => cases hd
  | cons a l ih =>
    rw [DataW.weightsAll]
    rcases List.mem_cons.1 hd with rfl | hd
    · exact List.mem_append_left _ hx
    · exact List.mem_append_right _ (ih hd)
/-- A field of a struct. -/
theorem rd_field {e : TypeId} {fs : Array Field} {cs : List Value} {n : Nat} {y : DataW H × List MemPlace} (he : P.underlying e = some (.struct fs)) (h : DataW.trod enc P w 0 spare held n e cs = some y) (hw : Wt P e y.1) {i : Nat} {f : Field} (hf : fs[i]? = some f) :
    ∃ n' y', DataW.trod enc P w 0 spare held n' f.type ((cs.drop f.offset).take (P.cellsOf f.type)) = some y' ∧ Wt P f.type y'.1 := by
  obtain ⟨ys, n', _, hy, _, hlen, hfld⟩ := DataW.trod_struct he h
  have := hfld i f hf
  have hi := (Array.getElem?_eq_some_iff.1 hf).1
  rw [List.getElem?_eq_getElem (by omega)] at this
  refine ⟨n', _, this, fun x hx => hw x ?_⟩
  rw [hy]
  simp only [DataW.weights, he]
  exact DataW.weights_mem_each (j := i) (t := f.type) (by simp [hf]) (by rw [List.getElem?_map, List.getElem?_eq_getElem (by omega)]; rfl) x hx
theorem rd_field' {e T : TypeId} {fs : Array Field} {cs : List Value} {n off k : Nat} {y : DataW H × List MemPlace} (he : P.underlying e = some (.struct fs)) (h : DataW.trod enc P w 0 spare held n e cs = some y) (hw : Wt P e y.1) {i : Nat} {f : Field} (hf : fs[i]? = some f) (hT : f.type = T) (ho : f.offset = off) (hk : P.cellsOf T = k) :
    ∃ n' y', DataW.trod enc P w 0 spare held n' T ((cs.drop off).take k) = some y' ∧ Wt P T y'.1 := by
  obtain ⟨n', y', h', hw'⟩ := rd_field he h hw hf
  rw [hT] at hw'
  rw [hT, ho, hk] at h'
  exact ⟨n', y', h', hw'⟩
theorem rd_len {e : TypeId} {fs : Array Field} {cs : List Value} {n : Nat} {y : DataW H × List MemPlace} (he : P.underlying e = some (.struct fs)) (h : DataW.trod enc P w 0 spare held n e cs = some y) : cs.length = P.cellsOf e := by
  obtain ⟨ys, n', _, _, hl, _, _⟩ := DataW.trod_struct he h
  exact hl
/-- A slice. -/
theorem rd_slice {α : Type} {f : α → List Value} {Pr : α → Prop} {k : Nat} {t e : TypeId} (hf : ∀ x, (f x).length = k) (hk : 0 < k) (ht : P.underlying t = some (.slice e)) (hC : P.cellsOf e = k) (hR : Rd enc P w spare held e f Pr) :
    ∀ n cs y, DataW.trod enc P w 0 spare held n t cs = some y → Wt P t y.1 → ∃ (v : Value) (l : List α), cs = [v] ∧ l.length * P.bytesOf e ≤ reachBytes ∧ (∃ A c, v = .slice A l.length c) ∧ Row w k v l.length (l.flatMap f) ∧ ∀ x ∈ l, Pr x := by
  intro n cs y h hw
  rcases open_slice ht h with ⟨rfl, _⟩ | ⟨x, len, cap, m, nf, D, Pl, rfl, _, hl, hm, hmm, hy, hi⟩
  · exact ⟨_, [], rfl, by simp, ⟨none, 0, rfl⟩, Row.nil_ w k, by simp⟩
  · have hnm : len ≤ m := by rw [hmm]; split <;> omega
    obtain ⟨l, hll, hp⟩ := choose_list (α := α) (p := fun i q => (∀ j u, (f q)[j]? = some u → w.cell? (x.add (i * k + j)) = some u) ∧ Pr q) len (fun i hin => by
      obtain ⟨cs', hcc, htr⟩ := hi i (by omega)
      rw [hC] at hcc
      obtain ⟨_, hcl, hat⟩ := World.cells?_some hcc
      obtain ⟨q, rfl, hq⟩ := hR _ _ _ htr (fun z hz => hw z (by
        rw [hy]
        simp only [DataW.weights, ht]
        exact List.mem_cons_of_mem _ (List.mem_append_left _ (wts_all (List.mem_map.2 ⟨i, List.mem_range.2 hin, rfl⟩) hz))))
      refine ⟨q, fun j u hu => ?_, hq⟩
      have hj : j < k := by rw [← hf q]; exact (List.getElem?_eq_some_iff.1 hu).1
      have := hat j (by omega)
      rw [add_add'] at this
      rw [this]
      first | exact hu | (simpa using hu))
    refine ⟨_, l, rfl, ?_, ⟨some x, cap, by rw [hll]⟩, ?_, fun q hq => ?_⟩
    · have := hw ((len + (m - len)) * P.bytesOf e) (by rw [hy]; simp [DataW.weights, ht])
      rw [hll]
      exact Nat.le_trans (Nat.mul_le_mul_right _ (by omega)) this
    · rw [hll]
      refine ⟨_, _, rfl, hl, hm, by rw [flat_len f k hf, hll], fun h => (by cases h), fun hn => ⟨x, rfl, ?_, fun j u hu => ?_⟩⟩
      · have h0 : 0 < (f (l[0]'(by omega))).length := by rw [hf]; exact hk
        have := (hp 0 (by omega)).1 0 _ (List.getElem?_eq_getElem h0)
        exact (add_block x _) ▸ cell_lt this
      · have hjl : j < len * k := by have := (List.getElem?_eq_some_iff.1 hu).1; rwa [flat_len f k hf, hll] at this
        have hq : j / k < l.length := by rw [hll, Nat.div_lt_iff_lt_mul hk]; exact hjl
        have hr : j % k < k := Nat.mod_lt _ hk
        have e1 : j / k * k + j % k = j := by rw [Nat.mul_comm]; exact Nat.div_add_mod j k
        have e2 := flat_get f k hf l (j / k) (j % k) hq hr
        rw [e1, hu] at e2
        have := (hp (j / k) hq).1 (j % k) u e2.symm
        rwa [e1] at this
    · obtain ⟨i, hil, rfl⟩ := List.mem_iff_getElem.1 hq
      exact (hp i hil).2
end
section
variable {H : Type} {enc : TypeId × Value → H}
theorem rd_ty (w : World) (spare : Nat → Bool) (held : Bool) : Rd enc Tryz.prog w spare held 31 Ty.cells (fun _ => True) := by
  intro n cs y h hw
  have hl : cs.length = 4 := (rd_len Tryz.underlying31 h).trans (by kernel_rfl)
  obtain ⟨n0, y0, h0, wh0⟩ := rd_field' (T := 3) (off := 0) (k := 1) Tryz.underlying31 h hw (i := 0) rfl rfl rfl (by kernel_rfl)
  obtain ⟨a0, e0, p0⟩ := rd_int Tryz.underlying3 _ _ _ h0 wh0
  obtain ⟨n1, y1, h1, wh1⟩ := rd_field' (T := 4) (off := 1) (k := 1) Tryz.underlying31 h hw (i := 1) rfl rfl rfl (by kernel_rfl)
  obtain ⟨a1, e1, p1⟩ := rd_bool Tryz.underlying4 _ _ _ h1 wh1
  obtain ⟨n2, y2, h2, wh2⟩ := rd_field' (T := 4) (off := 2) (k := 1) Tryz.underlying31 h hw (i := 2) rfl rfl rfl (by kernel_rfl)
  obtain ⟨a2, e2, p2⟩ := rd_bool Tryz.underlying4 _ _ _ h2 wh2
  obtain ⟨n3, y3, h3, wh3⟩ := rd_field' (T := 4) (off := 3) (k := 1) Tryz.underlying31 h hw (i := 3) rfl rfl rfl (by kernel_rfl)
  obtain ⟨a3, e3, p3⟩ := rd_bool Tryz.underlying4 _ _ _ h3 wh3
  clear h hw h0 h1 h2 h3 wh0 wh1 wh2 wh3
  match cs, hl with
  | [u0, u1, u2, u3], _ =>
    have e0' : [u0] = _ := e0
    have e1' : [u1] = _ := e1
    have e2' : [u2] = _ := e2
    have e3' : [u3] = _ := e3
    clear e0
    clear e1
    clear e2
    clear e3
    simp only [List.cons.injEq, and_true] at e0' e1' e2' e3'
    subst e0' e1' e2' e3'
    exact ⟨⟨a0, a1, a2, a3⟩, rfl, trivial⟩
theorem rd_con (w : World) (spare : Nat → Bool) (held : Bool) : Rd enc Tryz.prog w spare held 34 (fun p : Int × Int => [.int .u64 p.1, .int .i64 p.2]) (fun _ => True) := by
  intro n cs y h hw
  have hl : cs.length = 2 := (rd_len Tryz.underlying34 h).trans (by kernel_rfl)
  obtain ⟨n0, y0, h0, wh0⟩ := rd_field' (T := 32) (off := 0) (k := 1) Tryz.underlying34 h hw (i := 0) rfl rfl rfl (by kernel_rfl)
  obtain ⟨a0, e0, p0⟩ := rd_int Tryz.underlying32 _ _ _ h0 wh0
  obtain ⟨n1, y1, h1, wh1⟩ := rd_field' (T := 3) (off := 1) (k := 1) Tryz.underlying34 h hw (i := 1) rfl rfl rfl (by kernel_rfl)
  obtain ⟨a1, e1, p1⟩ := rd_int Tryz.underlying3 _ _ _ h1 wh1
  clear h hw h0 h1 wh0 wh1
  match cs, hl with
  | [u0, u1], _ =>
    have e0' : [u0] = _ := e0
    have e1' : [u1] = _ := e1
    clear e0
    clear e1
    simp only [List.cons.injEq, and_true] at e0' e1'
    subst e0' e1'
    exact ⟨(a0, a1), rfl, trivial⟩
theorem rd_edt (w : World) (spare : Nat → Bool) (held : Bool) : Rd enc Tryz.prog w spare held 58 Edt.cells (fun x => x.path.size ≤ reachBytes ∧ x.frm.size ≤ reachBytes) := by
  intro n cs y h hw
  have hl : cs.length = 12 := (rd_len Tryz.underlying58 h).trans (by kernel_rfl)
  obtain ⟨n0, y0, h0, wh0⟩ := rd_field' (T := 9) (off := 0) (k := 1) Tryz.underlying58 h hw (i := 0) rfl rfl rfl (by kernel_rfl)
  obtain ⟨a0, e0, p0⟩ := rd_string Tryz.underlying9 _ _ _ h0 wh0
  obtain ⟨n1, y1, h1, wh1⟩ := rd_field' (T := 3) (off := 1) (k := 1) Tryz.underlying58 h hw (i := 1) rfl rfl rfl (by kernel_rfl)
  obtain ⟨a1, e1, p1⟩ := rd_int Tryz.underlying3 _ _ _ h1 wh1
  obtain ⟨n2, y2, h2, wh2⟩ := rd_field' (T := 31) (off := 2) (k := 4) Tryz.underlying58 h hw (i := 2) rfl rfl rfl (by kernel_rfl)
  obtain ⟨a2, e2, p2⟩ := rd_ty w spare held _ _ _ h2 wh2
  obtain ⟨n3, y3, h3, wh3⟩ := rd_field' (T := 34) (off := 6) (k := 2) Tryz.underlying58 h hw (i := 3) rfl rfl rfl (by kernel_rfl)
  obtain ⟨a3, e3, p3⟩ := rd_con w spare held _ _ _ h3 wh3
  obtain ⟨n4, y4, h4, wh4⟩ := rd_field' (T := 3) (off := 8) (k := 1) Tryz.underlying58 h hw (i := 4) rfl rfl rfl (by kernel_rfl)
  obtain ⟨a4, e4, p4⟩ := rd_int Tryz.underlying3 _ _ _ h4 wh4
  obtain ⟨n5, y5, h5, wh5⟩ := rd_field' (T := 9) (off := 9) (k := 1) Tryz.underlying58 h hw (i := 5) rfl rfl rfl (by kernel_rfl)
  obtain ⟨a5, e5, p5⟩ := rd_string Tryz.underlying9 _ _ _ h5 wh5
  obtain ⟨n6, y6, h6, wh6⟩ := rd_field' (T := 3) (off := 10) (k := 1) Tryz.underlying58 h hw (i := 6) rfl rfl rfl (by kernel_rfl)
  obtain ⟨a6, e6, p6⟩ := rd_int Tryz.underlying3 _ _ _ h6 wh6
  obtain ⟨n7, y7, h7, wh7⟩ := rd_field' (T := 3) (off := 11) (k := 1) Tryz.underlying58 h hw (i := 7) rfl rfl rfl (by kernel_rfl)
  obtain ⟨a7, e7, p7⟩ := rd_int Tryz.underlying3 _ _ _ h7 wh7
  clear h hw h0 h1 h2 h3 h4 h5 h6 h7 wh0 wh1 wh2 wh3 wh4 wh5 wh6 wh7
  match cs, hl with
  | [u0, u1, u2, u3, u4, u5, u6, u7, u8, u9, u10, u11], _ =>
    have e0' : [u0] = _ := e0
    have e1' : [u1] = _ := e1
    have e2' : [u2, u3, u4, u5] = _ := e2
    have e3' : [u6, u7] = _ := e3
    have e4' : [u8] = _ := e4
    have e5' : [u9] = _ := e5
    have e6' : [u10] = _ := e6
    have e7' : [u11] = _ := e7
    clear e0
    clear e1
    clear e2
    clear e3
    clear e4
    clear e5
    clear e6
    clear e7
    simp only [Ty.cells, List.cons.injEq, and_true] at e0' e1' e2' e3' e4' e5' e6' e7'
    obtain ⟨b0, b1, b2, b3⟩ := e2'
    obtain ⟨b4, b5⟩ := e3'
    subst e0' e1' b0 b1 b2 b3 b4 b5 e4' e5' e6' e7'
    exact ⟨⟨a0, a1, a2, a3.1, a3.2, a4, a5, a6, a7⟩, rfl, p0, p5⟩
theorem rd_rcd (w : World) (spare : Nat → Bool) (held : Bool) : Rd enc Tryz.prog w spare held 60 Rcd.cells (fun x => x.frm.size ≤ reachBytes ∧ x.to.size ≤ reachBytes ∧ x.last ≤ 9223372036854775807) := by
  intro n cs y h hw
  have hl : cs.length = 6 := (rd_len Tryz.underlying60 h).trans (by kernel_rfl)
  obtain ⟨n0, y0, h0, wh0⟩ := rd_field' (T := 9) (off := 0) (k := 1) Tryz.underlying60 h hw (i := 0) rfl rfl rfl (by kernel_rfl)
  obtain ⟨a0, e0, p0⟩ := rd_string Tryz.underlying9 _ _ _ h0 wh0
  obtain ⟨n1, y1, h1, wh1⟩ := rd_field' (T := 3) (off := 1) (k := 1) Tryz.underlying60 h hw (i := 1) rfl rfl rfl (by kernel_rfl)
  obtain ⟨a1, e1, p1⟩ := rd_int Tryz.underlying3 _ _ _ h1 wh1
  obtain ⟨n2, y2, h2, wh2⟩ := rd_field' (T := 3) (off := 2) (k := 1) Tryz.underlying60 h hw (i := 2) rfl rfl rfl (by kernel_rfl)
  obtain ⟨a2, e2, p2⟩ := rd_int Tryz.underlying3 _ _ _ h2 wh2
  obtain ⟨n3, y3, h3, wh3⟩ := rd_field' (T := 9) (off := 3) (k := 1) Tryz.underlying60 h hw (i := 3) rfl rfl rfl (by kernel_rfl)
  obtain ⟨a3, e3, p3⟩ := rd_string Tryz.underlying9 _ _ _ h3 wh3
  obtain ⟨n4, y4, h4, wh4⟩ := rd_field' (T := 3) (off := 4) (k := 1) Tryz.underlying60 h hw (i := 4) rfl rfl rfl (by kernel_rfl)
  obtain ⟨a4, e4, p4⟩ := rd_int Tryz.underlying3 _ _ _ h4 wh4
  obtain ⟨n5, y5, h5, wh5⟩ := rd_field' (T := 3) (off := 5) (k := 1) Tryz.underlying60 h hw (i := 5) rfl rfl rfl (by kernel_rfl)
  obtain ⟨a5, e5, p5⟩ := rd_int Tryz.underlying3 _ _ _ h5 wh5
  clear h hw h0 h1 h2 h3 h4 h5 wh0 wh1 wh2 wh3 wh4 wh5
  match cs, hl with
  | [u0, u1, u2, u3, u4, u5], _ =>
    have e0' : [u0] = _ := e0
    have e1' : [u1] = _ := e1
    have e2' : [u2] = _ := e2
    have e3' : [u3] = _ := e3
    have e4' : [u4] = _ := e4
    have e5' : [u5] = _ := e5
    clear e0
    clear e1
    clear e2
    clear e3
    clear e4
    clear e5
    simp only [List.cons.injEq, and_true] at e0' e1' e2' e3' e4' e5'
    subst e0' e1' e2' e3' e4' e5'
    exact ⟨⟨a0, a1, a2, a3, a4, a5⟩, rfl, p0, p3, by simp [Lit.wf] at p2; show a2 ≤ 9223372036854775807; omega⟩
/-- What the reading of a change gives. -/
def ChV.rd (w : World) (p : ChV) : Prop := p.ok w ∧ p.1.edits.length * 96 ≤ reachBytes ∧ p.1.recs.length * 64 ≤ reachBytes ∧ (∃ A c, p.2.1 = .slice A p.1.edits.length c) ∧ (∃ A c, p.2.2 = .slice A p.1.recs.length c) ∧
  (∀ x ∈ p.1.edits, x.path.size ≤ reachBytes ∧ x.frm.size ≤ reachBytes) ∧ ∀ x ∈ p.1.recs, x.frm.size ≤ reachBytes ∧ x.to.size ≤ reachBytes ∧ x.last ≤ 9223372036854775807
theorem rd_chg (w : World) (spare : Nat → Bool) (held : Bool) : Rd enc Tryz.prog w spare held 56 ChV.cells (ChV.rd w) := by
  intro n cs y h hw
  have hl : cs.length = 5 := (rd_len Tryz.underlying56 h).trans (by kernel_rfl)
  obtain ⟨n0, y0, h0, wh0⟩ := rd_field' (T := 3) (off := 0) (k := 1) Tryz.underlying56 h hw (i := 0) rfl rfl rfl (by kernel_rfl)
  obtain ⟨a0, e0, p0⟩ := rd_int Tryz.underlying3 _ _ _ h0 wh0
  obtain ⟨n1, y1, h1, wh1⟩ := rd_field' (T := 9) (off := 1) (k := 1) Tryz.underlying56 h hw (i := 1) rfl rfl rfl (by kernel_rfl)
  obtain ⟨a1, e1, p1⟩ := rd_string Tryz.underlying9 _ _ _ h1 wh1
  obtain ⟨n2, y2, h2, wh2⟩ := rd_field' (T := 9) (off := 2) (k := 1) Tryz.underlying56 h hw (i := 2) rfl rfl rfl (by kernel_rfl)
  obtain ⟨a2, e2, p2⟩ := rd_string Tryz.underlying9 _ _ _ h2 wh2
  obtain ⟨n3, y3, h3, wh3⟩ := rd_field' (T := 54) (off := 3) (k := 1) Tryz.underlying56 h hw (i := 3) rfl rfl rfl (by kernel_rfl)
  obtain ⟨v3, es, e3, b3, s3, r3, p3⟩ := rd_slice (k := 12) (fun _ => rfl) (by decide) Tryz.underlying54 (by kernel_rfl) (rd_edt w spare held) _ _ _ h3 wh3
  obtain ⟨n4, y4, h4, wh4⟩ := rd_field' (T := 26) (off := 4) (k := 1) Tryz.underlying56 h hw (i := 4) rfl rfl rfl (by kernel_rfl)
  obtain ⟨v4, rs, e4, b4, s4, r4, p4⟩ := rd_slice (k := 6) (fun _ => rfl) (by decide) Tryz.underlying26 (by kernel_rfl) (rd_rcd w spare held) _ _ _ h4 wh4
  rw [show Tryz.prog.bytesOf 58 = 96 by kernel_rfl] at b3
  rw [show Tryz.prog.bytesOf 60 = 64 by kernel_rfl] at b4
  clear h hw h0 h1 h2 h3 h4 wh0 wh1 wh2 wh3 wh4
  match cs, hl with
  | [u0, u1, u2, u3, u4], _ =>
    have e0' : [u0] = _ := e0
    have e1' : [u1] = _ := e1
    have e2' : [u2] = _ := e2
    have e3' : [u3] = _ := e3
    have e4' : [u4] = _ := e4
    clear e0 e1 e2 e3 e4
    simp only [List.cons.injEq, and_true] at e0' e1' e2' e3' e4'
    subst e0' e1' e2' e3' e4'
    exact ⟨(⟨a0, a1, a2, es, rs⟩, u3, u4), rfl, ⟨r3, r4⟩, b3, b4, s3, s4, p3, p4⟩
theorem chgs_open (w : World) (spare : Nat → Bool) (held : Bool) {n : Nat} {v : Value} {y : DataW H × List MemPlace} (h : DataW.trod enc Tryz.prog w 0 spare held n 22 [v] = some y) (hw : Wt Tryz.prog 22 y.1) :
    ∃ ps : List ChV, Chgs w v ps ∧ ps.length * 88 ≤ reachBytes ∧ ∀ p ∈ ps, p.rd w := by
  obtain ⟨v', ps, e, hb, -, hr, hp⟩ := rd_slice (k := 5) (fun _ => rfl) (by decide) Tryz.underlying22 (by kernel_rfl) (rd_chg w spare held) _ _ _ h hw
  rw [show Tryz.prog.bytesOf 56 = 88 by kernel_rfl] at hb
  simp only [List.cons.injEq, and_true] at e
  subst e
  exact ⟨ps, ⟨hr, fun p hq => (hp p hq).1⟩, hb, hp⟩
end
end Go.Proofs.YtmhmnchdhacdbaaGreatDoor
/- The arguments of the statements at a row: lists of changes, one change. -/
namespace Go.Proofs.YtmhmnchdhacdbaaGreatDoor
open Go.RowKit Go.ChangeShapes Go.WideShapes Go.Deep
set_option linter.unusedVariables false
set_option linter.unusedSimpArgs false

section
variable {H : Type} {enc : TypeId × Value → H}
theorem wt_at {P : Program} {ps : Array TypeId} {ts : List TypeId} {ds gs : List (DataW H)} (h : (DataW.weightsEach P (ps.toList ++ ts) (ds ++ gs)).all (· ≤ reachBytes) = true) (j : Nat) (t : TypeId) (d : DataW H) (ht : ps[j]? = some t) (hd : ds[j]? = some d) : Wt P t d := by
  intro x hx
  have h1 : (ps.toList ++ ts)[j]? = some t := by
    rw [List.getElem?_append_left (by rw [Array.length_toList]; exact (Array.getElem?_eq_some_iff.1 ht).1), Array.getElem?_toList]; exact ht
  have h2 : (ds ++ gs)[j]? = some d := by
    rw [List.getElem?_append_left (List.getElem?_eq_some_iff.1 hd).1]; exact hd
  have := List.all_eq_true.1 h x (DataW.weights_mem_each h1 h2 x hx)
  simpa using this
/-- What the reading of a list of changes gives. -/
def ChgsRd (w : World) (v : Value) (ps : List ChV) : Prop := Chgs w v ps ∧ ps.length * 88 ≤ reachBytes ∧ ∀ p ∈ ps, p.rd w
set_option maxRecDepth 100000 in
theorem chgs_arg {w : World} {r : Reach} {b0 : Nat} {spare : Nat → Bool} {held : Bool} {v : Value} {d : DataW H} {p : List MemPlace} (hv : Value.okWide Tryz.prog w r b0 22 v) (h : DataW.Trod enc Tryz.prog w 0 spare held 22 v d p) (hw : Wt Tryz.prog 22 d) :
    ∃ ps : List ChV, ChgsRd w v ps := by
  obtain ⟨a, n, c, rfl⟩ := okWide_slice Tryz.underlying22 hv
  obtain ⟨m, hm⟩ := h
  exact chgs_open w spare held hm hw
set_option maxRecDepth 100000 in
theorem chg_arg {w : World} {r : Reach} {b0 : Nat} {spare : Nat → Bool} {held : Bool} {v : Value} {d : DataW H} {p : List MemPlace} (hv : Value.okWide Tryz.prog w r b0 56 v) (h : DataW.Trod enc Tryz.prog w 0 spare held 56 v d p) (hw : Wt Tryz.prog 56 d) :
    ∃ (ch : Chg) (Ae Ac : Option Addr) (ce cc : Nat), v = .agg #[.int .i64 ch.num, .string ch.client, .string ch.text, .slice Ae ch.edits.length ce, .slice Ac ch.recs.length cc] ∧ ChV.rd w (ch, .slice Ae ch.edits.length ce, .slice Ac ch.recs.length cc) := by
  obtain ⟨cs, rfl, -⟩ := okWide_struct Tryz.underlying56 hv
  obtain ⟨m, hm⟩ := h
  obtain ⟨⟨ch, ev, rv⟩, e, hr⟩ := rd_chg w spare held _ _ _ hm hw
  obtain ⟨Ae, ce, he⟩ := hr.2.2.2.1
  obtain ⟨Ac, cc, hc⟩ := hr.2.2.2.2.1
  change ev = .slice Ae ch.edits.length ce at he
  change rv = .slice Ac ch.recs.length cc at hc
  subst he hc
  refine ⟨ch, Ae, Ac, ce, cc, ?_, hr⟩
  have e' : cs.toList = [.int .i64 ch.num, .string ch.client, .string ch.text, .slice Ae ch.edits.length ce, .slice Ac ch.recs.length cc] := e
  cases cs
  simp only at e'
  rw [e']
theorem rd_last {w : World} {p : ChV} (h : p.rd w) : ∀ r ∈ p.1.recs, r.last ≤ 9223372036854775807 := fun r hr => (h.2.2.2.2.2.2 r hr).2.2
theorem rd_size {w : World} {p : ChV} (h : p.rd w) : chgLen p.1 ≤ 10000000000000 ∧ (∀ x ∈ p.1.edits, x.path.size ≤ 140737488355328 ∧ x.frm.size ≤ 140737488355328) ∧ ∀ x ∈ p.1.recs, x.frm.size ≤ 140737488355328 ∧ x.to.size ≤ 140737488355328 := by
  have hb : reachBytes = 140737488351232 := by decide
  obtain ⟨-, h1, h2, -, -, h3, h4⟩ := h
  rw [hb] at h1 h2
  refine ⟨?_, fun x hx => ?_, fun x hx => ?_⟩
  · unfold chgLen; omega
  · have := h3 x hx; rw [hb] at this; omega
  · have := h4 x hx; rw [hb] at this; omega
theorem rd_sizeOk {w : World} {v : Value} {ps : List ChV} {p : ChV} (h : ChgsRd w v ps) (hp : p.rd w) : sizeOk (ps ++ [p]) := by
  have hb : reachBytes = 140737488351232 := by decide
  have hl := h.2.1
  rw [hb] at hl
  have hm : ∀ q ∈ ps ++ [p], q.rd w := fun q hq => by
    rcases List.mem_append.1 hq with hq | hq
    · exact h.2.2 q hq
    · rw [List.mem_singleton] at hq; subst hq; exact hp
  exact ⟨by rw [List.length_append, List.length_singleton]; omega, fun q hq => (rd_size (hm q hq)).1, fun q hq => (rd_size (hm q hq)).2⟩
theorem rd_sizeOk' {w : World} {v : Value} {ps : List ChV} (h : ChgsRd w v ps) : sizeOk ps := by
  have hb : reachBytes = 140737488351232 := by decide
  have hl := h.2.1
  rw [hb] at hl
  exact ⟨by omega, fun q hq => (rd_size (h.2.2 q hq)).1, fun q hq => (rd_size (h.2.2 q hq)).2⟩
end
end Go.Proofs.YtmhmnchdhacdbaaGreatDoor
/- The walk of HistoryAsks at its arguments as the row reads them. -/
namespace Go.Proofs.YtmhmnchdhacdbaaGreatDoor
open Go.RowKit Go.ChangeShapes Go.WideShapes Go.Deep
set_option linter.unusedVariables false

theorem historyAsks_walk (ps : List ChV) (v : Value) (s : ByteArray) (n m : Int) (w : World) (he : Env w) (h0 : ChgsRd w v ps) (hs : s.size ≤ maxLen) :
    Calls Tryz.prog 3 #[v, .string s, .int .i64 n, .int .i64 m] w fun e w' => e = .returned (.bool true) ∧ Below w.heap.size w w' :=
  asks_any ps s n m v w he h0.1 (rd_sizeOk' h0) (fun p hp => rd_last (h0.2.2 p hp))
end Go.Proofs.YtmhmnchdhacdbaaGreatDoor
/- What all cards of this seat use: the world of the witness; opening the arguments. -/
namespace Go.Proofs.YtmhmnchdhacdbaaGreatDoor.cardBase
open Go.ChangeShapes Go.WideShapes Go.ChangeAt Go.RowKit
set_option linter.unusedVariables false

theorem own : ownKnob Tryz.prog.godebug = none := by kernel_rfl
theorem laidOut : laidOutB Tryz.prog = true := by kernel_rfl
theorem env_of {W : World} (h : W.ShapedOpen Tryz.prog) : Env W := Tryz.laysM143.s1_3 W h

def layFirst : Obj → Obj
  | .cells _ t frozen => .cells (Go.Pinned.utf8FirstZ.map fun (n : Nat) => Value.int .u8 (n : Int)).toArray t frozen
  | o => o
def layAccept : Obj → Obj
  | .cells _ t frozen => .cells #[.int .u8 128, .int .u8 191, .int .u8 160, .int .u8 191, .int .u8 128, .int .u8 159, .int .u8 144, .int .u8 191, .int .u8 128, .int .u8 143, .int .u8 0, .int .u8 0, .int .u8 0, .int .u8 0, .int .u8 0, .int .u8 0, .int .u8 0, .int .u8 0, .int .u8 0, .int .u8 0, .int .u8 0, .int .u8 0, .int .u8 0, .int .u8 0, .int .u8 0, .int .u8 0, .int .u8 0, .int .u8 0, .int .u8 0, .int .u8 0, .int .u8 0, .int .u8 0] t frozen
  | o => o
/-- A world for the witness: the settled one, the two tables holding what their initialisers lay. -/
noncomputable def laidWorld (os : Os) : World :=
  { World.holding Tryz.prog os ⟨#[], #[], []⟩ with heap := ((World.holding Tryz.prog os ⟨#[], #[], []⟩).heap.modify 1 layFirst).modify 2 layAccept }

end Go.Proofs.YtmhmnchdhacdbaaGreatDoor.cardBase
