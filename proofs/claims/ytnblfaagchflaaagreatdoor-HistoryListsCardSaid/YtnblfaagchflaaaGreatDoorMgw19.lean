/- A pattern as an argument of a statement at a row. -/
import Derived.Test.YtnblfaagchflaaaGreatDoorMgw2
import Derived.Test.YtnblfaagchflaaaGreatDoorMgw17
import Derived.Test.YtnblfaagchflaaaGreatDoorMgw16
import Derived.Test.YtnblfaagchflaaaGreatDoorMgw18
import Derived.Deep.LoopGhost
namespace Go.Proofs.YtnblfaagchflaaaGreatDoor
open Go.RowKit Go.ChangeShapes Go.WideShapes Go.Deep
set_option linter.unusedVariables false

section
variable {H : Type} {enc : TypeId × Value → H}
theorem flat_strs : ∀ es : List ByteArray, es.flatMap (fun s : ByteArray => [Value.string s]) = es.map Value.string
  | [] => rfl
  | a :: l => by rw [List.flatMap_cons, List.map_cons, List.singleton_append, flat_strs l]
def PatRd (w : World) (q : Pat × Value) : Prop := Strs w q.2 q.1.parts ∧ (∃ A c, q.2 = .slice A q.1.parts.length c) ∧ ∀ x ∈ q.1.parts, x.size ≤ reachBytes
set_option maxRecDepth 100000 in
theorem rd_pat (w : World) (spare : Nat → Bool) (held : Bool) : Rd enc Tryz.prog w spare held 25 (fun q : Pat × Value => [q.2, .bool q.1.rest]) (PatRd w) := by
  intro n cs y h hw
  have hl : cs.length = 2 := (rd_len Tryz.underlying25 h).trans (by kernel_rfl)
  obtain ⟨n0, y0, h0, wh0⟩ := rd_field' (T := 23) (off := 0) (k := 1) Tryz.underlying25 h hw (i := 0) rfl rfl rfl (by kernel_rfl)
  obtain ⟨v0, es, e0, b0, s0, r0, p0⟩ := rd_slice (f := fun s : ByteArray => [.string s]) (k := 1) (fun _ => rfl) (by decide) Tryz.underlying23 (by kernel_rfl) (rd_string Tryz.underlying9) _ _ _ h0 wh0
  obtain ⟨n1, y1, h1, wh1⟩ := rd_field' (T := 4) (off := 1) (k := 1) Tryz.underlying25 h hw (i := 1) rfl rfl rfl (by kernel_rfl)
  obtain ⟨a1, e1, -⟩ := rd_bool Tryz.underlying4 _ _ _ h1 wh1
  clear h hw h0 h1 wh0 wh1
  match cs, hl with
  | [u0, u1], _ =>
    have e0' : [u0] = _ := e0
    have e1' : [u1] = _ := e1
    clear e0 e1
    simp only [List.cons.injEq, and_true] at e0' e1'
    subst e0' e1'
    refine ⟨(⟨es, a1⟩, u0), rfl, ?_, s0, p0⟩
    have e := flat_strs es
    unfold Strs
    rw [← e]
    exact r0
set_option maxRecDepth 100000 in
theorem pat_arg {w : World} {r : Reach} {b0 : Nat} {spare : Nat → Bool} {held : Bool} {v : Value} {d : DataW H} {p : List MemPlace} (hv : Value.okWide Tryz.prog w r b0 25 v) (h : DataW.Trod enc Tryz.prog w 0 spare held 25 v d p) (hw : Wt Tryz.prog 25 d) :
    ∃ (q : Pat) (A : Option Addr) (c : Nat), v = .agg #[.slice A q.parts.length c, .bool q.rest] ∧ Strs w (.slice A q.parts.length c) q.parts ∧ ∀ x ∈ q.parts, x.size ≤ maxLen := by
  obtain ⟨cs, rfl, -⟩ := okWide_struct Tryz.underlying25 hv
  obtain ⟨m, hm⟩ := h
  obtain ⟨⟨q, sv⟩, e, hs, ⟨A, c, hc⟩, hz⟩ := rd_pat w spare held _ _ _ hm hw
  change sv = .slice A q.parts.length c at hc
  subst hc
  have e' : cs.toList = [.slice A q.parts.length c, .bool q.rest] := e
  refine ⟨q, A, c, ?_, hs, fun x hx => ?_⟩
  · cases cs
    simp only at e'
    rw [e']
  · have := hz x hx
    have hb : reachBytes = 140737488351232 := by decide
    rw [hb] at this
    unfold maxLen; omega
end
end Go.Proofs.YtnblfaagchflaaaGreatDoor
/- Plain: what the reference's At says, and that it says what the program's At says. -/
namespace Go.Proofs.YtnblfaagchflaaaGreatDoor
open Go.RowKit
set_option linter.unusedVariables false
set_option linter.unusedSimpArgs false

def atM (m : Int) (o v : Rev) : Rev := if v.chg ≤ m then v else o
/-- The reference's At: the last one of the log that counts. -/
def rAt (D : List Rev) (p : ByteArray) (m : Int) : Rev := (logOf D p).foldl (atM m) zeroRev
def gS (p : ByteArray) (f : Rev → Bool) (o : Option Rev) (r : Rev) : Option Rev := if r.path = p ∧ f r = true then (match o with
    | none => some r
    | some b => if b.num < r.num then some r else some b) else o
theorem greatest_gS (D : List Rev) (p : ByteArray) (f : Rev → Bool) : greatest D p f = D.foldl (gS p f) none := rfl
theorem gS_far {p : ByteArray} {f : Rev → Bool} {o : Option Rev} {r : Rev} (h : ¬ (r.path = p ∧ f r = true)) : gS p f o r = o := if_neg h
theorem gS_more {p : ByteArray} {f : Rev → Bool} {o : Option Rev} {r : Rev} (h : r.path = p ∧ f r = true) (ho : ∀ b, o = some b → b.num < r.num) : gS p f o r = some r := by
  unfold gS
  rw [if_pos h]
  cases o with
  | none => rfl
  | some b => exact if_pos (ho b rfl)
theorem greatest_log (D : List Rev) (p : ByteArray) (f : Rev → Bool) : greatest D p f = greatest (logOf D p) p f := by
  rw [greatest_gS, greatest_gS]
  unfold logOf
  rw [List.foldl_filter]
  congr 1
  funext o r
  by_cases h : r.path = p
  · simp [h]
  · rw [gS_far (fun e => h e.1)]; simp [h]
theorem at_fold (m : Int) (p : ByteArray) : ∀ (l : List Rev) (o : Option Rev), l.Pairwise (fun a b => a.num < b.num) → (∀ v ∈ l, 0 < v.num ∧ v.path = p) → (∀ b, o = some b → 0 < b.num ∧ ∀ v ∈ l, b.num < v.num) →
    someR (l.foldl (gS p (fun v => decide (v.chg ≤ m))) o) = l.foldl (atM m) (someR o) ∧ (l.foldl (gS p (fun v => decide (v.chg ≤ m))) o).isSome = decide (0 < (l.foldl (atM m) (someR o)).num)
  | [], o, _, _, ho => by
    refine ⟨rfl, ?_⟩
    cases o with
    | none => rfl
    | some b => have := (ho b rfl).1; simp [someR, this]
  | v :: l, o, hs, hn, ho => by
    obtain ⟨h1, h2⟩ := List.pairwise_cons.1 hs
    have hv := hn v (List.mem_cons_self ..)
    have hn2 : ∀ x ∈ l, 0 < x.num ∧ x.path = p := fun x hx => hn x (List.mem_cons_of_mem _ hx)
    rw [List.foldl_cons, List.foldl_cons]
    by_cases hc : v.chg ≤ m
    · have e2 : atM m (someR o) v = someR (some v) := by unfold atM; rw [if_pos hc]; rfl
      rw [gS_more ⟨hv.2, by simpa using hc⟩ (fun b hb => (ho b hb).2 v (List.mem_cons_self ..)), e2]
      exact at_fold m p l (some v) h2 hn2 (fun b hb => by injection hb with hb; subst hb; exact ⟨hv.1, h1⟩)
    · have e2 : atM m (someR o) v = someR o := by unfold atM; rw [if_neg hc]
      rw [gS_far (by simp [hc]), e2]
      exact at_fold m p l o h2 hn2 (fun b hb => ⟨(ho b hb).1, fun x hx => (ho b hb).2 x (List.mem_cons_of_mem _ hx)⟩)
theorem LogOk.rat_eq {D : List Rev} {p : ByteArray} (h : LogOk D p) (m : Int) : someR (greatest D p (fun v => decide (v.chg ≤ m))) = rAt D p m ∧ (greatest D p (fun v => decide (v.chg ≤ m))).isSome = decide (0 < (rAt D p m).num) := by
  rw [greatest_log, greatest_gS]
  refine at_fold m p (logOf D p) none h.sorted (fun v hv => ⟨?_, (mem_log.1 hv).2⟩) (fun b hb => by cases hb)
  obtain ⟨i, hi, e⟩ := List.mem_iff_getElem.1 hv
  have := h.num i hi
  rw [e] at this
  omega
end Go.Proofs.YtnblfaagchflaaaGreatDoor
/- The reference's moved: the walk. -/
namespace Go.Proofs.YtnblfaagchflaaaGreatDoor
open Go.RowKit
set_option linter.unusedVariables false
set_option linter.unusedSimpArgs false

def mvB (x y : Edt) : Bool := (decide (x.act = 5) && decide (y.act = 4) && decide (y.frm = x.path)) || (decide (x.act = 4) && decide (y.act = 5) && decide (y.path = x.frm))
set_option maxRecDepth 100000 in
set_option maxHeartbeats 4000000 in
theorem movedR5 (ops : Array Oper) (hops : Tryz.f95.body.bind (regAt 5) = some ops) (Q : Exit → Act → World → Prop) (g3 g7 : Nat) (x y : Edt) (V : World)
    (h3 : Blk V g3 55 [.string x.path, .int .i64 x.act, .int .i64 x.ty.base, .bool x.ty.k, .bool x.ty.l, .bool x.ty.x, .int .u64 x.sum, .int .i64 x.size, .int .i64 x.base, .string x.frm, .int .i64 x.fnum, .int .i64 x.fence]) (h7 : Blk V g7 55 [.string y.path, .int .i64 y.act, .int .i64 y.ty.base, .bool y.ty.k, .bool y.ty.l, .bool y.ty.x, .int .u64 y.sum, .int .i64 y.size, .int .i64 y.base, .string y.frm, .int .i64 y.fnum, .int .i64 y.fence])
    (u0 u1 u2 u4 u5 u6 u8 u9 u10 u11 u12 u13 u14 u15 u16 u17 u18 u19 u20 u21 u22 u23 u24 u25 u26 u27 u28 u29 u30 u31 u32 u33 u34 u35 u36 u37 u38 u39 u40 u41 u42 u43 u44 u45 u46 u47 u48 u49 u50 u51 u52 u53 u54 u55 u56 u57 u58 u59 u60 u61 : Value)
    (hQ : ∀ (t15 t16 t17 t18 t19 t20 t21 t22 t23 t24 t25 t26 t27 t28 t29 t30 t31 t32 t33 t34 t35 t36 t37 t38 t39 t40 t41 t42 t43 t44 t45 : Value), Q .normal ⟨#[u0, u1, u2, .pointer (some ⟨g3, 0, none⟩), u4, u5, u6, .pointer (some ⟨g7, 0, none⟩), u8, u9, u10, u11, u12, u13, u14, t15, t16, t17, t18, t19, t20, t21, t22, t23, t24, t25, t26, t27, t28, t29, t30, t31, t32, t33, t34, t35, t36, t37, t38, t39, t40, t41, t42, t43, t44, t45, .bool (mvB x y), u47, u48, u49, u50, u51, u52, u53, u54, u55, u56, u57, u58, u59, u60, u61], []⟩ V) :
    (Code.region 5 ops false).wp Tryz.prog Q ⟨#[u0, u1, u2, .pointer (some ⟨g3, 0, none⟩), u4, u5, u6, .pointer (some ⟨g7, 0, none⟩), u8, u9, u10, u11, u12, u13, u14, u15, u16, u17, u18, u19, u20, u21, u22, u23, u24, u25, u26, u27, u28, u29, u30, u31, u32, u33, u34, u35, u36, u37, u38, u39, u40, u41, u42, u43, u44, u45, u46, u47, u48, u49, u50, u51, u52, u53, u54, u55, u56, u57, u58, u59, u60, u61], []⟩ V := by
  simp only [Tryz.f95, Option.bind_some, regAt] at hops
  simp at hops
  subst hops
  have HQ := Lib.hid hQ
  clear hQ
  obtain ⟨a0, a1, a2, a3, a4, a5, a6, a7, a8, a9, a10, a11⟩ := box12 h3
  obtain ⟨b0, b1, b2, b3, b4, b5, b6, b7, b8, b9, b10, b11⟩ := box12 h7
  have HE : Hid (mvB x y = ((decide (x.act = 5) && decide (y.act = 4) && decide (y.frm = x.path)) || (decide (x.act = 4) && decide (y.act = 5) && decide (y.path = x.frm)))) := Lib.hid rfl
  by_cases c5 : x.act = 5
  · have q5 : (x.act == 5) = true := by simpa using c5
    have q4 : (x.act == 4) = false := by rw [c5]; rfl
    by_cases y4 : y.act = 4
    · have r4 : (y.act == 4) = true := by simpa using y4
      have sq := str_eqB y.frm x.path
      by_cases yp : y.frm = x.path
      · rw [decide_eq_true yp] at sq
        have e : mvB x y = true := by rw [HE.out]; simp [c5, y4, yp]
        rw [e] at HQ
        clear c5 y4 yp e
        go_wp2_with fail
        exact HQ.out ..
      · rw [decide_eq_false yp] at sq
        have e : mvB x y = false := by rw [HE.out]; simp [c5, y4, yp]
        rw [e] at HQ
        clear c5 y4 yp e
        go_wp2_with fail
        exact HQ.out ..
    · have r4 : (y.act == 4) = false := by simpa using y4
      have e : mvB x y = false := by rw [HE.out]; simp [c5, y4]
      rw [e] at HQ
      clear c5 y4 e
      go_wp2_with fail
      exact HQ.out ..
  · have q5 : (x.act == 5) = false := by simpa using c5
    by_cases c4 : x.act = 4
    · have q4 : (x.act == 4) = true := by simpa using c4
      by_cases y5 : y.act = 5
      · have r5 : (y.act == 5) = true := by simpa using y5
        have sq := str_eqB y.path x.frm
        by_cases yp : y.path = x.frm
        · rw [decide_eq_true yp] at sq
          have e : mvB x y = true := by rw [HE.out]; simp [c5, c4, y5, yp]
          rw [e] at HQ
          clear c5 c4 y5 yp e
          go_wp2_with fail
          exact HQ.out ..
        · rw [decide_eq_false yp] at sq
          have e : mvB x y = false := by rw [HE.out]; simp [c5, c4, y5, yp]
          rw [e] at HQ
          clear c5 c4 y5 yp e
          go_wp2_with fail
          exact HQ.out ..
      · have r5 : (y.act == 5) = false := by simpa using y5
        have e : mvB x y = false := by rw [HE.out]; simp [c5, c4, y5]
        rw [e] at HQ
        clear c5 c4 y5 e
        go_wp2_with fail
        exact HQ.out ..
    · have q4 : (x.act == 4) = false := by simpa using c4
      have e : mvB x y = false := by rw [HE.out]; simp [c5, c4]
      rw [e] at HQ
      clear c5 c4 e
      go_wp2_with fail
      exact HQ.out ..
theorem movedN_next (es : List Edt) (x : Edt) (k : Nat) (h : k < es.length) : movedN (es.take (k + 1)) x = movedN (es.take k) x + (if mvB x es[k] then 1 else 0) := by
  unfold movedN
  rw [List.take_succ_eq_append_getElem h, List.countP_append, List.countP_cons, List.countP_nil, Nat.zero_add]
  rfl
theorem movedN_le (es : List Edt) (x : Edt) (k : Nat) : movedN (es.take k) x ≤ k := by
  unfold movedN
  have := List.countP_le_length (p := fun y : Edt => (decide (x.act = 5) && decide (y.act = 4) && decide (y.frm = x.path)) || (decide (x.act = 4) && decide (y.act = 5) && decide (y.path = x.frm))) (l := es.take k)
  rw [List.length_take] at this
  omega
set_option maxRecDepth 100000 in
set_option maxHeartbeats 4000000 in
theorem refMoved_any (es : List Edt) (num : Int) (cl tx : ByteArray) (Ae Ac : Option Addr) (nc ce cc : Nat) (x : Edt) (w : World) (hE : Edts w (.slice Ae es.length ce) es) (hl : es.length ≤ 100000) :
    Calls Tryz.prog 95 #[.agg #[.int .i64 num, .string cl, .string tx, .slice Ae es.length ce, .slice Ac nc cc], .agg #[.string x.path, .int .i64 x.act, .int .i64 x.ty.base, .bool x.ty.k, .bool x.ty.l, .bool x.ty.x, .int .u64 x.sum, .int .i64 x.size, .int .i64 x.base, .string x.frm, .int .i64 x.fnum, .int .i64 x.fence]] w fun e w' => e = .returned (.bool (movedB es x)) ∧ Below w.heap.size w w' := by
  have HE := Lib.hid hE
  clear hE
  have hb0 : Below w.heap.size w ((w.alloc (.cells #[.int .i64 num, .string cl, .string tx, .slice Ae es.length ce, .slice Ac nc cc] 53)).alloc (.cells #[.string x.path, .int .i64 x.act, .int .i64 x.ty.base, .bool x.ty.k, .bool x.ty.l, .bool x.ty.x, .int .u64 x.sum, .int .i64 x.size, .int .i64 x.base, .string x.frm, .int .i64 x.fnum, .int .i64 x.fence] 55)) := ((Below.refl _ _).alloc (Nat.le_refl _) _).alloc (by simp) _
  have hV : Blk ((w.alloc (.cells #[.int .i64 num, .string cl, .string tx, .slice Ae es.length ce, .slice Ac nc cc] 53)).alloc (.cells #[.string x.path, .int .i64 x.act, .int .i64 x.ty.base, .bool x.ty.k, .bool x.ty.l, .bool x.ty.x, .int .u64 x.sum, .int .i64 x.size, .int .i64 x.base, .string x.frm, .int .i64 x.fnum, .int .i64 x.fence] 55)) (w.heap.size + 1) 55 [.string x.path, .int .i64 x.act, .int .i64 x.ty.base, .bool x.ty.k, .bool x.ty.l, .bool x.ty.x, .int .u64 x.sum, .int .i64 x.size, .int .i64 x.base, .string x.frm, .int .i64 x.fnum, .int .i64 x.fence] := by
    have h1 := blk_new (w.alloc (.cells #[.int .i64 num, .string cl, .string tx, .slice Ae es.length ce, .slice Ac nc cc] 53)) [.string x.path, .int .i64 x.act, .int .i64 x.ty.base, .bool x.ty.k, .bool x.ty.l, .bool x.ty.x, .int .u64 x.sum, .int .i64 x.size, .int .i64 x.base, .string x.frm, .int .i64 x.fnum, .int .i64 x.fence] 55
    simp only [World.size_alloc] at h1
    exact h1
  have hB : Blk ((w.alloc (.cells #[.int .i64 num, .string cl, .string tx, .slice Ae es.length ce, .slice Ac nc cc] 53)).alloc (.cells #[.string x.path, .int .i64 x.act, .int .i64 x.ty.base, .bool x.ty.k, .bool x.ty.l, .bool x.ty.x, .int .u64 x.sum, .int .i64 x.size, .int .i64 x.base, .string x.frm, .int .i64 x.fnum, .int .i64 x.fence] 55)) w.heap.size 53 [.int .i64 num, .string cl, .string tx, .slice Ae es.length ce, .slice Ac nc cc] := (blk_new w _ _).alloc _
  go_enter Tryz.func95, Tryz.ntmps95
  go_upto_region 1 with fail
  generalize (w.alloc (.cells #[.int .i64 num, .string cl, .string tx, .slice Ae es.length ce, .slice Ac nc cc] 53)).alloc (.cells #[.string x.path, .int .i64 x.act, .int .i64 x.ty.base, .bool x.ty.k, .bool x.ty.l, .bool x.ty.x, .int .u64 x.sum, .int .i64 x.size, .int .i64 x.base, .string x.frm, .int .i64 x.fnum, .int .i64 x.fence] 55) = W1 at hb0 hV hB ⊢
  obtain ⟨d0, d1, d2, d3, d4⟩ := box5 hB
  have HV := Lib.hid hV
  have Hb0 := Lib.hid hb0
  clear hb0 hV hB
  go_wp2_with fail
  clear d0 d1 d2 d3 d4
  go_loopw [5, 11] (fun n s wr => ∃ k : Nat, s = .int .i64 k ∧ n = .int .i64 (movedN (es.take k) x) ∧ k ≤ es.length ∧ Hid (Below W1.heap.size W1 wr)) (fun _ s _ => es.length - (intOf s).toNat)
  case atStart => exact ⟨0, rfl, by rw [List.take_zero]; rfl, Nat.zero_le _, Below.refl _ _⟩
  case round =>
    obtain ⟨k, rfl, rfl, hk, HI⟩ := hrel
    by_cases hlt : k < es.length
    · obtain ⟨ad, rfl, hab, hld⟩ := Edts.at_ (HE.out.below (below_next Hb0.out HI.out)) hlt
      have HN := Lib.hid (movedN_next es x k hlt)
      have hle := movedN_le es x k
      generalize es[k] = y at hld HN
      obtain ⟨x0, x1, x2, x3, x4, x5, x6, x7, x8, x9, x10, x11⟩ := hld
      have hY := blk_new wr [.string y.path, .int .i64 y.act, .int .i64 y.ty.base, .bool y.ty.k, .bool y.ty.l, .bool y.ty.x, .int .u64 y.sum, .int .i64 y.size, .int .i64 y.base, .string y.frm, .int .i64 y.fnum, .int .i64 y.fence] 55
      have hA1 := HI.out.alloc HI.out.size (.cells #[.string y.path, .int .i64 y.act, .int .i64 y.ty.base, .bool y.ty.k, .bool y.ty.l, .bool y.ty.x, .int .u64 y.sum, .int .i64 y.size, .int .i64 y.base, .string y.frm, .int .i64 y.fnum, .int .i64 y.fence] 55)
      go_upto_region 5 with fail
      clear x0 x1 x2 x3 x4 x5 x6 x7 x8 x9 x10 x11
      generalize wr.alloc (.cells #[.string y.path, .int .i64 y.act, .int .i64 y.ty.base, .bool y.ty.k, .bool y.ty.l, .bool y.ty.x, .int .u64 y.sum, .int .i64 y.size, .int .i64 y.base, .string y.frm, .int .i64 y.fnum, .int .i64 y.fence] 55) = V1 at hY hA1 ⊢
      generalize wr.heap.size = g7 at hY ⊢
      have HA1 := Lib.hid hA1
      have HY := Lib.hid hY
      clear hY hA1
      refine movedR5 _ (by kernel_rfl) _ (w.heap.size + 1) g7 x y V1 (HV.out.below HA1.out HV.out.lt) HY.out _ _ _ _ _ _ _ _ _ _ _ _ _ _ _ _ _ _ _ _ _ _ _ _ _ _ _ _ _ _ _ _ _ _ _ _ _ _ _ _ _ _ _ _ _ _ _ _ _ _ _ _ _ _ _ _ _ _ _ _ ?_
      intro t15 t16 t17 t18 t19 t20 t21 t22 t23 t24 t25 t26 t27 t28 t29 t30 t31 t32 t33 t34 t35 t36 t37 t38 t39 t40 t41 t42 t43 t44 t45
      cases hm : mvB x y
      · rw [hm] at HN
        clear hm
        go_wp2_with fail
        go_roundw
        case rel => exact ⟨k + 1, by go_num, by rw [HN.out]; simp, by omega, HA1.out⟩
        case measure => simp [intOf]; omega
      · rw [hm] at HN
        clear hm
        go_wp2_with fail
        go_roundw
        case rel => exact ⟨k + 1, by go_num, by rw [HN.out]; simp, by omega, HA1.out⟩
        case measure => simp [intOf]; omega
    · have hke : k = es.length := by omega
      subst hke
      obtain ⟨a0, a1, a2, a3, a4, a5, a6, a7, a8, a9, a10, a11⟩ := box12 (HV.out.below HI.out HV.out.lt)
      have HMB : Hid (movedB es x = (decide (movedN es x = 1) || (decide (x.act ≠ 5) && decide (x.act ≠ 4)))) := Lib.hid rfl
      have HB := Lib.hid (below_next Hb0.out HI.out)
      rw [List.take_length]
      generalize movedN es x = m at HMB ⊢
      by_cases h1 : m = 1
      · have HV : Hid (movedB es x = true) := Lib.hid (by rw [HMB.out]; simp [h1])
        subst h1
        go_wp2_with fail
        go_ret
        exact ⟨ret_bool HV.out.symm, HB.out⟩
      · have q1 : ((m : Int) == 1) = false := by simp; omega
        by_cases h5 : x.act = 5
        · have q5 : (x.act != 5) = false := by simpa using h5
          have HV : Hid (movedB es x = false) := Lib.hid (by rw [HMB.out]; simp [h1, h5])
          clear h1 h5
          go_wp2_with fail
          go_ret
          exact ⟨ret_bool HV.out.symm, HB.out⟩
        · have q5 : (x.act != 5) = true := by simpa using h5
          by_cases h4 : x.act = 4
          · have q4 : (x.act != 4) = false := by simpa using h4
            have HV : Hid (movedB es x = false) := Lib.hid (by rw [HMB.out]; simp [h1, h5, h4])
            clear h1 h5 h4
            go_wp2_with fail
            go_ret
            exact ⟨ret_bool HV.out.symm, HB.out⟩
          · have q4 : (x.act != 4) = true := by simpa using h4
            have HV : Hid (movedB es x = true) := Lib.hid (by rw [HMB.out]; simp [h1, h5, h4])
            clear h1 h5 h4
            go_wp2_with fail
            go_ret
            exact ⟨ret_bool HV.out.symm, HB.out⟩
end Go.Proofs.YtnblfaagchflaaaGreatDoor
/- Plain: what the reference's examination of a change says is what the program's says. -/
namespace Go.Proofs.YtnblfaagchflaaaGreatDoor
open Go.RowKit
set_option linter.unusedVariables false
set_option linter.unusedSimpArgs false

/-- The path of the edit ahead of the i-th, or b. -/
def aheadQ (b : ByteArray) (es : List Edt) (i : Nat) : ByteArray := if i = 0 then b else ((es[i - 1]?).getD zeroEdt).path
theorem aheadQ_cons (b : ByteArray) (e : Edt) (es : List Edt) (i : Nat) : aheadQ b (e :: es) (i + 1) = aheadQ e.path es i := by
  unfold aheadQ
  cases i with
  | zero => simp
  | succ i => simp
theorem every_all {last : ByteArray → Option Rev} : ∀ (es : List Edt) (b : ByteArray), (∀ i (h : i < es.length), editE last (aheadQ b es i) es[i] = 0) → everyE last b es = 0
  | [], b, _ => rfl
  | e :: es, b, h => by
    have h0 : editE last b e = 0 := h 0 (by simp)
    unfold everyE
    rw [if_neg (by rw [h0]; simp)]
    exact every_all es e.path fun i hi => by
      have := h (i + 1) (by simp; omega)
      rw [aheadQ_cons] at this
      exact this
theorem every_at {last : ByteArray → Option Rev} : ∀ (es : List Edt) (b : ByteArray) (i : Nat) (hi : i < es.length), (∀ j (h : j < i), editE last (aheadQ b es j) (es[j]'(by omega)) = 0) → editE last (aheadQ b es i) es[i] ≠ 0 → everyE last b es = editE last (aheadQ b es i) es[i]
  | e :: es, b, 0, hi, _, h => by
    unfold everyE
    rw [if_pos (show editE last b e ≠ 0 from h)]
    rfl
  | e :: es, b, i + 1, hi, hz, h => by
    have h0 : editE last b e = 0 := hz 0 (by omega)
    unfold everyE
    rw [if_neg (by rw [h0]; simp)]
    rw [aheadQ_cons] at h ⊢
    exact every_at es e.path i (by simpa using hi) (fun j hj => by have := hz (j + 1) (by omega); rw [aheadQ_cons] at this; exact this) h

theorem recsF_mk {revs : List Rev} {c : Chg} {ed : ByteArray → Option Edt} : ∀ (rs : List Rcd) (b : Option Rcd), recsF revs c ed b rs = true ↔ (∀ r ∈ rs, recOk revs c ed r = true) ∧ (∀ x, b = some x → ∀ h : 0 < rs.length, cmpR x rs[0] < 0) ∧ ∀ i (h : i + 1 < rs.length), cmpR rs[i] rs[i + 1] < 0
  | [], b => by simp [recsF]
  | r :: rs, b => by
    unfold recsF
    rw [Bool.and_eq_true, Bool.and_eq_true, recsF_mk rs (some r)]
    constructor
    · rintro ⟨⟨h1, h2⟩, h3, h4, h5⟩
      refine ⟨fun x hx => ?_, fun x hx h => ?_, fun i hi => ?_⟩
      · rcases List.mem_cons.1 hx with rfl | hx
        · exact h2
        · exact h3 x hx
      · subst hx; simpa using h1
      · cases i with
        | zero => exact h4 r rfl (by simpa using hi)
        | succ i => exact h5 i (by simpa using hi)
    · rintro ⟨h1, h2, h3⟩
      refine ⟨⟨?_, h1 r (List.mem_cons_self ..)⟩, fun x hx => h1 x (List.mem_cons_of_mem _ hx), fun x hx h => ?_, fun i hi => ?_⟩
      · cases b with
        | none => rfl
        | some x => exact decide_eq_true (h2 x rfl (by simp))
      · injection hx with hx
        subst hx
        exact h3 0 (by simpa using h)
      · exact h3 (i + 1) (by simpa using hi)
theorem rec_val {d : Dep} {c : Chg} (h : DepOk d) (h2 : everyE (lastOf d.revs) emptyS c.edits = 0) {r : Rcd} (h1 : recOk d.revs c (editsOf c.edits) r = true) : r.val_ := by
  unfold recOk at h1
  rw [Bool.and_eq_true] at h1
  obtain ⟨⟨e, he, -, hn⟩, v, hv⟩ := isRec_parts h1.1
  obtain ⟨g1, g2, -⟩ := greatest_mem hv
  obtain ⟨k1, k2⟩ := editsOf_mem _ _ _ he
  refine ⟨?_, ?_⟩
  · rw [← g2]; exact h.rec_.path v g1
  · rw [← k2]; exact ((everyE_paths h2).2 e k1).1
/-- What the reference answers to the i-th record; v: what it says of the record ahead and this one. -/
def RecB (d : Dep) (c : Chg) (i : Nat) (b : Bool) : Prop := ∃ h : i < c.recs.length, ∃ v : Bool, (∀ h0 : 0 < i, (c.recs[i - 1]'(by omega)).val_ → c.recs[i].val_ → v = decide (cmpR (c.recs[i - 1]'(by omega)) c.recs[i] < 0)) ∧ b = ((decide (i = 0) || v) && refRec d.revs c c.recs[i])
theorem recs_yes {d : Dep} {c : Chg} (h : DepOk d) (hs : ∀ r ∈ d.revs, r.chg < c.num) (h2 : everyE (lastOf d.revs) emptyS c.edits = 0) (hb : ∀ i, i < c.recs.length → RecB d c i true) : recsE d.revs c = 0 := by
  have hok : ∀ i (hi : i < c.recs.length), recOk d.revs c (editsOf c.edits) c.recs[i] = true := fun i hi => by
    obtain ⟨_, v, hv, he⟩ := hb i hi
    have := (Bool.and_eq_true _ _ ▸ he.symm)
    exact recOk_of_ref h hs h2 this.2
  have hf : recsF d.revs c (editsOf c.edits) none c.recs = true := by
    refine (recsF_mk _ _).2 ⟨fun r hr => ?_, fun x hx => (by cases hx), fun i hi => ?_⟩
    · obtain ⟨i, hi, rfl⟩ := List.mem_iff_getElem.1 hr
      exact hok i hi
    · obtain ⟨_, v, hv, he⟩ := hb (i + 1) hi
      have h3 := (Bool.and_eq_true _ _ ▸ he.symm)
      have h4 : v = true := by simpa using h3.1
      have h5 := hv (by omega) (rec_val h h2 (hok _ _)) (rec_val h h2 (hok _ _))
      rw [h4] at h5
      simpa using h5.symm
  unfold recsE
  rw [hf]; rfl
theorem recs_no {d : Dep} {c : Chg} (h : DepOk d) (hs : ∀ r ∈ d.revs, r.chg < c.num) (h2 : everyE (lastOf d.revs) emptyS c.edits = 0) {i : Nat} (hb : RecB d c i false) : recsE d.revs c = 118 := by
  unfold recsE
  cases hf : recsF d.revs c (editsOf c.edits) none c.recs with
  | false => rfl
  | true =>
    exfalso
    obtain ⟨f1, -, f3⟩ := (recsF_mk _ _).1 hf
    obtain ⟨hi, v, hv, he⟩ := hb
    rw [ref_of_recOk h hs h2 f1 (List.getElem_mem hi), Bool.and_true] at he
    have h3 := he.symm
    rw [Bool.or_eq_false_iff] at h3
    have h0 : 0 < i := by have := h3.1; simp at this; omega
    have h5 := hv h0 (rec_val h h2 (f1 _ (List.getElem_mem _))) (rec_val h h2 (f1 _ (List.getElem_mem _)))
    rw [h3.2] at h5
    obtain ⟨j, rfl⟩ : ∃ j, i = j + 1 := ⟨i - 1, by omega⟩
    have h6 := f3 j hi
    simp only [Nat.add_sub_cancel] at h5
    have := of_decide_eq_false h5.symm
    omega
theorem moves_yes {last : ByteArray → Option Rev} {es : List Edt} (h2 : everyE last emptyS es = 0) (hb : ∀ x ∈ es, movedB es x = true) : movesE es = 0 := by
  unfold movesE
  rw [if_pos]
  rw [List.all_eq_true]
  intro x hx
  rw [← moved_iff (paths_nodup (everyE_paths h2).1) hx]
  exact hb x hx
theorem moves_no {last : ByteArray → Option Rev} {es : List Edt} (h2 : everyE last emptyS es = 0) {x : Edt} (hx : x ∈ es) (hb : movedB es x = false) : movesE es = 117 := by
  unfold movesE
  rw [if_neg]
  intro hh
  rw [List.all_eq_true] at hh
  have := hh x hx
  rw [← moved_iff (paths_nodup (everyE_paths h2).1) hx, hb] at this
  cases this
end Go.Proofs.YtnblfaagchflaaaGreatDoor
