/- The reference's moved: the walk. -/
import Derived.Test.YtnblfaagchflaaaDoorMgw17
import Derived.Test.YtnblfaagchflaaaDoorMzOrd
import Derived.Test.YtnblfaagchflaaaDoorMgw9
namespace Go.Proofs.YtnblfaagchflaaaDoor
open Go.RowKit
set_option linter.unusedVariables false
set_option linter.unusedSimpArgs false

def mvB (x y : Edt) : Bool := (decide (x.act = 5) && decide (y.act = 4) && decide (y.frm = x.path)) || (decide (x.act = 4) && decide (y.act = 5) && decide (y.path = x.frm))
set_option maxRecDepth 100000 in
set_option maxHeartbeats 4000000 in
theorem movedR5 (ops : Array Oper) (hops : Tryd.f39.body.bind (regAt 5) = some ops) (Q : Exit → Act → World → Prop) (g3 g7 : Nat) (x y : Edt) (V : World)
    (h3 : Blk V g3 39 [.string x.path, .int .i64 x.act, .int .i64 x.ty.base, .bool x.ty.k, .bool x.ty.l, .bool x.ty.x, .int .u64 x.sum, .int .i64 x.size, .int .i64 x.base, .string x.frm, .int .i64 x.fnum, .int .i64 x.fence]) (h7 : Blk V g7 39 [.string y.path, .int .i64 y.act, .int .i64 y.ty.base, .bool y.ty.k, .bool y.ty.l, .bool y.ty.x, .int .u64 y.sum, .int .i64 y.size, .int .i64 y.base, .string y.frm, .int .i64 y.fnum, .int .i64 y.fence])
    (u0 u1 u2 u4 u5 u6 u8 u9 u10 u11 u12 u13 u14 u15 u16 u17 u18 u19 u20 u21 u22 u23 u24 u25 u26 u27 u28 u29 u30 u31 u32 u33 u34 u35 u36 u37 u38 u39 u40 u41 u42 u43 u44 u45 u46 u47 u48 u49 u50 u51 u52 u53 u54 u55 u56 u57 u58 u59 u60 u61 : Value)
    (hQ : ∀ (t15 t16 t17 t18 t19 t20 t21 t22 t23 t24 t25 t26 t27 t28 t29 t30 t31 t32 t33 t34 t35 t36 t37 t38 t39 t40 t41 t42 t43 t44 t45 : Value), Q .normal ⟨#[u0, u1, u2, .pointer (some ⟨g3, 0, none⟩), u4, u5, u6, .pointer (some ⟨g7, 0, none⟩), u8, u9, u10, u11, u12, u13, u14, t15, t16, t17, t18, t19, t20, t21, t22, t23, t24, t25, t26, t27, t28, t29, t30, t31, t32, t33, t34, t35, t36, t37, t38, t39, t40, t41, t42, t43, t44, t45, .bool (mvB x y), u47, u48, u49, u50, u51, u52, u53, u54, u55, u56, u57, u58, u59, u60, u61], []⟩ V) :
    (Code.region 5 ops false).wp Tryd.prog Q ⟨#[u0, u1, u2, .pointer (some ⟨g3, 0, none⟩), u4, u5, u6, .pointer (some ⟨g7, 0, none⟩), u8, u9, u10, u11, u12, u13, u14, u15, u16, u17, u18, u19, u20, u21, u22, u23, u24, u25, u26, u27, u28, u29, u30, u31, u32, u33, u34, u35, u36, u37, u38, u39, u40, u41, u42, u43, u44, u45, u46, u47, u48, u49, u50, u51, u52, u53, u54, u55, u56, u57, u58, u59, u60, u61], []⟩ V := by
  simp only [Tryd.f39, Option.bind_some, regAt] at hops
  simp at hops
  subst hops
  have HQ := Lib.hid hQ
  clear hQ
  obtain ⟨a0, a1, a2, a3, a4, a5, a6, a7, a8, a9, a10, a11⟩ := box12 h3
  obtain ⟨b0, b1, b2, b3, b4, b5, b6, b7, b8, b9, b10, b11⟩ := box12 h7
  have HE : Hid (mvB x y = ((decide (x.act = 5) && decide (y.act = 4) && decide (y.frm = x.path)) || (decide (x.act = 4) && decide (y.act = 5) && decide (y.path = x.frm)))) := Lib.hid rfl
  by_cases c5 : x.act = 5
  · have q5 : (x.act == 5) = true := by simpa using c5
    have q4 : (x.act == 4) = false := by rw [c5]; rfl
    by_cases y4 : y.act = 4
    · have r4 : (y.act == 4) = true := by simpa using y4
      have sq := str_eqB y.frm x.path
      by_cases yp : y.frm = x.path
      · rw [decide_eq_true yp] at sq
        have e : mvB x y = true := by rw [HE.out]; simp [c5, y4, yp]
        rw [e] at HQ
        clear c5 y4 yp e
        go_wp2_with fail
        exact HQ.out ..
      · rw [decide_eq_false yp] at sq
        have e : mvB x y = false := by rw [HE.out]; simp [c5, y4, yp]
        rw [e] at HQ
        clear c5 y4 yp e
        go_wp2_with fail
        exact HQ.out ..
    · have r4 : (y.act == 4) = false := by simpa using y4
      have e : mvB x y = false := by rw [HE.out]; simp [c5, y4]
      rw [e] at HQ
      clear c5 y4 e
      go_wp2_with fail
      exact HQ.out ..
  · have q5 : (x.act == 5) = false := by simpa using c5
    by_cases c4 : x.act = 4
    · have q4 : (x.act == 4) = true := by simpa using c4
      by_cases y5 : y.act = 5
      · have r5 : (y.act == 5) = true := by simpa using y5
        have sq := str_eqB y.path x.frm
        by_cases yp : y.path = x.frm
        · rw [decide_eq_true yp] at sq
          have e : mvB x y = true := by rw [HE.out]; simp [c5, c4, y5, yp]
          rw [e] at HQ
          clear c5 c4 y5 yp e
          go_wp2_with fail
          exact HQ.out ..
        · rw [decide_eq_false yp] at sq
          have e : mvB x y = false := by rw [HE.out]; simp [c5, c4, y5, yp]
          rw [e] at HQ
          clear c5 c4 y5 yp e
          go_wp2_with fail
          exact HQ.out ..
      · have r5 : (y.act == 5) = false := by simpa using y5
        have e : mvB x y = false := by rw [HE.out]; simp [c5, c4, y5]
        rw [e] at HQ
        clear c5 c4 y5 e
        go_wp2_with fail
        exact HQ.out ..
    · have q4 : (x.act == 4) = false := by simpa using c4
      have e : mvB x y = false := by rw [HE.out]; simp [c5, c4]
      rw [e] at HQ
      clear c5 c4 e
      go_wp2_with fail
      exact HQ.out ..
theorem movedN_next (es : List Edt) (x : Edt) (k : Nat) (h : k < es.length) : movedN (es.take (k + 1)) x = movedN (es.take k) x + (if mvB x es[k] then 1 else 0) := by
  unfold movedN
  rw [List.take_succ_eq_append_getElem h, List.countP_append, List.countP_cons, List.countP_nil, Nat.zero_add]
  rfl
theorem movedN_le (es : List Edt) (x : Edt) (k : Nat) : movedN (es.take k) x ≤ k := by
  unfold movedN
  have := List.countP_le_length (p := fun y : Edt => (decide (x.act = 5) && decide (y.act = 4) && decide (y.frm = x.path)) || (decide (x.act = 4) && decide (y.act = 5) && decide (y.path = x.frm))) (l := es.take k)
  rw [List.length_take] at this
  omega
set_option maxRecDepth 100000 in
set_option maxHeartbeats 4000000 in
theorem refMoved_any (es : List Edt) (num : Int) (cl tx : ByteArray) (Ae Ac : Option Addr) (nc ce cc : Nat) (x : Edt) (w : World) (hE : Edts w (.slice Ae es.length ce) es) (hl : es.length ≤ 100000) :
    Calls Tryd.prog 39 #[.agg #[.int .i64 num, .string cl, .string tx, .slice Ae es.length ce, .slice Ac nc cc], .agg #[.string x.path, .int .i64 x.act, .int .i64 x.ty.base, .bool x.ty.k, .bool x.ty.l, .bool x.ty.x, .int .u64 x.sum, .int .i64 x.size, .int .i64 x.base, .string x.frm, .int .i64 x.fnum, .int .i64 x.fence]] w fun e w' => e = .returned (.bool (movedB es x)) ∧ Below w.heap.size w w' := by
  have HE := Lib.hid hE
  clear hE
  have hb0 : Below w.heap.size w ((w.alloc (.cells #[.int .i64 num, .string cl, .string tx, .slice Ae es.length ce, .slice Ac nc cc] 42)).alloc (.cells #[.string x.path, .int .i64 x.act, .int .i64 x.ty.base, .bool x.ty.k, .bool x.ty.l, .bool x.ty.x, .int .u64 x.sum, .int .i64 x.size, .int .i64 x.base, .string x.frm, .int .i64 x.fnum, .int .i64 x.fence] 39)) := ((Below.refl _ _).alloc (Nat.le_refl _) _).alloc (by simp) _
  have hV : Blk ((w.alloc (.cells #[.int .i64 num, .string cl, .string tx, .slice Ae es.length ce, .slice Ac nc cc] 42)).alloc (.cells #[.string x.path, .int .i64 x.act, .int .i64 x.ty.base, .bool x.ty.k, .bool x.ty.l, .bool x.ty.x, .int .u64 x.sum, .int .i64 x.size, .int .i64 x.base, .string x.frm, .int .i64 x.fnum, .int .i64 x.fence] 39)) (w.heap.size + 1) 39 [.string x.path, .int .i64 x.act, .int .i64 x.ty.base, .bool x.ty.k, .bool x.ty.l, .bool x.ty.x, .int .u64 x.sum, .int .i64 x.size, .int .i64 x.base, .string x.frm, .int .i64 x.fnum, .int .i64 x.fence] := by
    have h1 := blk_new (w.alloc (.cells #[.int .i64 num, .string cl, .string tx, .slice Ae es.length ce, .slice Ac nc cc] 42)) [.string x.path, .int .i64 x.act, .int .i64 x.ty.base, .bool x.ty.k, .bool x.ty.l, .bool x.ty.x, .int .u64 x.sum, .int .i64 x.size, .int .i64 x.base, .string x.frm, .int .i64 x.fnum, .int .i64 x.fence] 39
    simp only [World.size_alloc] at h1
    exact h1
  have hB : Blk ((w.alloc (.cells #[.int .i64 num, .string cl, .string tx, .slice Ae es.length ce, .slice Ac nc cc] 42)).alloc (.cells #[.string x.path, .int .i64 x.act, .int .i64 x.ty.base, .bool x.ty.k, .bool x.ty.l, .bool x.ty.x, .int .u64 x.sum, .int .i64 x.size, .int .i64 x.base, .string x.frm, .int .i64 x.fnum, .int .i64 x.fence] 39)) w.heap.size 42 [.int .i64 num, .string cl, .string tx, .slice Ae es.length ce, .slice Ac nc cc] := (blk_new w _ _).alloc _
  go_enter Tryd.func39, Tryd.ntmps39
  go_upto_region 1 with fail
  generalize (w.alloc (.cells #[.int .i64 num, .string cl, .string tx, .slice Ae es.length ce, .slice Ac nc cc] 42)).alloc (.cells #[.string x.path, .int .i64 x.act, .int .i64 x.ty.base, .bool x.ty.k, .bool x.ty.l, .bool x.ty.x, .int .u64 x.sum, .int .i64 x.size, .int .i64 x.base, .string x.frm, .int .i64 x.fnum, .int .i64 x.fence] 39) = W1 at hb0 hV hB ⊢
  obtain ⟨d0, d1, d2, d3, d4⟩ := box5 hB
  have HV := Lib.hid hV
  have Hb0 := Lib.hid hb0
  clear hb0 hV hB
  go_wp2_with fail
  clear d0 d1 d2 d3 d4
  go_loopw [5, 11] (fun n s wr => ∃ k : Nat, s = .int .i64 k ∧ n = .int .i64 (movedN (es.take k) x) ∧ k ≤ es.length ∧ Hid (Below W1.heap.size W1 wr)) (fun _ s _ => es.length - (intOf s).toNat)
  case atStart => exact ⟨0, rfl, by rw [List.take_zero]; rfl, Nat.zero_le _, Below.refl _ _⟩
  case round =>
    obtain ⟨k, rfl, rfl, hk, HI⟩ := hrel
    by_cases hlt : k < es.length
    · obtain ⟨ad, rfl, hab, hld⟩ := Edts.at_ (HE.out.below (below_next Hb0.out HI.out)) hlt
      have HN := Lib.hid (movedN_next es x k hlt)
      have hle := movedN_le es x k
      generalize es[k] = y at hld HN
      obtain ⟨x0, x1, x2, x3, x4, x5, x6, x7, x8, x9, x10, x11⟩ := hld
      have hY := blk_new wr [.string y.path, .int .i64 y.act, .int .i64 y.ty.base, .bool y.ty.k, .bool y.ty.l, .bool y.ty.x, .int .u64 y.sum, .int .i64 y.size, .int .i64 y.base, .string y.frm, .int .i64 y.fnum, .int .i64 y.fence] 39
      have hA1 := HI.out.alloc HI.out.size (.cells #[.string y.path, .int .i64 y.act, .int .i64 y.ty.base, .bool y.ty.k, .bool y.ty.l, .bool y.ty.x, .int .u64 y.sum, .int .i64 y.size, .int .i64 y.base, .string y.frm, .int .i64 y.fnum, .int .i64 y.fence] 39)
      go_upto_region 5 with fail
      clear x0 x1 x2 x3 x4 x5 x6 x7 x8 x9 x10 x11
      generalize wr.alloc (.cells #[.string y.path, .int .i64 y.act, .int .i64 y.ty.base, .bool y.ty.k, .bool y.ty.l, .bool y.ty.x, .int .u64 y.sum, .int .i64 y.size, .int .i64 y.base, .string y.frm, .int .i64 y.fnum, .int .i64 y.fence] 39) = V1 at hY hA1 ⊢
      generalize wr.heap.size = g7 at hY ⊢
      have HA1 := Lib.hid hA1
      have HY := Lib.hid hY
      clear hY hA1
      refine movedR5 _ (by kernel_rfl) _ (w.heap.size + 1) g7 x y V1 (HV.out.below HA1.out HV.out.lt) HY.out _ _ _ _ _ _ _ _ _ _ _ _ _ _ _ _ _ _ _ _ _ _ _ _ _ _ _ _ _ _ _ _ _ _ _ _ _ _ _ _ _ _ _ _ _ _ _ _ _ _ _ _ _ _ _ _ _ _ _ _ ?_
      intro t15 t16 t17 t18 t19 t20 t21 t22 t23 t24 t25 t26 t27 t28 t29 t30 t31 t32 t33 t34 t35 t36 t37 t38 t39 t40 t41 t42 t43 t44 t45
      cases hm : mvB x y
      · rw [hm] at HN
        clear hm
        go_wp2_with fail
        go_roundw
        case rel => exact ⟨k + 1, by go_num, by rw [HN.out]; simp, by omega, HA1.out⟩
        case measure => simp [intOf]; omega
      · rw [hm] at HN
        clear hm
        go_wp2_with fail
        go_roundw
        case rel => exact ⟨k + 1, by go_num, by rw [HN.out]; simp, by omega, HA1.out⟩
        case measure => simp [intOf]; omega
    · have hke : k = es.length := by omega
      subst hke
      obtain ⟨a0, a1, a2, a3, a4, a5, a6, a7, a8, a9, a10, a11⟩ := box12 (HV.out.below HI.out HV.out.lt)
      have HMB : Hid (movedB es x = (decide (movedN es x = 1) || (decide (x.act ≠ 5) && decide (x.act ≠ 4)))) := Lib.hid rfl
      have HB := Lib.hid (below_next Hb0.out HI.out)
      rw [List.take_length]
      generalize movedN es x = m at HMB ⊢
      by_cases h1 : m = 1
      · have HV : Hid (movedB es x = true) := Lib.hid (by rw [HMB.out]; simp [h1])
        subst h1
        go_wp2_with fail
        go_ret
        exact ⟨ret_bool HV.out.symm, HB.out⟩
      · have q1 : ((m : Int) == 1) = false := by simp; omega
        by_cases h5 : x.act = 5
        · have q5 : (x.act != 5) = false := by simpa using h5
          have HV : Hid (movedB es x = false) := Lib.hid (by rw [HMB.out]; simp [h1, h5])
          clear h1 h5
          go_wp2_with fail
          go_ret
          exact ⟨ret_bool HV.out.symm, HB.out⟩
        · have q5 : (x.act != 5) = true := by simpa using h5
          by_cases h4 : x.act = 4
          · have q4 : (x.act != 4) = false := by simpa using h4
            have HV : Hid (movedB es x = false) := Lib.hid (by rw [HMB.out]; simp [h1, h5, h4])
            clear h1 h5 h4
            go_wp2_with fail
            go_ret
            exact ⟨ret_bool HV.out.symm, HB.out⟩
          · have q4 : (x.act != 4) = true := by simpa using h4
            have HV : Hid (movedB es x = true) := Lib.hid (by rw [HMB.out]; simp [h1, h5, h4])
            clear h1 h5 h4
            go_wp2_with fail
            go_ret
            exact ⟨ret_bool HV.out.symm, HB.out⟩
end Go.Proofs.YtnblfaagchflaaaDoor
/- The reference's Sorted: the walk. -/
namespace Go.Proofs.YtnblfaagchflaaaDoor
open Go.RowKit Go.Lib
open Go.Sort hiding Below
set_option linter.unusedVariables false
set_option linter.unusedSimpArgs false

/-- A record whose paths are paths, of a length that the reference's order takes. -/
def Rcd.fine (r : Rcd) : Prop := r.val_ ∧ r.frm.size ≤ 2000000 ∧ r.to.size ≤ 2000000
abbrev FnRcd := { r : Rcd // r.fine }
instance : Inhabited FnRcd := ⟨⟨⟨somePath, 0, 0, somePath, 0, 0⟩, ⟨somePath_ok, somePath_ok⟩, by unfold somePath; decide, by unfold somePath; decide⟩⟩
def FnRcd.enc (r : FnRcd) : List Value := r.1.cells
def FnRcd.cmp (a b : FnRcd) : Int := cmpR a.1 b.1
theorem fnRcd_tot : TotC FnRcd.cmp := TotC.or (totP (f := fun r : FnRcd => r.1.to) fun r => r.2.1.2) (TotC.or (totI (f := fun r : FnRcd => r.1.num)) (TotC.or (totP (f := fun r : FnRcd => r.1.frm) fun r => r.2.1.1) (totI (f := fun r : FnRcd => r.1.first))))
theorem fnRcd_len (x : FnRcd) : x.enc.length = 6 := rfl
theorem fnRcd_one (x : FnRcd) : ∀ v ∈ x.enc, v.oneCell' = true := by
  intro v hv
  simp only [FnRcd.enc, Rcd.cells, List.mem_cons, List.not_mem_nil, or_false] at hv
  rcases hv with rfl | rfl | rfl | rfl | rfl | rfl <;> rfl
theorem before_at (x y : FnRcd) (W : World) (he : Env W) (d : Nat) (os : Array Obj) :
    Calls Tryd.prog 41 #[.agg x.enc.toArray, .agg y.enc.toArray] (grow (redrawn W d) os) fun e w'' => e = .returned (.bool (decide (FnRcd.cmp x y < 0))) ∧ ∃ p : Regrown, w'' = grow (redrawn W p.d) p.os :=
  Calls.regrown_of ((refBefore_any x.1 y.1 _ (he.below (below_regrown W d os)) x.2.2.2 y.2.2.2 x.2.2.1 y.2.2.1).mono fun e w' ⟨v, h1, h2, h3⟩ => ⟨by rw [h1, h3 x.2.1 y.2.1]; rfl, h2⟩)

theorem env_sb {w0 W : World} {blk off C : Nat} {d : Array FnRcd} (h : SB FnRcd.enc 6 50 w0 blk off C d W) (he : Env w0) (hb : 0 < blk) : Env W := by
  obtain ⟨m, hm⟩ := he
  refine ⟨m, ?_⟩
  rw [← hm]
  exact World.cell?_of_block (h.gr.block _ (cell_lt hm) (fun e => by injection e with e; have e' : 0 = blk := e; omega))

section
variable {P : Program} {α : Type} [Inhabited α]
set_option maxHeartbeats 4000000 in
set_option maxRecDepth 100000 in
theorem sorted_over {k : Nat} (L : SFacts P 23 50 67 k) (F : P.funcs[26]? = some Tryd.f26)
    (enc : α → List Value) (hk : ∀ x, (enc x).length = k) (h1 : ∀ x, ∀ v ∈ enc x, v.oneCell' = true) (cf : α → α → Int) (w0 W : World) (blk off C cap : Nat) (d : Array α) (h : SB enc k 50 w0 blk off C d W)
    (hC : ∀ dd X, SB enc k 50 w0 blk off C dd X → ∀ x y q os, Calls P 41 #[.agg (enc x).toArray, .agg (enc y).toArray] (grow (redrawn X q) os) fun e w'' => e = .returned (.bool (decide (cf x y < 0))) ∧ ∃ p : Regrown, w'' = grow (redrawn X p.d) p.os)
    (eg : ∀ args w, (callFunc 41 args).run P w = .ok (.enter 41 args) w) (hsz : d.size ≤ 100000) :
    Calls P 26 #[.slice (some ⟨blk, off, none⟩) d.size cap] W fun e w' => e = .returned (.slice (some ⟨blk, off, none⟩) d.size cap) ∧ SB enc k 50 w0 blk off C (insOuter (ltOf cf) 0 d.size 0 d) w' := by
  have mixed := L.mixed; have t0 := L.t0; have a0 := L.a0; have z0 := L.z0; have ti := L.ti; have ai := L.ai; have zi := L.zi; have vi := L.vi; have tb := L.tb; have ab := L.ab; have zb := L.zb; have tu := L.tu; have au := L.au; have zu := L.zu; have tS := L.tS; have aS := L.aS; have zS := L.zS; have aE := L.aE; have zE := L.zE; have tF := L.tF; have aF := L.aF; have zF := L.zF
  have HS := Lib.hid h
  have HK := Lib.hid hk
  have H1 := Lib.hid h1
  have HCC := Lib.hid hC
  clear h hk h1 hC
  go_enter F, Tryd.ntmps26
  go_wp2
  go_loopw [7] (fun s wr => ∃ (i : Nat) (dk : Array α), s = .int .i64 i ∧ i ≤ d.size ∧ dk.size = d.size ∧ Hid (insOuter (ltOf cf) 0 d.size i dk = insOuter (ltOf cf) 0 d.size 0 d ∧ SB enc k 50 w0 blk off C dk wr)) (fun s _ => d.size - (intOf s).toNat)
  case atStart => exact ⟨0, d, rfl, Nat.zero_le _, rfl, rfl, HS.out⟩
  case round =>
    obtain ⟨i, dk, rfl, hib, hsk, HO⟩ := hrel
    by_cases hlt : i < d.size
    · have hltz : (i : Int) < (d.size : Int) := by omega
      go_wp2
      go_loopw [4] (fun s wr => ∃ (j : Nat) (dj : Array α), s = .int .i64 j ∧ j ≤ i ∧ dj.size = d.size ∧ Hid (insInner (ltOf cf) 0 j dj = insInner (ltOf cf) 0 i dk ∧ SB enc k 50 w0 blk off C dj wr)) (fun s _ => (intOf s).toNat)
      case atStart => exact ⟨i, dk, rfl, Nat.le_refl _, hsk, rfl, HO.out.2⟩
      case round =>
        obtain ⟨j, dj, rfl, hji, hsj, HI⟩ := hrel
        have OUT : Hid ((j ≤ 0 ∨ ltOf cf dj[j]! dj[j - 1]! = false) → insOuter (ltOf cf) 0 d.size (i + 1) dj = insOuter (ltOf cf) 0 d.size 0 d) := fun hs => by
          rw [← HO.out.1, insOuter_go _ _ _ _ _ hlt, ← HI.out.1, insInner_stop _ _ _ _ hs]
        by_cases hja : 0 < j
        · obtain ⟨jp, rfl⟩ : ∃ jp, j = jp + 1 := ⟨j - 1, by omega⟩
          have hjaz' : (0 : Int) < (jp : Int) + 1 := by omega
          have dja : decide ((0 : Int) < (jp : Int) + 1) = true := decide_eq_true (by omega)
          have hwp : IntKind.i64.wrap (jp : Int) = (jp : Int) := by rw [IntKind.wrap_i64]; omega
          have jz : (jp : Int) + 1 < (d.size : Int) := by omega
          have jz1 : (jp : Int) < (d.size : Int) := by omega
          have p0 : (0 : Int) ≤ (jp : Int) + 1 := by omega
          have e0 : ((jp : Int) + 1).toNat = jp + 1 := by omega
          have lj := HI.out.2.lds HK.out P (i := jp + 1) (by omega)
          have lp := HI.out.2.lds HK.out P (i := jp) (by omega)
          obtain ⟨xj, hxj⟩ : ∃ x, dj[jp + 1]! = x := ⟨_, rfl⟩
          obtain ⟨xp, hxp⟩ : ∃ x, dj[jp]! = x := ⟨_, rfl⟩
          rw [hxj] at lj
          rw [hxp] at lp
          have HCG := Lib.hid (HCC.out _ _ HI.out.2 xj xp)
          have HXJ := Lib.hid hxj
          have HXP := Lib.hid hxp
          clear hxj hxp
          by_cases hlv : cf xj xp < 0
          · have dlv : decide (cf xj xp < 0) = true := by simp; omega
            go_wp2_with fail
            refine wp_region_quiet_below (by assumption) (by kernel_rfl) ?_
            repeat (first | go_big_quiet_step (exact HCG.out _ _) | quiet_step (exact HCG.out _ _))
            refine wpQuiet_nil ?_
            intro _ hw'
            obtain ⟨⟨dq, osq⟩, hw''⟩ := hw'
            subst hw''
            have hB5 := HI.out.2.below (below_regrown wr dq osq)
            clear lj lp
            generalize grow (redrawn wr dq) osq = W5 at hB5 ⊢
            have hB6 := hB5.drew
            have lj := hB6.load HK.out P (i := jp + 1) (by omega)
            have lp := hB6.load HK.out P (i := jp) (by omega)
            have s1 := hB6.st1 HK.out H1.out P (i := jp + 1) (by omega) dj[jp]!
            have s2 := hB6.st2 HK.out H1.out P (i := jp + 1) (j := jp) (by omega) (by omega) dj[jp]! dj[jp + 1]!
            have HN : Hid _ := hB6.swap HK.out (i := jp + 1) (j := jp) (by omega) (by omega)
            have q1 : (enc dj[jp + 1]!).length = k := HK.out _
            have q2 : (enc dj[jp]!).length = k := HK.out _
            clear hB6 hB5
            generalize enc dj[jp + 1]! = cj at lj lp s1 s2 HN q1 q2
            generalize enc dj[jp]! = cp at lj lp s1 s2 HN q1 q2
            go_wp2_with fail
            go_big_region_o
            all_goals go_wp2
            go_roundw
            case rel =>
              refine ⟨jp, swp dj (jp + 1) jp, by first | rfl | go_num | (congr 1; omega), by omega, by rw [size_swp]; exact hsj, ?_, HN.out⟩
              have := insInner_go (ltOf cf) 0 (jp + 1) dj hja (by simp only [Nat.add_sub_cancel]; rw [HXJ.out, HXP.out]; exact dlv)
              simp only [Nat.add_sub_cancel] at this
              rw [← HI.out.1, this]
            case measure => simp [intOf]
          · have dlv : decide (cf xj xp < 0) = false := by simp; omega
            go_wp2_with fail
            refine wp_region_quiet_below (by assumption) (by kernel_rfl) ?_
            repeat (first | go_big_quiet_step (exact HCG.out _ _) | quiet_step (exact HCG.out _ _))
            refine wpQuiet_nil ?_
            intro _ hw'
            obtain ⟨⟨dq, osq⟩, hw''⟩ := hw'
            subst hw''
            have HB5 := Lib.hid (HI.out.2.below (below_regrown wr dq osq))
            generalize grow (redrawn wr dq) osq = W5 at HB5 ⊢
            go_wp2
            go_roundw
            case rel => exact ⟨i + 1, dj, by go_num, by omega, hsj, OUT.out (Or.inr (by simp only [Nat.add_sub_cancel]; rw [HXJ.out, HXP.out]; exact dlv)), HB5.out⟩
            case measure => simp [intOf]; omega
        · have hj0 : j = 0 := by omega
          subst hj0
          have HB5 := Lib.hid HI.out.2.drew
          go_wp2_with fail
          go_big_region_o
          all_goals go_wp2
          go_roundw
          case rel => exact ⟨i + 1, dj, by go_num, by omega, hsj, OUT.out (Or.inl (Nat.le_refl _)), HB5.out⟩
          case measure => simp [intOf]; omega
    · have hltz : ¬ (i : Int) < (d.size : Int) := by omega
      go_wp2
      go_ret
      exact ⟨rfl, by rw [← HO.out.1, insOuter_stop _ _ _ _ _ hlt]; exact HO.out.2⟩
end

/-- What Sorted leaves: its own row, in order. -/
def SortedPost (w : World) (base : Nat) (v : Value) (l : List FnRcd) (e : Ending) (w' : World) : Prop :=
  e = .returned v ∧ ∃ l' : List FnRcd, l'.Perm l ∧ l'.Pairwise (fun a b => ¬ FnRcd.cmp b a < 0) ∧ w'.ownsRow base 50 6 v l.length (l'.flatMap FnRcd.enc) ∧ w.grownBy w' v.ownBlock
set_option maxHeartbeats 1000000 in
theorem refSorted_any (l : List FnRcd) (v : Value) (base : Nat) (w : World) (he : Env w) (hg : 0 < base) (hown : w.ownsRow base 50 6 v l.length (l.flatMap FnRcd.enc)) (hl : l.length ≤ 100000) :
    Calls Tryd.prog 26 #[v] w (SortedPost w base v l) := by
  by_cases h0 : l.length = 0
  · have hl0 : l = [] := List.eq_nil_of_length_eq_zero h0
    subst hl0
    have hv : ∃ A c, v = .slice A 0 c := by
      rcases hown.2 with ⟨rfl, -⟩ | ⟨g, cap, cur, rfl, -⟩
      · exact ⟨_, _, rfl⟩
      · exact ⟨_, _, rfl⟩
    obtain ⟨A, c, rfl⟩ := hv
    have HO := Lib.hid hown
    clear hown he
    go_enter Tryd.func26, Tryd.ntmps26
    go_wp2
    refine wp_loop_rounds 1 ?_
    rw [rounds_succ]
    go_wp2
    go_ret
    exact ⟨rfl, [], List.Perm.refl _, List.Pairwise.nil, HO.out, ⟨rfl, rfl, rfl, Nat.le_refl _, fun _ _ _ => rfl⟩⟩
  · have hd : l.toArray.size = l.length := by simp
    obtain ⟨g, cap, rfl, hb, h3, h4, hSB⟩ := own_sb (d := l.toArray) fnRcd_len (by rw [hd]; omega) (by rw [hd]; exact hown)
    rw [hd] at h3 ⊢
    have hX := sorted_over rcdFacts Tryd.func26 FnRcd.enc fnRcd_len fnRcd_one FnRcd.cmp w w g 0 (cap * 6) cap l.toArray hSB
      (fun dd X hh x y q os => before_at x y X (env_sb hh he (by omega)) q os) (enters_of Tryd.func41 (by kernel_rfl) rfl) (by omega)
    rw [hd] at hX
    refine hX.mono ?_
    rintro e w' ⟨rfl, k3⟩
    by_cases hn : 0 < l.length
    case neg => omega
    have hio : insOuter (ltOf FnRcd.cmp) 0 l.length 0 l.toArray = Sort.insertionSort (ltOf FnRcd.cmp) l.toArray 0 l.length := by
      unfold Sort.insertionSort
      rw [insOuter_go _ _ _ _ _ hn, insInner_stop _ _ _ _ (Or.inl (Nat.le_refl _))]
    rw [hio] at k3
    obtain ⟨k1, k2⟩ := insertionSort_holds (lt := ltOf FnRcd.cmp) fnRcd_tot.swo l.toArray 0 l.length (Nat.zero_le _) (by omega)
    generalize Sort.insertionSort (ltOf FnRcd.cmp) l.toArray 0 l.length = d' at k1 k2 k3
    have hs : d'.size = l.length := by rw [k1.1, hd]
    refine ⟨rfl, d'.toList, ?_, ?_, ?_, ?_⟩
    · have := k1.2.2
      rw [← hs, Array.extract_size, hs] at this
      rw [← hd, Array.extract_size] at this
      simpa using this
    · rw [List.pairwise_iff_getElem]
      intro i j hi hj hij
      have hi' : i < d'.size := by simpa using hi
      have hj' : j < d'.size := by simpa using hj
      have := k2 i j (Nat.zero_le _) hij (by omega)
      rw [getElem!_pos d' j hj', getElem!_pos d' i hi'] at this
      simpa [ltOf] using this
    · have := sb_own fnRcd_len hb (by rw [hs]; exact h3) h4 k3
      rw [hs] at this
      exact this
    · exact k3.gr
end Go.Proofs.YtnblfaagchflaaaDoor
