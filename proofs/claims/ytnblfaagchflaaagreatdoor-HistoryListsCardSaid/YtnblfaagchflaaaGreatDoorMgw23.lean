/- slices.SortFunc at revisions, by their paths (the comparison of history.List). -/
import Derived.Test.YtnblfaagchflaaaGreatDoorMgw10
import Derived.Test.YtnblfaagchflaaaGreatDoorMgw6
import Derived.Test.YtnblfaagchflaaaGreatDoorMgw16
namespace Go.Proofs.YtnblfaagchflaaaGreatDoor
open Go.RowKit Go.Lib
open Go.Sort hiding Below
set_option linter.unusedVariables false
set_option linter.unusedSimpArgs false

section
variable {α : Type} [Inhabited α] {enc : α → List Value} {k : Nat} {e : TypeId} {w0 w : World} {g off C : Nat} {d d' : Array α}
theorem size_putCellsV (f : Value → Value) (o : Nat) (F c : Array Value) : (putCells f o F c).size = c.size := by unfold putCells; exact Array.size_mapIdx
/-- The world that a sort leaves. -/
theorem SB.sorted (h : SB enc k e w0 g off C d w) (n : Nat) (os : Array Obj) (hs : d'.size = d.size) : SB enc k e w0 g off C d' (sortWorldK enc k w g off n d' os) := by
  have hl := h.lt
  have hblk : ∀ j, j < w.heap.size → (sortWorldK enc k w g off n d' os).heap[j]? = (w.heap.modify g (onCells (putCells id off (flatK enc k d'))))[j]? := by
    intro j hj
    show ((w.heap.modify g (onCells (putCells id off (flatK enc k d')))) ++ os)[j]? = _
    rw [Array.getElem?_append_left (by rw [Array.size_modify]; exact hj)]
  refine ⟨holdsK_sortWorldK_c enc k w g off d d' n os h.hold hl hs, ?_, ?_⟩
  · obtain ⟨cur, h1, h2⟩ := h.own
    refine ⟨putCells id off (flatK enc k d') cur, ?_, by rw [size_putCellsV]; exact h2⟩
    rw [hblk g hl, Array.getElem?_modify, if_pos rfl, h1]
    rfl
  · refine ⟨h.gr.os, h.gr.tape, h.gr.output, Nat.le_trans h.gr.size (size_sortWorldK_c enc k w g off n d' os), fun j hj hne => ?_⟩
    have hne' : ¬ g = j := fun e => hne (by rw [e])
    rw [hblk j (Nat.lt_of_lt_of_le hj h.gr.size), Array.getElem?_modify, if_neg hne']
    exact h.gr.block j hj hne
end
abbrev VRev := { r : Rev // validS r.path = true ∧ r.path.size ≤ 1000000 }
instance : Inhabited VRev := ⟨⟨⟨somePath, 0, 0, 0, zeroTy, 0, 0, emptyS, 0⟩, somePath_ok, by unfold somePath; decide⟩⟩
def VRev.enc (x : VRev) : List Value := x.1.cells
def VRev.cmp (x y : VRev) : Int := cmpP x.1.path y.1.path
theorem vRev_tot : TotC VRev.cmp := totP (f := fun r : VRev => r.1.path) fun r => r.2.1
theorem vRev_len (x : VRev) : x.enc.length = 12 := rfl
theorem vRev_one (x : VRev) : ∀ v ∈ x.enc, v.oneCell' = true := by
  intro v hv
  simp only [VRev.enc, Rev.cells, List.mem_cons, List.not_mem_nil, or_false] at hv
  rcases hv with rfl | rfl | rfl | rfl | rfl | rfl | rfl | rfl | rfl | rfl | rfl | rfl <;> rfl
set_option maxRecDepth 100000 in
set_option maxHeartbeats 1000000 in
theorem list1_any (x y : Rev) (hx : x.path.size ≤ 1000000) (hy : y.path.size ≤ 1000000) (w : World) : Calls Tryz.prog 21 #[.agg #[.string x.path, .int .i64 x.num, .int .i64 x.chg, .int .i64 x.act, .int .i64 x.ty.base, .bool x.ty.k, .bool x.ty.l, .bool x.ty.x, .int .u64 x.sum, .int .i64 x.size, .string x.frm, .int .i64 x.fnum], .agg #[.string y.path, .int .i64 y.num, .int .i64 y.chg, .int .i64 y.act, .int .i64 y.ty.base, .bool y.ty.k, .bool y.ty.l, .bool y.ty.x, .int .u64 y.sum, .int .i64 y.size, .string y.frm, .int .i64 y.fnum]] w fun e w' => e = .returned (.int .i64 (cmpP x.path y.path)) ∧ ∃ q os', w' = grow (w.drewN q) os' := by
  have H := Lib.hid (fun X => comparePaths_any x.path y.path X (by omega) (by omega))
  go_enter Tryz.func21, Tryz.ntmps21
  go_wp2_with fail
  refine (H.out _).mono ?_
  rintro e w' ⟨rfl, n, rfl⟩
  go_wp2_with fail
  go_ret
  exact ⟨rfl, n, #[.cells #[.string x.path, .int .i64 x.num, .int .i64 x.chg, .int .i64 x.act, .int .i64 x.ty.base, .bool x.ty.k, .bool x.ty.l, .bool x.ty.x, .int .u64 x.sum, .int .i64 x.size, .string x.frm, .int .i64 x.fnum] 40] ++ #[.cells #[.string y.path, .int .i64 y.num, .int .i64 y.chg, .int .i64 y.act, .int .i64 y.ty.base, .bool y.ty.k, .bool y.ty.l, .bool y.ty.x, .int .u64 y.sum, .int .i64 y.size, .string y.frm, .int .i64 y.fnum] 40], by rw [alloc_eq_grow, alloc_eq_grow, grow_grow]; rfl⟩
theorem vRev_lays (blk off size : Nat) (w : World) : CmpLays Tryz.prog 21 #[] VRev.enc 12 VRev.cmp blk off size w :=
  fun _ _ _ _ x y => list1_any x.1 y.1 x.2.2 y.2.2 _
theorem vrevs_list : ∀ {l : List Rev}, (∀ r ∈ l, validS r.path = true ∧ r.path.size ≤ 1000000) → ∃ l' : List VRev, l'.map (·.1) = l
  | [], _ => ⟨[], rfl⟩
  | r :: l, h => by
    obtain ⟨l', rfl⟩ := vrevs_list fun x hx => h x (List.mem_cons_of_mem _ hx)
    exact ⟨⟨r, h r (List.mem_cons_self ..)⟩ :: l', rfl⟩
theorem vrev_enc (l : List VRev) : l.flatMap VRev.enc = (l.map (·.1)).flatMap Rev.cells := by
  rw [List.flatMap_map]; rfl
def PathPost (w : World) (base : Nat) (v : Value) (l : List Rev) (e : Ending) (w' : World) : Prop :=
  e = .returned (.tuple #[]) ∧ ∃ l' : List Rev, l'.Perm l ∧ l'.Pairwise (fun a b => ¬ cmpP b.path a.path < 0) ∧ w'.ownsRow base 40 12 v l.length (l'.flatMap Rev.cells) ∧ w.grownBy w' v.ownBlock
theorem sortPaths_any (l : List Rev) (v : Value) (base : Nat) (w : World) (hown : w.ownsRow base 40 12 v l.length (l.flatMap Rev.cells)) (hl : l.length ≤ 10000000) (hv : ∀ r ∈ l, validS r.path = true ∧ r.path.size ≤ 1000000) :
    Calls Tryz.prog 20 #[v, .func (.func 21) #[] #[]] w (PathPost w base v l) := by
  by_cases h0 : l.length = 0
  · have hl0 : l = [] := List.eq_nil_of_length_eq_zero h0
    subst hl0
    have hvv : ∃ A c, v = .slice A 0 c := by
      rcases hown.2 with ⟨rfl, -⟩ | ⟨g, cap, cur, rfl, -⟩
      · exact ⟨_, _, rfl⟩
      · exact ⟨_, _, rfl⟩
    obtain ⟨A, c, rfl⟩ := hvv
    have hc := AnyF.slices_SortFunc_none (P := Tryz.prog) (ρ := Tryz.sortRevs_ren) Tryz.sortRevs A c (.func (.func 21) #[] #[]) w
    change Calls Tryz.prog 20 _ _ _ at hc
    refine hc.mono ?_
    rintro e w' ⟨rfl, rfl⟩
    exact ⟨rfl, [], List.Perm.refl _, List.Pairwise.nil, hown, ⟨rfl, rfl, rfl, Nat.le_refl _, fun _ _ _ => rfl⟩⟩
  · obtain ⟨l', rfl⟩ := vrevs_list hv
    rw [List.length_map] at h0 hl
    rw [← vrev_enc] at hown
    have hd : l'.toArray.size = (l'.map (·.1)).length := by simp
    obtain ⟨g, cap, rfl, hb, h3, h4, hSB⟩ := own_sb (enc := VRev.enc) (d := l'.toArray) vRev_len (by simpa using Nat.pos_of_ne_zero h0) (by rw [hd]; exact hown)
    have eg : ∀ args w, (callFunc 21 args).run Tryz.prog w = .ok (.enter 21 args) w := enters_of Tryz.func21 (by kernel_rfl) rfl
    have hc := AnyQ.slices_SortFunc (P := Tryz.prog) (ρ := Tryz.sortRevs_ren) Tryz.sortRevs 12 Tryz.isAgg40 Tryz.sizeOf40 VRev.enc vRev_len vRev_one VRev.cmp vRev_tot.swo 21 #[] g 0 cap l'.toArray w eg (vRev_lays g 0 l'.toArray.size w) hSB.hold hSB.lt (by rw [hd, List.length_map]; omega)
    change Calls Tryz.prog 20 _ _ _ at hc
    refine hc.mono ?_
    rintro e w' ⟨rfl, d', n, os, hp, hs, rfl⟩
    have hsz : d'.size = l'.toArray.size := hp.1
    have hK := hSB.sorted n os hsz
    have e1 : (d'.toList.map (·.1)).length = (l'.map (·.1)).length := by rw [List.length_map, ← hd, ← hsz]; simp
    refine ⟨rfl, d'.toList.map (·.1), ?_, ?_, ?_, hK.gr⟩
    · refine List.Perm.map _ ?_
      have := hp.2.2
      rw [← hsz, Array.extract_size, hsz, Array.extract_size] at this
      simpa using this
    · rw [List.pairwise_map, List.pairwise_iff_getElem]
      intro i j hi hj hij
      have hi' : i < d'.size := by simpa using hi
      have hj' : j < d'.size := by simpa using hj
      have := hs i j (Nat.zero_le _) hij (by omega)
      rw [getElem!_pos d' j hj', getElem!_pos d' i hi'] at this
      have h2 : decide (cmpP d'[j].1.path d'[i].1.path < 0) = false := this
      have h3 := of_decide_eq_false h2
      simpa using h3
    · have := sb_own vRev_len hb (by rw [hsz]; exact h3) h4 hK
      rw [hsz, hd, vrev_enc] at this
      rw [hd]
      exact this
end Go.Proofs.YtnblfaagchflaaaGreatDoor
/- Region 24 of history.Valid: one more edit of the change that is made anew. -/
namespace Go.Proofs.YtnblfaagchflaaaGreatDoor
open Go.RowKit
set_option linter.unusedVariables false
set_option linter.unusedSimpArgs false

theorem edtElem : ElemOk Tryz.prog 51 55 12 96 := elemOk_of Tryz.underlying51 (z := zeroEdt.val) (by kernel_rfl) rfl (by decide)
/-- The change that Valid makes anew, in block gC, its edits a row of its own. -/
structure VE (V wx : World) (gC : Nat) (num : Int) (v1 : Value) (n : Nat) (xs : List Value) : Prop where
  bel : Below V.heap.size V wx
  le : V.heap.size ≤ gC
  box : Blk wx gC 53 [.int .i64 num, .string ⟨#[]⟩, .string ⟨#[]⟩, v1, .slice none 0 0]
  one : wx.ownsRow V.heap.size 55 12 v1 n xs
  ne1 : v1.ownBlock ≠ some gC
theorem VE.under {V wr X : World} {gC : Nat} {num : Int} {v1 : Value} {n : Nat} {xs : List Value} (h : VE V wr gC num v1 n xs) (hX : Below wr.heap.size wr X) : VE V X gC num v1 n xs :=
  ⟨below_next h.bel hX, h.le, h.box.below hX h.box.lt, own_below h.one hX, h.ne1⟩
theorem VE.push {V wr X w5 : World} {gC : Nat} {num : Int} {v1 v3 : Value} {n n' : Nat} {xs xs' : List Value} (h : VE V wr gC num v1 n xs) (hX : Below wr.heap.size wr X) (ho : w5.ownsRow V.heap.size 55 12 v3 n' xs') (hg : X.grownBy w5 v1.ownBlock) (hw : v3.ownBlock = v1.ownBlock ∨ v3.ownBlock = some X.heap.size) :
    VE V (w5.setCell ⟨gC, 3, none⟩ v3) gC num v3 n' xs' := by
  have l1 := h.one.lt
  have lb := h.box.lt
  have hs := hX.size
  have n3 : v3.ownBlock ≠ some gC := fun e => by
    rcases hw with hw | hw
    · exact h.ne1 (hw ▸ e)
    · rw [hw] at e; injection e with e; omega
  have b5 : Below V.heap.size V w5 := (below_next h.bel hX).grown hg (by have := h.bel.size; omega) (fun k e => (l1 k e).1)
  exact ⟨b5.setCell (p := ⟨gC, 3, none⟩) h.le _, h.le, ((h.box.below hX lb).grown hg (fun e => h.ne1 e.symm)).set_ 3 v3, own_setCell ho (p := ⟨gC, 3, none⟩) n3 _, n3⟩
theorem box5f {w : World} {g : Nat} {e : TypeId} {a b c d x : Value} (h : Blk w g e [a, b, c, d, x]) : w.cell? ⟨g, 3, none⟩ = some d ∧ w.frozen? ⟨g, 3, none⟩ = false := ⟨h.cell 3, h.frozen 3⟩

set_option maxRecDepth 100000 in
set_option maxHeartbeats 8000000 in
theorem region24 (ops : Array Oper) (hops : Tryz.f17.body.bind (regAt 24) = some ops) (Q : Exit → Act → World → Prop) (gD gC n k : Nat) (num : Int) (x : Edt) (v1 dv dr : Value) (xs : List Value) (V V1 : World)
    (hR : VE V V1 gC num v1 n xs) (hB : Blk V1 gD 31 [dv, dr]) (hsl : (∃ A m c, dv = .slice A m c) ∧ ∃ A m c, dr = .slice A m c) (hn : n ≤ 100000)
    (hrev : ∀ X, Below V1.heap.size V1 X → Calls Tryz.prog 45 #[.agg #[dv, dr], .int .i64 k] X fun e w' => e = .returned (.agg #[.string x.path, .int .i64 x.act, .int .i64 x.ty.base, .bool x.ty.k, .bool x.ty.l, .bool x.ty.x, .int .u64 x.sum, .int .i64 x.size, .int .i64 x.base, .string x.frm, .int .i64 x.fnum, .int .i64 x.fence]) ∧ Below X.heap.size X w')
    (u0 u2 u3 u4 u5 u6 u7 u8 u9 u10 u11 u14 u15 u16 u17 u18 u19 u20 u21 u22 u23 u24 u25 u26 u27 u28 u29 u30 u31 u32 u33 u34 u35 u36 u37 u38 u39 u40 u41 u42 u43 u44 u45 u46 u47 u48 u49 u50 u51 u52 u53 u54 u55 u56 u57 u58 u59 u60 u61 u62 u63 u64 u65 u66 u67 u68 u69 u70 u71 u72 u73 u74 u75 u76 u77 u78 u79 u80 u81 u82 u83 u84 u85 u86 u87 u88 u89 u90 u91 u92 u93 u94 u95 u96 u97 u98 u99 u100 u101 u102 u103 u104 u105 u106 u107 u108 u109 u110 u111 u112 u113 u114 u115 u116 u117 u118 u119 u120 u121 u122 u123 u124 u125 u126 u127 u128 u129 u130 u131 u132 u133 u134 u135 : Value)
    (hQ : ∀ (t102 t103 t104 t105 t106 t107 t108 t109 : Value) (v3 : Value) (w' : World), Hid (VE V w' gC num v3 (n + 1) (xs ++ [.string x.path, .int .i64 x.act, .int .i64 x.ty.base, .bool x.ty.k, .bool x.ty.l, .bool x.ty.x, .int .u64 x.sum, .int .i64 x.size, .int .i64 x.base, .string x.frm, .int .i64 x.fnum, .int .i64 x.fence])) → Q .normal ⟨#[u0, .pointer (some ⟨gD, 0, none⟩), u2, u3, u4, u5, u6, u7, u8, u9, u10, u11, .int .i64 k, .pointer (some ⟨gC, 0, none⟩), u14, u15, u16, u17, u18, u19, u20, u21, u22, u23, u24, u25, u26, u27, u28, u29, u30, u31, u32, u33, u34, u35, u36, u37, u38, u39, u40, u41, u42, u43, u44, u45, u46, u47, u48, u49, u50, u51, u52, u53, u54, u55, u56, u57, u58, u59, u60, u61, u62, u63, u64, u65, u66, u67, u68, u69, u70, u71, u72, u73, u74, u75, u76, u77, u78, u79, u80, u81, u82, u83, u84, u85, u86, u87, u88, u89, u90, u91, u92, u93, u94, u95, u96, u97, u98, u99, u100, u101, t102, t103, t104, t105, t106, t107, t108, t109, u110, u111, u112, u113, u114, u115, u116, u117, u118, u119, u120, u121, u122, u123, u124, u125, u126, u127, u128, u129, u130, u131, u132, u133, u134, u135], []⟩ w') :
    (Code.region 24 ops true).wp Tryz.prog Q ⟨#[u0, .pointer (some ⟨gD, 0, none⟩), u2, u3, u4, u5, u6, u7, u8, u9, u10, u11, .int .i64 k, .pointer (some ⟨gC, 0, none⟩), u14, u15, u16, u17, u18, u19, u20, u21, u22, u23, u24, u25, u26, u27, u28, u29, u30, u31, u32, u33, u34, u35, u36, u37, u38, u39, u40, u41, u42, u43, u44, u45, u46, u47, u48, u49, u50, u51, u52, u53, u54, u55, u56, u57, u58, u59, u60, u61, u62, u63, u64, u65, u66, u67, u68, u69, u70, u71, u72, u73, u74, u75, u76, u77, u78, u79, u80, u81, u82, u83, u84, u85, u86, u87, u88, u89, u90, u91, u92, u93, u94, u95, u96, u97, u98, u99, u100, u101, u102, u103, u104, u105, u106, u107, u108, u109, u110, u111, u112, u113, u114, u115, u116, u117, u118, u119, u120, u121, u122, u123, u124, u125, u126, u127, u128, u129, u130, u131, u132, u133, u134, u135], []⟩ V1 := by
  obtain ⟨⟨Av, mv, cv, rfl⟩, Ar, mr, cr, rfl⟩ := hsl
  simp only [Tryz.f17, Option.bind_some, regAt] at hops
  simp at hops
  subst hops
  obtain ⟨A1, c1, hv1⟩ := own_slice hR.one
  subst hv1
  have HQ := Lib.hid hQ
  have HR := Lib.hid hR
  have HB := Lib.hid hB
  have HRV2 := Lib.hid hrev
  clear hQ hR hB hrev
  have hf : ∀ w', Below V1.heap.size V1 w' → w'.cell? ⟨gC, 3, none⟩ = some (.slice A1 n c1) ∧ w'.cell? ⟨gD, 0, none⟩ = some (.slice Av mv cv) ∧ w'.cell? ⟨gD, 1, none⟩ = some (.slice Ar mr cr) := fun w' hb => ⟨(HR.out.box.below hb HR.out.box.lt).cell 3, (HB.out.below hb HB.out.lt).cell 0, (HB.out.below hb HB.out.lt).cell 1⟩
  have HF := Lib.hid hf
  clear hf
  obtain ⟨f0, f1, f2⟩ := HF.out V1 (Below.refl _ _)
  refine wp_region_noPanic ?_
  go_region_law (first
    | (refine step_app rfl rfl edtElem (own_below (own_below HR.out.one hS5) ((Below.refl _ _).alloc (Nat.le_refl _) _)) (by simp [Act.eval, Act.put]) (row_new w5 [.string x.path, .int .i64 x.act, .int .i64 x.ty.base, .bool x.ty.k, .bool x.ty.l, .bool x.ty.x, .int .u64 x.sum, .int .i64 x.size, .int .i64 x.base, .string x.frm, .int .i64 x.fnum, .int .i64 x.fence] _ 12 1 rfl (by decide) _ rfl) (by simp [Act.eval, Act.put]) (by simp [Value.oneCell']) (by omega) (by unfold maxLen; omega) (by have := hS5.size; have := HR.out.bel.size; simp; omega) ?_; intro A6 c6' w6 hO6 hG6 hw6; have hbx := (HR.out.box.below (below_next hS5 ((Below.refl _ _).alloc (Nat.le_refl _) _)) HR.out.box.lt).grown hG6 (fun e => HR.out.ne1 e.symm); obtain ⟨b0, g0⟩ := box5f hbx)
    | (go_simp; go_at_call 45; refine (HRV2.out _ (Below.refl _ _).drew).mono ?_; rintro e w5 ⟨rfl, hX5⟩; have hS5 : Below V1.heap.size V1 w5 := (Below.refl _ _).drew.trans hX5; obtain ⟨f5, f6, f7⟩ := HF.out w5 hS5; obtain ⟨f8, f9, f10⟩ := HF.out (w5.alloc (.cells #[.string x.path, .int .i64 x.act, .int .i64 x.ty.base, .bool x.ty.k, .bool x.ty.l, .bool x.ty.x, .int .u64 x.sum, .int .i64 x.size, .int .i64 x.base, .string x.frm, .int .i64 x.fnum, .int .i64 x.fence] 55)) (hS5.alloc hS5.size _)))
  all_goals exact NoPanic.normal (HQ.out _ _ _ _ _ _ _ _ _ _ (HR.out.push (below_next hS5 ((Below.refl _ _).alloc (Nat.le_refl _) _)) hO6 hG6 hw6))
end Go.Proofs.YtnblfaagchflaaaGreatDoor
