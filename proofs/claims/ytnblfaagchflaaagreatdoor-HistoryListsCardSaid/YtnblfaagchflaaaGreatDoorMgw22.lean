/- Plain: what history.List lists. -/
import Derived.Test.YtnblfaagchflaaaGreatDoorMgw12
import Derived.Test.YtnblfaagchflaaaGreatDoorMgw19
import Derived.Test.YtnblfaagchflaaaGreatDoorMgw14
import Derived.Test.YtnblfaagchflaaaGreatDoorMgw21
namespace Go.Proofs.YtnblfaagchflaaaGreatDoor
open Go.RowKit
set_option linter.unusedVariables false
set_option linter.unusedSimpArgs false

/-- The last revision of each path as of a change. -/
def lsM (m : Int) (f : ByteArray → Option Rev) (r : Rev) : ByteArray → Option Rev := if r.chg ≤ m ∧ ((f r.path).isSome = false ∨ (lastR f r.path).num < r.num) then upd f r.path r else f
def lsOf (D : List Rev) (m : Int) : ByteArray → Option Rev := D.foldl (lsM m) fun _ => none
def cntB (m : Int) (v : Rev) : Bool := decide (v.chg ≤ m)
theorem lsM_at (m : Int) (f : ByteArray → Option Rev) (r : Rev) (q : ByteArray) : lsM m f r q = gS q (cntB m) (f q) r := by
  unfold lsM gS cntB
  by_cases hp : r.path = q
  · subst hp
    by_cases hc : r.chg ≤ m
    · unfold lastR upd
      cases hf : f r.path with
      | none => simp [hc]
      | some b =>
        by_cases hn : b.num < r.num
        · simp [hc, hn]
        · simp [hc, hn, hf]
    · simp [hc]
  · have hq : ¬ q = r.path := fun e => hp e.symm
    simp only [hp, false_and, if_false]
    split
    · unfold upd; rw [if_neg hq]
    · rfl
theorem lsFold_at (m : Int) (q : ByteArray) : ∀ (D : List Rev) (f : ByteArray → Option Rev), (D.foldl (lsM m) f) q = D.foldl (gS q (cntB m)) (f q)
  | [], _ => rfl
  | r :: D, f => by rw [List.foldl_cons, List.foldl_cons, lsFold_at m q D, lsM_at]
theorem lsOf_eq (D : List Rev) (m : Int) (q : ByteArray) : lsOf D m q = greatest D q (cntB m) := by rw [greatest_gS]; exact lsFold_at m q D _
theorem gFold_mem (q : ByteArray) (p : Rev → Bool) : ∀ (D : List Rev) (o : Option Rev) (r : Rev), D.foldl (gS q p) o = some r → o = some r ∨ (r ∈ D ∧ r.path = q ∧ p r = true)
  | [], o, r, h => .inl h
  | v :: D, o, r, h => by
    rw [List.foldl_cons] at h
    rcases gFold_mem q p D _ r h with h | ⟨h1, h2⟩
    · by_cases hc : v.path = q ∧ p v = true
      · unfold gS at h
        rw [if_pos hc] at h
        cases o with
        | none => injection h with h; subst h; exact .inr ⟨List.mem_cons_self .., hc⟩
        | some b =>
          by_cases hn : b.num < v.num
          · have h : (if b.num < v.num then some v else some b) = some r := h
            rw [if_pos hn] at h
            injection h with h; subst h; exact .inr ⟨List.mem_cons_self .., hc⟩
          · have h : (if b.num < v.num then some v else some b) = some r := h
            rw [if_neg hn] at h
            exact .inl h
      · rw [gS_far hc] at h; exact .inl h
    · exact .inr ⟨List.mem_cons_of_mem _ h1, h2⟩
theorem lsOf_mem {D : List Rev} {m : Int} {q : ByteArray} {r : Rev} (h : lsOf D m q = some r) : r ∈ D ∧ r.path = q := by
  rw [lsOf_eq, greatest_gS] at h
  rcases gFold_mem q _ D none r h with h | h
  · cases h
  · exact ⟨h.1, h.2.1⟩
theorem lsOf_snoc (D : List Rev) (m : Int) (k : Nat) (h : k < D.length) : lsOf (D.take (k + 1)) m = lsM m (lsOf (D.take k) m) D[k] := by
  unfold lsOf
  rw [List.take_succ_eq_append_getElem h, List.foldl_append]; rfl
/-- What the list has. -/
def lsKeep (p : Pat) (f : ByteArray → Option Rev) (q : ByteArray) : Bool := (matchP p q).isSome && liveA (lastR f q).act
def lsIn (D : List Rev) (p : Pat) (m : Int) (r : Rev) : Prop := greatest D r.path (cntB m) = some r ∧ (matchP p r.path).isSome = true ∧ liveA r.act = true
structure LsOk (D : List Rev) (p : Pat) (m : Int) (l : List Rev) : Prop where
  mem : ∀ r, r ∈ l ↔ lsIn D p m r
  sort : l.Pairwise (fun a b => cmpP a.path b.path < 0)
theorem matchP_check {p : Pat} {s : ByteArray} (h : patE p ≠ 0) : matchP p s = none := by
  unfold matchP
  split
  · rfl
  · exact if_neg fun e => h e.1
theorem lsOk_none {D : List Rev} {p : Pat} {m : Int} (h : patE p ≠ 0) : LsOk D p m [] :=
  ⟨fun r => ⟨fun h => by (cases h), fun hr => by have := hr.2.1; rw [matchP_check h] at this; cases this⟩, List.Pairwise.nil⟩
theorem lastR_path {D : List Rev} {m : Int} {q : ByteArray} (h : (lsOf D m q).isSome = true) : (lastR (lsOf D m) q).path = q ∧ lsOf D m q = some (lastR (lsOf D m) q) ∧ lastR (lsOf D m) q ∈ D := by
  unfold lastR
  cases hf : lsOf D m q with
  | none => rw [hf] at h; cases h
  | some r => exact ⟨(lsOf_mem hf).2, rfl, (lsOf_mem hf).1⟩
/-- The entries that are kept, in any order. -/
def lsPick (D : List Rev) (p : Pat) (m : Int) (ks : List ByteArray) : List Rev := (ks.filter (lsKeep p (lsOf D m))).map (lastR (lsOf D m))
theorem lsPick_snoc (D : List Rev) (p : Pat) (m : Int) (ks : List ByteArray) (q : ByteArray) : lsPick D p m (ks ++ [q]) = lsPick D p m ks ++ (if lsKeep p (lsOf D m) q then [lastR (lsOf D m) q] else []) := by
  unfold lsPick
  rw [List.filter_append, List.map_append, List.filter_cons, List.filter_nil]
  split <;> rfl
theorem lsPick_mem {D : List Rev} {p : Pat} {m : Int} {ks : List ByteArray} (hk : ∀ x, x ∈ ks ↔ (lsOf D m x).isSome = true) (r : Rev) : r ∈ lsPick D p m ks ↔ lsIn D p m r := by
  unfold lsPick lsIn
  rw [List.mem_map, ← lsOf_eq]
  constructor
  · rintro ⟨q, hq, rfl⟩
    obtain ⟨h1, h2⟩ := List.mem_filter.1 hq
    obtain ⟨e1, e2, -⟩ := lastR_path ((hk q).1 h1)
    unfold lsKeep at h2
    rw [Bool.and_eq_true] at h2
    rw [e1]
    exact ⟨e2, h2⟩
  · rintro ⟨h1, h2, h3⟩
    have hl : lastR (lsOf D m) r.path = r := by unfold lastR; rw [h1]; rfl
    refine ⟨r.path, List.mem_filter.2 ⟨(hk _).2 (by rw [h1]; rfl), ?_⟩, hl⟩
    unfold lsKeep
    rw [hl, h2, h3]; rfl
theorem lsPick_nodup {D : List Rev} {p : Pat} {m : Int} {ks : List ByteArray} (hn : ks.Nodup) (hk : ∀ x, x ∈ ks → (lsOf D m x).isSome = true) : ((lsPick D p m ks).map (·.path)).Nodup := by
  unfold lsPick
  rw [List.map_map]
  have e : (ks.filter (lsKeep p (lsOf D m))).map ((fun r : Rev => r.path) ∘ lastR (lsOf D m)) = ks.filter (lsKeep p (lsOf D m)) := by
    conv => rhs; rw [← List.map_id (ks.filter (lsKeep p (lsOf D m)))]
    exact List.map_congr_left fun q hq => (lastR_path (hk q (List.mem_filter.1 hq).1)).1
  rw [e]
  exact hn.filter _
/-- A permutation that is sorted: what is listed. -/
theorem lsOk_sorted {D : List Rev} {p : Pat} {m : Int} {ks : List ByteArray} {l : List Rev} (hv : ∀ r ∈ D, validS r.path = true) (hn : ks.Nodup) (hk : ∀ x, x ∈ ks ↔ (lsOf D m x).isSome = true) (hp : l.Perm (lsPick D p m ks))
    (hs : l.Pairwise (fun a b => ¬ cmpP b.path a.path < 0)) : LsOk D p m l := by
  have hmem : ∀ r, r ∈ l ↔ lsIn D p m r := fun r => by rw [hp.mem_iff]; exact lsPick_mem hk r
  refine ⟨hmem, ?_⟩
  have hnd : (l.map (·.path)).Nodup := ((hp.map (·.path)).nodup_iff).2 (lsPick_nodup hn fun x hx => (hk x).1 hx)
  have hvl : ∀ r ∈ l, validS r.path = true := fun r hr => by
    have := ((hmem r).1 hr).1
    rw [← lsOf_eq] at this
    exact hv r (lsOf_mem this).1
  rw [List.pairwise_iff_getElem] at hs ⊢
  intro i j hi hj hij
  have h1 := hs i j hi hj hij
  have hne : cmpP l[i].path l[j].path ≠ 0 := fun e => by
    have e2 := cmpP_eq (hvl _ (List.getElem_mem hi)) (hvl _ (List.getElem_mem hj)) e
    have h3 := List.pairwise_iff_getElem.1 hnd i j (by simpa using hi) (by simpa using hj) hij
    rw [List.getElem_map, List.getElem_map] at h3
    exact h3 e2
  rw [cmpP_anti] at h1
  omega
theorem strict_unique {l m : List Rev} (hl : l.Pairwise (fun a b => cmpP a.path b.path < 0)) (hm : m.Pairwise (fun a b => cmpP a.path b.path < 0)) (h : ∀ r, r ∈ l ↔ r ∈ m) : l = m := by
  induction l generalizing m with
  | nil =>
    cases m with
    | nil => rfl
    | cons b m => exact absurd ((h b).2 (List.mem_cons_self ..)) (by simp)
  | cons a l ih =>
    cases m with
    | nil => exact absurd ((h a).1 (List.mem_cons_self ..)) (by simp)
    | cons b m =>
      rw [List.pairwise_cons] at hl hm
      have hab : a = b := by
        rcases List.mem_cons.1 ((h a).1 (List.mem_cons_self ..)) with e | e
        · exact e
        · rcases List.mem_cons.1 ((h b).2 (List.mem_cons_self ..)) with e2 | e2
          · exact e2.symm
          · have h1 := hl.1 b e2
            have h2 := hm.1 a e
            rw [cmpP_anti] at h2
            omega
      subst hab
      have hself : ¬ cmpP a.path a.path < 0 := by have := cmpP_anti a.path a.path; omega
      congr 1
      refine ih hl.2 hm.2 fun r => ?_
      constructor
      · intro hr
        rcases List.mem_cons.1 ((h r).1 (List.mem_cons_of_mem _ hr)) with e | e
        · subst e; exact absurd (hl.1 r hr) hself
        · exact e
      · intro hr
        rcases List.mem_cons.1 ((h r).2 (List.mem_cons_of_mem _ hr)) with e | e
        · subst e; exact absurd (hm.1 r hr) hself
        · exact e
theorem LsOk.unique {D : List Rev} {p : Pat} {m : Int} {l l' : List Rev} (h : LsOk D p m l) (h' : LsOk D p m l') : l = l' :=
  strict_unique h.sort h'.sort fun r => (h.mem r).trans (h'.mem r).symm
end Go.Proofs.YtnblfaagchflaaaGreatDoor
/- The reference's examination of an edit, from the type on. -/
namespace Go.Proofs.YtnblfaagchflaaaGreatDoor
open Go.RowKit
set_option linter.unusedVariables false
set_option linter.unusedSimpArgs false

def typV (f : ByteArray → Option Rev) (x : Edt) : Int := if typeE f x = false then 116 else 0
set_option maxRecDepth 100000 in
set_option maxHeartbeats 8000000 in
theorem edT18 (T : Code) (hT : Tryz.f94.body.bind (tailAt 18) = some T) (R : Ending → World → Prop) (revs : List Rev) (c : Chg) (x : Edt) (Ar Ae Ac : Option Addr) (dr : Value) (cr ce cc g3 g4 g7 : Nat) (w4 : World)
    (hR : Revs w4 (.slice Ar revs.length cr) revs) (hl : revs.length ≤ 100000) (hlog : ∀ p, LogOk revs p) (hbs : 0 ≤ x.base ∧ x.base ≤ 1000000)
    (hD : Blk w4 g3 31 [.slice Ar revs.length cr, dr]) (hC : Blk w4 g4 53 [.int .i64 c.num, .string c.client, .string c.text, .slice Ae c.edits.length ce, .slice Ac c.recs.length cc]) (hX : Blk w4 g7 55 [.string x.path, .int .i64 x.act, .int .i64 x.ty.base, .bool x.ty.k, .bool x.ty.l, .bool x.ty.x, .int .u64 x.sum, .int .i64 x.size, .int .i64 x.base, .string x.frm, .int .i64 x.fnum, .int .i64 x.fence])
    (hRR : ∀ (n : Int) (w' : World), n = typV (lastOf revs) x → Below w4.heap.size w4 w' → R (.returned (.int .i64 n)) w')
    (u0 u1 u2 u5 u6 u8 u9 u10 u11 u12 u13 u14 u15 u16 u17 u18 u19 u20 u21 u22 u23 u24 u25 u26 u27 u28 u29 u30 u31 u32 u33 u34 u35 u36 u37 u38 u39 u40 u41 u42 u43 u44 u45 u46 u47 u48 u49 u50 u51 u52 u53 u54 u55 u56 u57 u58 u59 u60 u61 u62 u63 u64 u65 u66 u67 u68 u69 u70 u71 u72 u73 u74 u75 u76 u77 u78 u79 u80 u81 u82 u83 u84 u85 u86 u87 u88 u89 u90 u91 u92 u93 u94 u95 u96 u97 u98 u99 u100 u101 u102 u103 u104 u105 u106 u107 u108 u109 u110 u111 u112 u113 u114 u115 u116 u117 u118 u119 u120 u121 u122 u123 u124 u125 u126 u127 u128 u129 u130 u131 u132 u133 u134 u135 u136 u137 u138 u139 u140 u141 u142 u143 u144 u145 u146 u147 : Value) :
    T.wp Tryz.prog (bodyPost Tryz.prog Tryz.f94 R) ⟨#[u0, u1, u2, .pointer (some ⟨g3, 0, none⟩), .pointer (some ⟨g4, 0, none⟩), u5, u6, .pointer (some ⟨g7, 0, none⟩), u8, u9, u10, u11, u12, u13, u14, u15, u16, u17, u18, u19, u20, u21, u22, u23, u24, u25, u26, u27, u28, u29, u30, u31, u32, u33, u34, u35, u36, u37, u38, u39, u40, u41, u42, u43, u44, u45, u46, u47, u48, u49, u50, u51, u52, u53, u54, u55, u56, u57, u58, u59, u60, u61, u62, u63, u64, u65, u66, u67, u68, u69, u70, u71, u72, u73, u74, u75, u76, u77, u78, u79, u80, u81, u82, u83, u84, u85, u86, u87, u88, u89, u90, u91, u92, u93, u94, u95, u96, u97, u98, u99, u100, u101, u102, u103, u104, u105, u106, u107, u108, u109, u110, u111, u112, u113, u114, u115, u116, u117, u118, u119, u120, u121, u122, u123, u124, u125, u126, u127, u128, u129, u130, u131, u132, u133, u134, u135, u136, u137, u138, u139, u140, u141, u142, u143, u144, u145, u146, u147], []⟩ w4 := by
  simp only [Tryz.f94, Option.bind_some, tailAt, hasReg] at hT
  simp at hT
  subst hT
  have HRR := Lib.hid hRR
  have HR := Lib.hid hR
  have HLR := Lib.hid (fun p => someR_last hlog p)
  have HBS := Lib.hid hbs
  have HX4 := Lib.hid hX
  have HD4 := Lib.hid hD
  have HC4 := Lib.hid hC
  have HLAST := Lib.hid (fun p X (hX : Below w4.heap.size w4 X) => refLast_any revs p (.slice Ar revs.length cr) dr X (HR.out.below hX) (by omega))
  clear hRR hR hlog hbs hD hC hX
  generalize lastOf revs = f at HRR HLR ⊢
  obtain ⟨c0, c1, c2, c3, c4, c5, c6, c7, c8, c9, c10, c11⟩ := box12 HX4.out
  have HCK := Lib.hid (fun X => refCheck_any x.ty.base x.ty.k x.ty.l x.ty.x X)
  cases htk : tyOk x.ty.base x.ty.k x.ty.x with
  | false =>
    rw [htk] at HCK
    have HF : Hid (116 = typV f x) := Lib.hid (by unfold typV typeE Ty.ok; rw [htk]; rfl)
    clear htk
    go_wp2_with fail
    refine (HCK.out _).mono ?_
    rintro e w5 ⟨rfl, hb5⟩
    have HB5 := Lib.hid hb5
    clear hb5
    go_wp2_with fail
    exact HRR.out _ _ HF.out (HB5.out)
  | true =>
    rw [htk] at HCK
    have HTK := Lib.hid htk
    clear htk
    go_wp2_with fail
    refine (HCK.out _).mono ?_
    rintro e w5 ⟨rfl, hb5⟩
    have HW5 := Lib.hid hb5
    have HX5 := Lib.hid (HX4.out.below hb5 HX4.out.lt)
    have HD5 := Lib.hid (HD4.out.below hb5 HD4.out.lt)
    have HC5 := Lib.hid (HC4.out.below hb5 HC4.out.lt)
    clear hb5 c0 c1 c2 c3 c4 c5 c6 c7 c8 c9 c10 c11
    obtain ⟨c0, c1, c2, c3, c4, c5, c6, c7, c8, c9, c10, c11⟩ := box12 HX5.out
    by_cases hz : x.size < 0
    · have q : decide (x.size < 0) = true := by simp; omega
      have HF : Hid (116 = typV f x) := Lib.hid (by unfold typV typeE; rw [show decide (0 ≤ x.size) = false by simp; omega]; simp)
      clear hz
      go_wp2_with fail
      exact HRR.out _ _ HF.out (HW5.out)
    · have q : decide (x.size < 0) = false := by simp; omega
      have HO4 : Hid ((typV f x) = if (liveA x.act || (decide (x.ty = (lastR f x.path).ty) && (decide (x.sum = 0) && decide (x.size = 0)))) = false then 116 else 0) := Lib.hid (by
        unfold typV; rw [typeE_eq]; unfold Ty.ok; rw [HTK.out, show decide (0 ≤ x.size) = true by simp; omega]; rfl)
      clear hz
      obtain ⟨d0, d1, -, -⟩ := box2 HD5.out
      have HL2 := Lib.hid (HLAST.out x.path w5 HW5.out)
      go_wp2_with fail
      refine HL2.out.mono ?_
      rintro e w6 ⟨rfl, hb6⟩
      rw [HLR.out x.path]
      generalize lastR f x.path = r at HO4 ⊢
      generalize (rLast revs x.path).isSome = okb
      have hY := blk_new w6 [.string r.path, .int .i64 r.num, .int .i64 r.chg, .int .i64 r.act, .int .i64 r.ty.base, .bool r.ty.k, .bool r.ty.l, .bool r.ty.x, .int .u64 r.sum, .int .i64 r.size, .string r.frm, .int .i64 r.fnum] 40
      have hA6 : Below w5.heap.size w5 (w6.alloc (.cells #[.string r.path, .int .i64 r.num, .int .i64 r.chg, .int .i64 r.act, .int .i64 r.ty.base, .bool r.ty.k, .bool r.ty.l, .bool r.ty.x, .int .u64 r.sum, .int .i64 r.size, .string r.frm, .int .i64 r.fnum] 40)) := below_alloc' hb6 _
      clear hb6 c0 c1 c2 c3 c4 c5 c6 c7 c8 c9 c10 c11 d0 d1
      go_upto_region 21 with fail
      generalize w6.alloc (.cells #[.string r.path, .int .i64 r.num, .int .i64 r.chg, .int .i64 r.act, .int .i64 r.ty.base, .bool r.ty.k, .bool r.ty.l, .bool r.ty.x, .int .u64 r.sum, .int .i64 r.size, .string r.frm, .int .i64 r.fnum] 40) = w7 at hY hA6 ⊢
      generalize w6.heap.size = g14 at hY ⊢
      have HX7 := Lib.hid (HX5.out.below hA6 HX5.out.lt)
      have HC7 := Lib.hid (HC5.out.below hA6 HC5.out.lt)
      have HY := Lib.hid hY
      have HW7 := Lib.hid (below_next HW5.out hA6)
      clear hY hA6
      obtain ⟨c0, c1, c2, c3, c4, c5, c6, c7, c8, c9, c10, c11⟩ := box12 HX7.out
      obtain ⟨k0, k1, k2, k3, k4⟩ := box5 HC7.out
      have HMD := Lib.hid (refMade_any c.num c.client c.text Ae Ac c.edits.length c.recs.length ce cc x w7 HBS.out)
      go_wp2_with fail
      refine HMD.out.mono ?_
      rintro e w8 ⟨rfl, hb8⟩
      have HB8 := Lib.hid hb8
      clear hb8 c0 c1 c2 c3 c4 c5 c6 c7 c8 c9 c10 c11 k0 k1 k2 k3 k4
      have HGO := Lib.hid (refGone_any (madeX c.num x) w8)
      go_wp2_with fail
      refine HGO.out.mono ?_
      rintro e w9 ⟨rfl, hb9⟩
      have HB9 := Lib.hid (below_next HB8.out hb9)
      clear hb9
      obtain ⟨c0, c1, c2, c3, c4, c5, c6, c7, c8, c9, c10, c11⟩ := box12 (HX7.out.below HB9.out HX7.out.lt)
      obtain ⟨b0, b1, b2, b3, b4, b5, b6, b7, b8, b9, b10, b11⟩ := box12 (HY.out.below HB9.out HY.out.lt)
      have hact : (madeX c.num x).act = x.act := rfl
      rw [hact]
      clear hact
      have hty := run_neq_ty x.ty r.ty
      have hcn := run_neq_con x.sum x.size 0 0
      generalize (decide (x.sum = 0) && decide (x.size = 0)) = bc at hcn HO4
      generalize decide (x.ty = r.ty) = bt at hty HO4
      cases hlv : liveA x.act with
      | true =>
        have HF : Hid (0 = typV f x) := Lib.hid (by rw [HO4.out, hlv]; rfl)
        clear hlv
        go_wp2_with fail
        exact HRR.out _ _ HF.out (below_next HW7.out HB9.out)
      | false =>
        rw [hlv] at HO4
        clear hlv
        cases bt with
        | false =>
          go_wp2_with fail
          exact HRR.out _ _ HO4.out.symm (below_next HW7.out HB9.out)
        | true =>
          cases bc with
          | false =>
            go_wp2_with fail
            exact HRR.out _ _ HO4.out.symm (below_next HW7.out HB9.out)
          | true =>
            go_wp2_with fail
            exact HRR.out _ _ HO4.out.symm (below_next HW7.out HB9.out)
end Go.Proofs.YtnblfaagchflaaaGreatDoor
