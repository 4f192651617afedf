/- The reference's Paths: the walk. -/
import Derived.Test.YtnblfaagchflaaaGreatDoorMgw12
import Derived.Test.YtnblfaagchflaaaGreatDoorMgw28
import Derived.Test.YtnblfaagchflaaaGreatDoorMgw22
import Derived.Test.YtnblfaagchflaaaGreatDoorMgw24
import Derived.Test.YtnblfaagchflaaaGreatDoorMzAkR
namespace Go.Proofs.YtnblfaagchflaaaGreatDoor
open Go.RowKit Go.Lib
open Go.Sort hiding Below
set_option linter.unusedVariables false
set_option linter.unusedSimpArgs false

def seenM (l : List ByteArray) (r : Rev) : List ByteArray := if r.path ∈ l then l else l ++ [r.path]
/-- The paths of revisions, each once, in the order in which they came. -/
def seenOf (D : List Rev) : List ByteArray := D.foldl seenM []
theorem seen_snoc (D : List Rev) (r : Rev) : seenOf (D ++ [r]) = seenM (seenOf D) r := by unfold seenOf; rw [List.foldl_append]; rfl
theorem seenM_mem {l : List ByteArray} {r : Rev} {q : ByteArray} : q ∈ seenM l r ↔ q ∈ l ∨ r.path = q := by
  unfold seenM
  split
  · rename_i h
    constructor
    · exact .inl
    · rintro (h2 | rfl)
      · exact h2
      · exact h
  · rw [List.mem_append, List.mem_singleton]
    constructor
    · rintro (h | rfl)
      · exact .inl h
      · exact .inr rfl
    · rintro (h | rfl)
      · exact .inl h
      · exact .inr rfl
theorem seenM_nodup {l : List ByteArray} {r : Rev} (h : l.Nodup) : (seenM l r).Nodup := by
  unfold seenM
  split
  · exact h
  · rename_i hn
    rw [List.nodup_append]
    refine ⟨h, by simp, fun a ha b hb => ?_⟩
    rw [List.mem_singleton] at hb
    subst hb
    intro e; subst e; exact hn ha
theorem seen_facts : ∀ (D : List Rev) (l : List ByteArray), l.Nodup → (D.foldl seenM l).Nodup ∧ (∀ q, q ∈ D.foldl seenM l ↔ q ∈ l ∨ ∃ r ∈ D, r.path = q) ∧ (D.foldl seenM l).length ≤ l.length + D.length
  | [], l, h => ⟨h, fun q => by simp, by simp⟩
  | r :: D, l, h => by
    obtain ⟨h1, h2, h3⟩ := seen_facts D (seenM l r) (seenM_nodup h)
    rw [List.foldl_cons]
    refine ⟨h1, fun q => ?_, ?_⟩
    · rw [h2, seenM_mem]
      simp [or_assoc]
    · have : (seenM l r).length ≤ l.length + 1 := by unfold seenM; split <;> simp
      rw [List.length_cons]; omega
theorem seenOf_facts (D : List Rev) : (seenOf D).Nodup ∧ (∀ q, q ∈ seenOf D ↔ ∃ r ∈ D, r.path = q) ∧ (seenOf D).length ≤ D.length := by
  obtain ⟨h1, h2, h3⟩ := seen_facts D [] List.nodup_nil
  exact ⟨h1, fun q => by have := h2 q; rw [show q ∈ seenOf D ↔ q ∈ D.foldl seenM [] from Iff.rfl, this]; simp, by have h4 : (seenOf D).length ≤ ([] : List ByteArray).length + D.length := h3; simpa using h4⟩
/-- What Paths leaves. -/
structure PathsOk (D : List Rev) (l : List ByteArray) : Prop where
  mem : ∀ q, q ∈ l ↔ ∃ r ∈ D, r.path = q
  sort : l.Pairwise (fun a b => cmpP a b < 0)
  len : l.length ≤ D.length
theorem pathsOk_of {D : List Rev} {l : List ByteArray} (hv : ∀ r ∈ D, validS r.path = true) (hp : l.Perm (seenOf D)) (hs : l.Pairwise (fun a b => ¬ cmpP b a < 0)) : PathsOk D l := by
  obtain ⟨h1, h2, h3⟩ := seenOf_facts D
  have hm : ∀ q, q ∈ l ↔ ∃ r ∈ D, r.path = q := fun q => by rw [hp.mem_iff]; exact h2 q
  refine ⟨hm, ?_, by rw [hp.length_eq]; exact h3⟩
  have hn : l.Nodup := (hp.nodup_iff).2 h1
  have hvl : ∀ q ∈ l, validS q = true := fun q hq => by obtain ⟨r, hr, rfl⟩ := (hm q).1 hq; exact hv r hr
  rw [List.pairwise_iff_getElem] at hs ⊢
  intro i j hi hj hij
  have a1 := hs i j hi hj hij
  have a2 : cmpP l[i] l[j] ≠ 0 := fun e => List.pairwise_iff_getElem.1 hn i j hi hj hij (cmpP_eq (hvl _ (List.getElem_mem hi)) (hvl _ (List.getElem_mem hj)) e)
  rw [cmpP_anti] at a1
  omega
theorem vstrs_list : ∀ {l : List ByteArray}, (∀ s ∈ l, validS s = true ∧ s.size ≤ 1000000) → ∃ l' : List VStr, l'.map (·.1) = l
  | [], _ => ⟨[], rfl⟩
  | s :: l, h => by
    obtain ⟨l', rfl⟩ := vstrs_list fun x hx => h x (List.mem_cons_of_mem _ hx)
    exact ⟨⟨s, h s (List.mem_cons_self ..)⟩ :: l', rfl⟩
theorem vstr_enc : ∀ (l : List VStr), l.flatMap VStr.enc = (l.map (·.1)).map Value.string
  | [] => rfl
  | a :: l => by rw [List.flatMap_cons, vstr_enc l]; rfl
set_option maxRecDepth 100000 in
set_option maxHeartbeats 4000000 in
theorem psT10 (T : Code) (hT : Tryz.f33.body.bind (tailAt 10) = some T) (R : Ending → World → Prop) (l : List ByteArray) (v : Value) (base : Nat) (w : World) (he : Env w) (hg : 0 < base)
    (hown : w.ownsRow base 9 1 v l.length (l.map .string)) (hl : l.length ≤ 100000) (hv : ∀ s ∈ l, validS s = true ∧ s.size ≤ 1000000)
    (hRR : ∀ (l' : List ByteArray) (w' : World), l'.Perm l → l'.Pairwise (fun a b => ¬ cmpP b a < 0) → w'.ownsRow base 9 1 v l.length (l'.map .string) → w.grownBy w' v.ownBlock → R (.returned v) w')
    (u0 u1 u2 u4 u5 u6 u7 u8 u9 u10 u11 u12 u13 u14 u15 u16 u17 u18 u19 u20 u21 u22 u23 u24 u25 u26 u27 u28 u29 u30 u31 u32 u33 u34 u35 u36 u37 u38 u39 u40 u41 u42 u43 u44 u45 u46 u47 u48 u49 u50 u51 u52 u53 u54 u55 u56 u57 u58 u59 u60 u61 u62 u63 u64 u65 u66 u67 u68 u69 u70 u71 : Value) :
    T.wp Tryz.prog (bodyPost Tryz.prog Tryz.f33 R) ⟨#[u0, u1, u2, v, u4, u5, u6, u7, u8, u9, u10, u11, u12, u13, u14, u15, u16, u17, u18, u19, u20, u21, u22, u23, u24, u25, u26, u27, u28, u29, u30, u31, u32, u33, u34, u35, u36, u37, u38, u39, u40, u41, u42, u43, u44, u45, u46, u47, u48, u49, u50, u51, u52, u53, u54, u55, u56, u57, u58, u59, u60, u61, u62, u63, u64, u65, u66, u67, u68, u69, u70, u71], []⟩ w := by
  by_cases h0 : l.length = 0
  · have hl0 : l = [] := List.eq_nil_of_length_eq_zero h0
    subst hl0
    have hvv : ∃ A c, v = .slice A 0 c := by
      rcases hown.2 with ⟨rfl, -⟩ | ⟨g, cap, cur, rfl, -⟩
      · exact ⟨_, _, rfl⟩
      · exact ⟨_, _, rfl⟩
    obtain ⟨A, c, rfl⟩ := hvv
    have HR := Lib.hid (hRR [] w (List.Perm.refl _) List.Pairwise.nil hown ⟨rfl, rfl, rfl, Nat.le_refl _, fun _ _ _ => rfl⟩)
    clear hown he hRR
    simp only [Tryz.f33, Option.bind_some, tailAt, hasReg] at hT
    simp at hT
    subst hT
    go_wp2_with fail
    refine wp_loop_rounds 1 ?_
    rw [rounds_succ]
    go_wp2_with fail
    exact HR.out
  · obtain ⟨l', rfl⟩ := vstrs_list hv
    rw [List.length_map] at h0 hl
    rw [← vstr_enc] at hown
    have hd : l'.toArray.size = (l'.map (·.1)).length := by simp
    obtain ⟨g, cap, rfl, hb, h3, h4, hSB⟩ := own_sb (enc := VStr.enc) (d := l'.toArray) vStr_len (by simpa using Nat.pos_of_ne_zero h0) (by rw [hd]; exact hown)
    refine psT10s T hT R w w g 0 (cap * 1) cap l'.toArray hSB he (by omega) (by rw [hd, List.length_map]; omega) (fun w' hS => ?_) _ _ _ _ _ _ _ _ _ _ _ _ _ _ _ _ _ _ _ _ _ _ _ _ _ _ _ _ _ _ _ _ _ _ _ _ _ _ _ _ _ _ _ _ _ _ _ _ _ _ _ _ _ _ _ _ _ _ _ _ _ _ _ _ _ _ _ _ _ _ _
    have hn : 0 < l'.toArray.size := by rw [hd, List.length_map]; omega
    have hio : insOuter (ltOf VStr.cmp) 0 l'.toArray.size 0 l'.toArray = Sort.insertionSort (ltOf VStr.cmp) l'.toArray 0 l'.toArray.size := by
      unfold Sort.insertionSort
      rw [insOuter_go _ _ _ _ _ hn, insInner_stop _ _ _ _ (Or.inl (Nat.le_refl _))]
    rw [hio] at hS
    obtain ⟨k1, k2⟩ := insertionSort_holds (lt := ltOf VStr.cmp) vStr_tot.swo l'.toArray 0 l'.toArray.size (Nat.zero_le _) (by omega)
    generalize Sort.insertionSort (ltOf VStr.cmp) l'.toArray 0 l'.toArray.size = d' at k1 k2 hS
    have hs : d'.size = l'.toArray.size := k1.1
    refine hRR (d'.toList.map (·.1)) w' ?_ ?_ ?_ hS.gr
    · refine List.Perm.map _ ?_
      have := k1.2.2
      rw [← hs, Array.extract_size, hs, Array.extract_size] at this
      simpa using this
    · rw [List.pairwise_map, List.pairwise_iff_getElem]
      intro i j hi hj hij
      have hi' : i < d'.size := by simpa using hi
      have hj' : j < d'.size := by simpa using hj
      have := k2 i j (Nat.zero_le _) hij (by omega)
      rw [getElem!_pos d' j hj', getElem!_pos d' i hi'] at this
      have h2 : decide (cmpP d'[j].1 d'[i].1 < 0) = false := this
      have h3 := of_decide_eq_false h2
      simpa using h3
    · have := sb_own vStr_len hb (by rw [hs]; exact h3) h4 hS
      rw [hs, hd, vstr_enc] at this
      rw [hd]
      exact this
/-- The state of the first loop. -/
structure PsSt (w wr : World) (D : List Rev) (B base k : Nat) (A : Option Addr) (n c : Nat) : Prop where
  bel : Below w.heap.size w wr
  map : FlagMap wr B (fun q => decide (q ∈ seenOf (D.take k)))
  row : wr.ownsRow base 9 1 (.slice A n c) n ((seenOf (D.take k)).map .string)
  len : n = (seenOf (D.take k)).length
  ord : w.heap.size ≤ B ∧ B < base ∧ base ≤ wr.heap.size
theorem FlagMap.eqv {w : World} {B : Nat} {f g : ByteArray → Bool} (h : FlagMap w B f) (e : ∀ q, f q = g q) : FlagMap w B g := by rw [← funext e]; exact h
theorem FlagMap.low {w w' : World} {B base : Nat} {f : ByteArray → Bool} (h : FlagMap w B f) (hb : Below base w w') (hB : B < base) : FlagMap w' B f := by
  obtain ⟨g, h1, h2⟩ := h
  exact ⟨g, h1.keep (hb.block B hB), h2⟩
theorem own_grownP {w w' : World} {B r : Nat} {e : TypeId} {k : Nat} {v : Value} {n : Nat} {xs : List Value} (h : w.ownsRow B e k v n xs) (hb : w.grownBy w' (some r)) (hr : r < B) : w'.ownsRow B e k v n xs := by
  refine ⟨h.1, ?_⟩
  rcases h.2 with ⟨e1, e2⟩ | ⟨g, cap, cur, e1, h1, hg, rest⟩
  · exact .inl ⟨e1, e2⟩
  · exact .inr ⟨g, cap, cur, e1, h1, (hb.block g (Array.getElem?_eq_some_iff.1 hg).1 (by intro e; injection e with e; omega)).trans hg, rest⟩
def PathsPost (w : World) (D : List Rev) (e : Ending) (w' : World) : Prop := ∃ A c l, e = .returned (.slice A (List.length l) c) ∧ Below w.heap.size w w' ∧ Strs w' (.slice A (List.length l) c) l ∧ PathsOk D l
set_option maxRecDepth 100000 in
set_option maxHeartbeats 8000000 in
theorem paths_any (D : List Rev) (dv dr : Value) (w : World) (he : Env w) (hR : Revs w dv D) (hl : D.length ≤ 100000) (hv : ∀ r ∈ D, validS r.path = true ∧ r.path.size ≤ 1000000) :
    Calls Tryz.prog 33 #[.agg #[dv, dr]] w (PathsPost w D) := by
  obtain ⟨Ar, cr, rfl, hcr, hmr, -⟩ := id hR
  have HR := Lib.hid hR
  have HEN := Lib.hid he
  have HV := Lib.hid hv
  have HGL : Hid (0 < w.heap.size) := Lib.hid (by obtain ⟨m, hm⟩ := he; exact cell_lt hm)
  clear hR he hv
  unfold maxLen at hmr
  have hmm := @run_makeMap Tryz.prog
  have hb0 : Below w.heap.size w (w.alloc (.cells #[.slice Ar D.length cr, dr] 31)) := (Below.refl _ _).alloc (Nat.le_refl _) _
  have hD := blk_new w [.slice Ar D.length cr, dr] 31
  go_enter Tryz.func33, Tryz.ntmps33
  go_upto_region 2 with fail
  generalize hW1 : w.alloc (.cells #[.slice Ar D.length cr, dr] 31) = W1 at hb0 hD ⊢
  have hsz1 : W1.heap.size = w.heap.size + 1 := by rw [← hW1]; simp
  clear hW1
  have HFM := Lib.hid (FlagMap.new W1)
  have HBM := Lib.hid (hb0.alloc hb0.size (.map #[] 0))
  have HDM := Lib.hid (hD.alloc (.map #[] 0))
  go_upto_region 3 with fail
  clear hmm
  have HS0 : Hid (PsSt w (W1.alloc (.map #[] 0)) D W1.heap.size (W1.heap.size + 1) 0 none 0 0) := Lib.hid ⟨HBM.out, by rw [List.take_zero]; exact HFM.out.eqv fun q => by simp [seenOf], World.ownsRow_nil _ _ _ _, rfl, by simp; omega⟩
  clear hb0 hD HFM HBM
  rw [hsz1] at HS0
  obtain ⟨B, hBq⟩ : ∃ B, w.heap.size + 1 = B := ⟨_, rfl⟩
  rw [hBq] at HS0 ⊢
  clear hBq hsz1
  generalize W1.alloc (.map #[] 0) = W2 at HS0 HDM ⊢
  obtain ⟨d0, d1, -, -⟩ := box2 HDM.out
  go_upto_block 0 with fail
  clear d0 d1
  go_cut [3] (fun v wx => ∃ A n c, v = .slice A n c ∧ Hid (PsSt w wx D B (B + 1) D.length A n c))
  case first =>
    go_wp2_with fail
    go_loopw [3, 13] (fun u s wr => ∃ (k n : Nat) (A : Option Addr) (c : Nat), s = .int .i64 k ∧ u = .slice A n c ∧ k ≤ D.length ∧ n ≤ k ∧ Hid (PsSt w wr D B (B + 1) k A n c)) (fun _ s _ => D.length - (intOf s).toNat)
    case atStart => exact ⟨0, 0, none, 0, rfl, rfl, Nat.zero_le _, Nat.le_refl _, HS0.out⟩
    case round =>
      obtain ⟨k, n, A, c, rfl, rfl, hk, hnk, HI⟩ := hrel
      by_cases hlt : k < D.length
      · obtain ⟨ad, rfl, hab, hld⟩ := Revs.at_ (HR.out.below HI.out.bel) hlt
        have HT := Lib.hid (show seenOf (D.take (k + 1)) = seenM (seenOf (D.take k)) D[k] by rw [List.take_succ_eq_append_getElem hlt, seen_snoc])
        generalize D[k] = r at hld HT
        obtain ⟨x0, x1, x2, x3, x4, x5, x6, x7, x8, x9, x10, x11⟩ := hld
        have hX := blk_new wr [.string r.path, .int .i64 r.num, .int .i64 r.chg, .int .i64 r.act, .int .i64 r.ty.base, .bool r.ty.k, .bool r.ty.l, .bool r.ty.x, .int .u64 r.sum, .int .i64 r.size, .string r.frm, .int .i64 r.fnum] 40
        have hA1 : Below wr.heap.size wr (wr.alloc (.cells #[.string r.path, .int .i64 r.num, .int .i64 r.chg, .int .i64 r.act, .int .i64 r.ty.base, .bool r.ty.k, .bool r.ty.l, .bool r.ty.x, .int .u64 r.sum, .int .i64 r.size, .string r.frm, .int .i64 r.fnum] 40)) := (Below.refl _ _).alloc (Nat.le_refl _) _
        go_upto_region 6 with fail
        clear x0 x1 x2 x3 x4 x5 x6 x7 x8 x9 x10 x11
        generalize wr.alloc (.cells #[.string r.path, .int .i64 r.num, .int .i64 r.chg, .int .i64 r.act, .int .i64 r.ty.base, .bool r.ty.k, .bool r.ty.l, .bool r.ty.x, .int .u64 r.sum, .int .i64 r.size, .string r.frm, .int .i64 r.fnum] 40) = V1 at hX hA1 ⊢
        obtain ⟨x0, x1, x2, x3, x4, x5, x6, x7, x8, x9, x10, x11⟩ := box12 hX
        have hfm := HI.out.map.below hA1
        have hlk := FlagMap.look hfm r.path
        have HV1 := Lib.hid (below_next HI.out.bel hA1)
        have HO1 := Lib.hid (own_below HI.out.row hA1)
        have HLN := Lib.hid HI.out.len
        have HOR := Lib.hid (show w.heap.size ≤ B ∧ B < B + 1 ∧ B + 1 ≤ V1.heap.size from ⟨HI.out.ord.1, HI.out.ord.2.1, Nat.le_trans HI.out.ord.2.2 hA1.size⟩)
        have HX1 := Lib.hid hX
        have HFM := Lib.hid hfm
        obtain ⟨b, hb⟩ : ∃ b, decide (r.path ∈ seenOf (D.take k)) = b := ⟨_, rfl⟩
        rw [hb] at hlk
        clear hA1 hX hfm
        cases b with
        | true =>
          have HE : Hid (seenOf (D.take (k + 1)) = seenOf (D.take k)) := Lib.hid (by rw [HT.out]; unfold seenM; rw [if_pos (of_decide_eq_true hb)])
          clear hb
          go_wp2_with fail
          go_roundw
          case rel => exact ⟨k + 1, n, A, c, by go_num, rfl, by omega, by omega, HV1.out, by rw [HE.out]; exact HFM.out, by rw [HE.out]; exact HO1.out, by rw [HE.out]; exact HLN.out, HOR.out⟩
          case measure => simp [intOf]; omega
        | false =>
          have HE : Hid (seenOf (D.take (k + 1)) = seenOf (D.take k) ++ [r.path]) := Lib.hid (by rw [HT.out]; unfold seenM; rw [if_neg (of_decide_eq_false hb)])
          obtain ⟨w3, hup, hM3, hg3, hs3⟩ := HFM.out.set r.path
          have HX3 := Lib.hid (HX1.out.grown hg3 (by
            intro e
            injection e with e
            obtain ⟨f, hf, -⟩ := HFM.out
            obtain ⟨es, c1, ho⟩ := hf.obj
            have hx := HX1.out
            unfold Blk at hx
            rw [e] at hx
            rw [ho] at hx
            cases hx))
          have HB3 := Lib.hid (HV1.out.grown hg3 HV1.out.size (fun j e => by injection e with e; have := HOR.out.1; omega))
          have HO3 := Lib.hid (own_grownP HO1.out hg3 (by omega))
          have HM3 := Lib.hid (hM3.eqv (g := fun q => decide (q ∈ seenOf (D.take (k + 1)))) fun q => by
            rw [HE.out]
            by_cases e : r.path = q
            · simp [e]
            · have e' : ¬ q = r.path := fun h => e h.symm
              simp [e, e'])
          have HSZ3 := Lib.hid (show B + 1 ≤ w3.heap.size by rw [hs3]; exact HOR.out.2.2)
          clear hb hM3 hg3 hs3
          go_upto_region 8 with fail
          clear hup hlk x0 x1 x2 x3 x4 x5 x6 x7 x8 x9 x10 x11
          obtain ⟨x0, -⟩ := box12 HX3.out
          go_wp2_with (at_builtin; refine wpList_push rfl rfl strElemP (own_below HO3.out ((Below.refl _ _).alloc (Nat.le_refl _) _)) rfl (row_new _ [.string r.path] _ 1 1 rfl (by decide) _ (by simp)) rfl ((Below.refl (B + 1) w3).alloc HSZ3.out _) (Nat.le_trans HSZ3.out ((Below.refl (B + 1) w3).alloc HSZ3.out _).size) (by simp [Value.oneCell']) (by omega) (by unfold maxLen; omega) ?_; intro A' c' w7 hown7 hbl7)
          have HO7 := Lib.hid hown7
          have HB7 := Lib.hid hbl7
          clear hown7 hbl7 x0
          go_wp2_with fail
          go_roundw
          case rel =>
            refine ⟨k + 1, n + 1, A', c', by go_num, rfl, by omega, by omega, HB3.out.trans (HB7.out.mono (by have := HOR.out.1; omega)), HM3.out.low HB7.out (by omega), ?_, ?_, ⟨HOR.out.1, HOR.out.2.1, Nat.le_trans HSZ3.out HB7.out.size⟩⟩
            · rw [HE.out, List.map_append]; exact HO7.out
            · rw [HE.out, List.length_append, List.length_singleton, ← HLN.out]
          case measure => simp [intOf]; omega
      · have hke : k = D.length := by omega
        subst hke
        clear hlt
        go_wp2_with fail
        go_meet
        exact ⟨A, n, c, rfl, HI.out⟩
  case rest =>
    obtain ⟨A, n, c, rfl, HC⟩ := hcut
    have hrow := HC.out.row
    rw [List.take_length] at hrow
    have hln := HC.out.len
    rw [List.take_length] at hln
    subst hln
    obtain ⟨h1, h2, h3⟩ := seenOf_facts D
    have hk := ‹∀ (a : Act) (w : World), Code.wp _ _ _ a w → _›
    exact hk _ _ (psT10 _ (by kernel_rfl) _ (seenOf D) _ (B + 1) _ (HEN.out.below HC.out.bel) (by have := HGL.out; have := HC.out.ord.1; omega) hrow (by omega)
      (fun s hs => by obtain ⟨r, hr, rfl⟩ := (h2 s).1 hs; exact HV.out r hr)
      (fun l' w' hp hs ho hg => ⟨A, c, l', by rw [hp.length_eq], HC.out.bel.grown hg HC.out.bel.size (fun j e => Nat.le_trans (by have := HC.out.ord; omega) (hrow.lt j e).1), by
        have := Row.of_own ho
        unfold Strs
        rw [hp.length_eq]
        exact this, pathsOk_of (fun r hr => (HV.out r hr).1) hp hs⟩) _ _ _ _ _ _ _ _ _ _ _ _ _ _ _ _ _ _ _ _ _ _ _ _ _ _ _ _ _ _ _ _ _ _ _ _ _ _ _ _ _ _ _ _ _ _ _ _ _ _ _ _ _ _ _ _ _ _ _ _ _ _ _ _ _ _ _ _ _ _ _)
end Go.Proofs.YtnblfaagchflaaaGreatDoor
/- The reference's List: the walk. -/
namespace Go.Proofs.YtnblfaagchflaaaGreatDoor
open Go.RowKit
set_option linter.unusedVariables false
set_option linter.unusedSimpArgs false

/-- What the reference's list has of a path. -/
def rlKeep (D : List Rev) (p : Pat) (m : Int) (s : ByteArray) : Bool := decide (0 < (rAt D s m).num) && (matchP p s).isSome && liveA (rAt D s m).act
def rlPick (D : List Rev) (p : Pat) (m : Int) (l : List ByteArray) : List Rev := (l.filter (rlKeep D p m)).map fun s => rAt D s m
theorem rlPick_snoc (D : List Rev) (p : Pat) (m : Int) (l : List ByteArray) (s : ByteArray) : rlPick D p m (l ++ [s]) = rlPick D p m l ++ (if rlKeep D p m s then [rAt D s m] else []) := by
  unfold rlPick
  rw [List.filter_append, List.map_append, List.filter_cons, List.filter_nil]
  split <;> rfl
theorem rl_some {D : List Rev} (hlog : ∀ q, LogOk D q) {m : Int} {s : ByteArray} (h : decide (0 < (rAt D s m).num) = true) : greatest D s (cntB m) = some (rAt D s m) ∧ (rAt D s m).path = s ∧ rAt D s m ∈ D := by
  obtain ⟨h1, h2⟩ := (hlog s).rat_eq m
  change someR (greatest D s (cntB m)) = rAt D s m at h1
  change (greatest D s (cntB m)).isSome = decide (0 < (rAt D s m).num) at h2
  rw [h] at h2
  cases hg : greatest D s (cntB m) with
  | none => rw [hg] at h2; cases h2
  | some r =>
    rw [hg] at h1
    have e : r = rAt D s m := h1
    rw [← e]
    have hl := lsOf_eq D m s
    rw [hg] at hl
    exact ⟨rfl, (lsOf_mem hl).2, (lsOf_mem hl).1⟩
theorem rl_none {D : List Rev} (hlog : ∀ q, LogOk D q) {m : Int} {s : ByteArray} {r : Rev} (h : greatest D s (cntB m) = some r) : decide (0 < (rAt D s m).num) = true ∧ rAt D s m = r := by
  obtain ⟨h1, h2⟩ := (hlog s).rat_eq m
  change someR (greatest D s (cntB m)) = rAt D s m at h1
  change (greatest D s (cntB m)).isSome = decide (0 < (rAt D s m).num) at h2
  rw [h] at h1 h2
  exact ⟨h2.symm, h1.symm⟩
theorem rl_ok {D : List Rev} {p : Pat} {m : Int} {l : List ByteArray} (hlog : ∀ q, LogOk D q) (hP : PathsOk D l) : LsOk D p m (rlPick D p m l) := by
  refine ⟨fun r => ?_, ?_⟩
  · unfold rlPick lsIn
    rw [List.mem_map]
    constructor
    · rintro ⟨s, hs, rfl⟩
      obtain ⟨-, h2⟩ := List.mem_filter.1 hs
      unfold rlKeep at h2
      rw [Bool.and_eq_true, Bool.and_eq_true] at h2
      obtain ⟨⟨h2, h3⟩, h4⟩ := h2
      obtain ⟨h5, h6, -⟩ := rl_some hlog h2
      rw [h6]
      exact ⟨h5, h3, h4⟩
    · rintro ⟨h1, h2, h3⟩
      obtain ⟨h4, h5⟩ := rl_none hlog h1
      have hl := lsOf_eq D m r.path
      rw [h1] at hl
      refine ⟨r.path, List.mem_filter.2 ⟨(hP.mem _).2 ⟨r, (lsOf_mem hl).1, rfl⟩, ?_⟩, h5⟩
      unfold rlKeep
      rw [h4, h2, h5, h3]; rfl
  · unfold rlPick
    rw [List.pairwise_map]
    refine List.Pairwise.imp_of_mem (R := fun a b => cmpP a b < 0) ?_ (hP.sort.filter _)
    intro a b ha hb hab
    have h1 : ∀ x, x ∈ l.filter (rlKeep D p m) → (rAt D x m).path = x := fun x hx => by
      obtain ⟨-, h2⟩ := List.mem_filter.1 hx
      unfold rlKeep at h2
      rw [Bool.and_eq_true, Bool.and_eq_true] at h2
      exact (rl_some hlog h2.1.1).2.1
    rw [h1 a ha, h1 b hb]
    exact hab
/-- The state of the loop. -/
structure RlSt (w wr : World) (D : List Rev) (p : Pat) (m : Int) (l : List ByteArray) (g3 g4 base k : Nat) (v1 v2 v3 v4 : Value) (A : Option Addr) (n c : Nat) : Prop where
  bel : Below w.heap.size w wr
  dep : Blk wr g3 31 [v1, v2]
  pat : Blk wr g4 25 [v3, v4]
  row : wr.ownsRow base 40 12 (.slice A n c) n ((rlPick D p m (l.take k)).flatMap Rev.cells)
  len : n = (rlPick D p m (l.take k)).length
  ord : g3 < base ∧ g4 < base ∧ w.heap.size ≤ base ∧ base ≤ wr.heap.size
theorem Blk.low {w w' : World} {g base : Nat} {e : TypeId} {cs : List Value} (h : Blk w g e cs) (hb : Below base w w') (hg : g < base) : Blk w' g e cs := (hb.block g hg).trans h
theorem RlSt.under {w wr X : World} {D : List Rev} {p : Pat} {m : Int} {l : List ByteArray} {g3 g4 base k : Nat} {v1 v2 v3 v4 : Value} {A : Option Addr} {n c : Nat} (h : RlSt w wr D p m l g3 g4 base k v1 v2 v3 v4 A n c) (hX : Below wr.heap.size wr X) : RlSt w X D p m l g3 g4 base k v1 v2 v3 v4 A n c :=
  ⟨below_next h.bel hX, h.dep.below' hX, h.pat.below' hX, own_below h.row hX, h.len, h.ord.1, h.ord.2.1, h.ord.2.2.1, Nat.le_trans h.ord.2.2.2 hX.size⟩
theorem rlRev_one (x : Rev) : ∀ v ∈ x.cells, v.oneCell' = true := by
  intro v hv
  simp only [Rev.cells, List.mem_cons, List.not_mem_nil, or_false] at hv
  rcases hv with rfl | rfl | rfl | rfl | rfl | rfl | rfl | rfl | rfl | rfl | rfl | rfl <;> rfl
def RListPost (w : World) (D : List Rev) (p : Pat) (m : Int) (e : Ending) (w' : World) : Prop := ∃ v l, e = .returned v ∧ Below w.heap.size w w' ∧ Revs w' v l ∧ LsOk D p m l
set_option maxRecDepth 100000 in
set_option maxHeartbeats 8000000 in
theorem refList_any (D : List Rev) (p : Pat) (m : Int) (dv dr : Value) (Ap : Option Addr) (cp : Nat) (w : World) (he : Env w) (hR : Revs w dv D) (hl : D.length ≤ 100000) (hv : ∀ r ∈ D, validS r.path = true ∧ r.path.size ≤ 1000000) (hlog : ∀ q, LogOk D q)
    (hS : Strs w (.slice Ap p.parts.length cp) p.parts) (hz : ∀ x ∈ p.parts, x.size ≤ maxLen) :
    Calls Tryz.prog 14 #[.agg #[dv, dr], .agg #[.slice Ap p.parts.length cp, .bool p.rest], .int .i64 m] w (RListPost w D p m) := by
  obtain ⟨Ar, cr, rfl, hcr, hmr, -⟩ := id hR
  have hb0 : Below w.heap.size w ((w.alloc (.cells #[.slice Ar D.length cr, dr] 31)).alloc (.cells #[.slice Ap p.parts.length cp, .bool p.rest] 25)) := ((Below.refl _ _).alloc (Nat.le_refl _) _).alloc (by simp) _
  have hD : Blk ((w.alloc (.cells #[.slice Ar D.length cr, dr] 31)).alloc (.cells #[.slice Ap p.parts.length cp, .bool p.rest] 25)) w.heap.size 31 [.slice Ar D.length cr, dr] := (blk_new w _ _).alloc _
  have hP : Blk ((w.alloc (.cells #[.slice Ar D.length cr, dr] 31)).alloc (.cells #[.slice Ap p.parts.length cp, .bool p.rest] 25)) (w.heap.size + 1) 25 [.slice Ap p.parts.length cp, .bool p.rest] := by
    have := blk_new (w.alloc (.cells #[.slice Ar D.length cr, dr] 31)) [.slice Ap p.parts.length cp, .bool p.rest] 25
    simp only [World.size_alloc] at this
    exact this
  have HPA := Lib.hid (fun X (hX : Below w.heap.size w X) => paths_any D (.slice Ar D.length cr) dr X (he.below hX) (hR.below hX) hl hv)
  have HTA := Lib.hid (fun (q : ByteArray) X (hX : Below w.heap.size w X) => refAt_any D q m (.slice Ar D.length cr) dr X (hR.below hX) (by omega))
  have HMA := Lib.hid (fun (q : ByteArray) (hq : q.size ≤ 1000000) X (hX : Below w.heap.size w X) => rMatch_any p q Ap cp X (he.below hX) hq (hS.below hX) hz)
  have HOK := Lib.hid (fun (l : List ByteArray) (h : PathsOk D l) => rl_ok (p := p) (m := m) hlog h)
  have HV := Lib.hid hv
  clear hR he hS hz hv hlog
  unfold maxLen at hmr
  go_enter Tryz.func14, Tryz.ntmps14
  go_upto_region 2 with fail
  generalize (w.alloc (.cells #[.slice Ar D.length cr, dr] 31)).alloc (.cells #[.slice Ap p.parts.length cp, .bool p.rest] 25) = W1 at hb0 hD hP ⊢
  have HB0 := Lib.hid hb0
  have HD := Lib.hid hD
  have HP := Lib.hid hP
  have HPW := Lib.hid (HPA.out W1 hb0)
  obtain ⟨d0, d1, -, -⟩ := box2 hD
  have hlt1 : w.heap.size < W1.heap.size ∧ w.heap.size + 1 < W1.heap.size := ⟨hD.lt, hP.lt⟩
  clear hb0 hD hP
  go_wp2_with fail
  refine HPW.out.mono ?_
  rintro e w2 ⟨A, c, l, rfl, hb2, hS2, hok⟩
  clear d0 d1 HPW
  obtain ⟨A', c', e', hcc, hmm, -⟩ := id hS2
  injection e' with e1 e2 e3
  subst e1 e3
  unfold maxLen at hmm
  have HS2 := Lib.hid hS2
  have HPO := Lib.hid hok
  have hll : l.length ≤ 100000 := Nat.le_trans hok.len hl
  have HB2 := Lib.hid (below_next HB0.out hb2)
  have HST : Hid (RlSt w w2 D p m l w.heap.size (w.heap.size + 1) w2.heap.size 0 (.slice Ar D.length cr) dr (.slice Ap p.parts.length cp) (.bool p.rest) none 0 0) := Lib.hid ⟨HB2.out, HD.out.below' hb2, HP.out.below' hb2, World.ownsRow_nil _ _ _ _, rfl, by have := hb2.size; omega, by have := hb2.size; omega, HB2.out.size, Nat.le_refl _⟩
  clear hS2 hok hb2 e2 hlt1
  go_wp2_with fail
  go_loopw [7, 17] (fun u s wr => ∃ (k n : Nat) (A2 : Option Addr) (c2 : Nat), s = .int .i64 k ∧ u = .slice A2 n c2 ∧ k ≤ l.length ∧ n ≤ k ∧ Hid (RlSt w wr D p m l w.heap.size (w.heap.size + 1) w2.heap.size k (.slice Ar D.length cr) dr (.slice Ap p.parts.length cp) (.bool p.rest) A2 n c2 ∧ Below w2.heap.size w2 wr)) (fun _ s _ => l.length - (intOf s).toNat)
  case atStart => exact ⟨0, 0, none, 0, rfl, rfl, Nat.zero_le _, Nat.le_refl _, HST.out, Below.refl _ _⟩
  case round =>
    obtain ⟨k, n, A2, c2, rfl, rfl, hk, hnk, HI⟩ := hrel
    by_cases hlt : k < l.length
    · obtain ⟨ad, rfl, hab, x0⟩ := Strs.at_ (HS2.out.below HI.out.2) hlt
      have HT := Lib.hid (show rlPick D p m (l.take (k + 1)) = rlPick D p m (l.take k) ++ (if rlKeep D p m l[k] then [rAt D l[k] m] else []) by rw [List.take_succ_eq_append_getElem hlt, rlPick_snoc])
      have HQ : Hid (l[k].size ≤ 1000000) := Lib.hid (by obtain ⟨r, hr, e⟩ := (HPO.out.mem l[k]).1 (List.getElem_mem hlt); rw [← e]; exact (HV.out r hr).2)
      generalize l[k] = q at x0 HT HQ
      have HTW := Lib.hid (HTA.out q wr HI.out.1.bel)
      obtain ⟨d0, d1, -, -⟩ := box2 HI.out.1.dep
      have HKP : Hid (rlKeep D p m q = (decide (0 < (rAt D q m).num) && (matchP p q).isSome && liveA (rAt D q m).act)) := Lib.hid rfl
      generalize rAt D q m = v at HTW HKP HT
      generalize decide (0 < v.num) = bo at HTW HKP
      go_wp2_with fail
      refine HTW.out.mono ?_
      rintro e w3 ⟨rfl, hb3⟩
      clear d0 d1 x0
      have hX := blk_new w3 [.string v.path, .int .i64 v.num, .int .i64 v.chg, .int .i64 v.act, .int .i64 v.ty.base, .bool v.ty.k, .bool v.ty.l, .bool v.ty.x, .int .u64 v.sum, .int .i64 v.size, .string v.frm, .int .i64 v.fnum] 40
      have hb4 := below_next hb3 ((Below.refl w3.heap.size w3).alloc (Nat.le_refl _) (.cells #[.string v.path, .int .i64 v.num, .int .i64 v.chg, .int .i64 v.act, .int .i64 v.ty.base, .bool v.ty.k, .bool v.ty.l, .bool v.ty.x, .int .u64 v.sum, .int .i64 v.size, .string v.frm, .int .i64 v.fnum] 40))
      go_upto_region 6 with fail
      generalize w3.heap.size = g10 at hX ⊢
      generalize w3.alloc (.cells #[.string v.path, .int .i64 v.num, .int .i64 v.chg, .int .i64 v.act, .int .i64 v.ty.base, .bool v.ty.k, .bool v.ty.l, .bool v.ty.x, .int .u64 v.sum, .int .i64 v.size, .string v.frm, .int .i64 v.fnum] 40) = W4 at hX hb4 ⊢
      have HX4 := Lib.hid hX
      have HS4 := Lib.hid (HI.out.1.under hb4)
      have HZ4 := Lib.hid (below_next HI.out.2 hb4)
      clear hX hb3 hb4
      have HMW := Lib.hid (HMA.out q HQ.out W4 HS4.out.bel)
      obtain ⟨p0, p1, -, -⟩ := box2 HS4.out.pat
      unfold RMPost at HMW
      generalize (matchP p q).isSome = bm at HMW HKP
      go_wp2_with fail
      refine HMW.out.mono ?_
      rintro e w5 ⟨A5, n5, c5, rfl, hb5⟩
      clear p0 p1
      have HX5 := Lib.hid (HX4.out.below' hb5)
      have HS5 := Lib.hid (HS4.out.under hb5)
      have HZ5 := Lib.hid (below_next HZ4.out hb5)
      clear hb5
      by_cases hbb : bo = true ∧ bm = true
      · obtain ⟨rfl, rfl⟩ := hbb
        have HGO := Lib.hid (refGone_any v w5)
        obtain ⟨y0, y1, y2, y3, y4, y5, y6, y7, y8, y9, y10, y11⟩ := box12 HX5.out
        cases hlv : liveA v.act with
        | false =>
          have HE : Hid (rlPick D p m (l.take (k + 1)) = rlPick D p m (l.take k)) := Lib.hid (by rw [HT.out, HKP.out, hlv]; simp)
          rw [hlv] at HGO
          clear hlv
          go_wp2_with fail
          refine HGO.out.mono ?_
          rintro e w6 ⟨rfl, hb6⟩
          have HS6 := Lib.hid (HS5.out.under hb6)
          have HZ6 := Lib.hid (below_next HZ5.out hb6)
          clear hb6 y0 y1 y2 y3 y4 y5 y6 y7 y8 y9 y10 y11
          go_wp2_with fail
          go_roundw
          case rel =>
            refine ⟨k + 1, n, A2, c2, by go_num, rfl, by omega, by omega, ⟨HS6.out.bel, HS6.out.dep, HS6.out.pat, ?_, ?_, HS6.out.ord⟩, HZ6.out⟩
            · rw [HE.out]; exact HS6.out.row
            · rw [HE.out]; exact HS6.out.len
          case measure => simp [intOf]; omega
        | true =>
          have HE : Hid (rlPick D p m (l.take (k + 1)) = rlPick D p m (l.take k) ++ [v]) := Lib.hid (by rw [HT.out, HKP.out, hlv]; simp)
          rw [hlv] at HGO
          clear hlv
          go_wp2_with fail
          refine HGO.out.mono ?_
          rintro e w6 ⟨rfl, hb6⟩
          have HS6 := Lib.hid (HS5.out.under hb6)
          have HZ6 := Lib.hid (below_next HZ5.out hb6)
          have HX6 := Lib.hid (HX5.out.below' hb6)
          clear hb6 y0 y1 y2 y3 y4 y5 y6 y7 y8 y9 y10 y11
          obtain ⟨y0, y1, y2, y3, y4, y5, y6, y7, y8, y9, y10, y11⟩ := box12 HX6.out
          have hbs := HS6.out.ord.2.2.2
          go_wp2_with (at_builtin; refine wpList_push rfl rfl revElem (own_below HS6.out.row ((Below.refl _ _).alloc (Nat.le_refl _) _)) rfl (row_new w6 [.string v.path, .int .i64 v.num, .int .i64 v.chg, .int .i64 v.act, .int .i64 v.ty.base, .bool v.ty.k, .bool v.ty.l, .bool v.ty.x, .int .u64 v.sum, .int .i64 v.size, .string v.frm, .int .i64 v.fnum] _ 12 1 rfl (by decide) _ rfl) rfl ((Below.refl w2.heap.size w6).alloc hbs _) (Nat.le_trans hbs ((Below.refl w2.heap.size w6).alloc hbs _).size) (rlRev_one v) (by omega) (by unfold maxLen; omega) ?_; intro A' c' w7 hown7 hbl7)
          have HO7 := Lib.hid hown7
          have HB7 := Lib.hid hbl7
          clear y0 y1 y2 y3 y4 y5 y6 y7 y8 y9 y10 y11 hown7 hbl7
          go_wp2_with fail
          go_roundw
          case rel =>
            refine ⟨k + 1, n + 1, A', c', by go_num, rfl, by omega, by omega, ⟨HS6.out.bel.trans (HB7.out.mono HS6.out.ord.2.2.1), HS6.out.dep.low HB7.out HS6.out.ord.1, HS6.out.pat.low HB7.out HS6.out.ord.2.1, ?_, ?_, HS6.out.ord.1, HS6.out.ord.2.1, HS6.out.ord.2.2.1, Nat.le_trans hbs HB7.out.size⟩, HZ6.out.trans HB7.out⟩
            · rw [HE.out, List.flatMap_append, List.flatMap_cons, List.flatMap_nil, List.append_nil]
              exact HO7.out
            · rw [HE.out, List.length_append, List.length_singleton, ← HS6.out.len]
          case measure => simp [intOf]; omega
      · have HE : Hid (rlPick D p m (l.take (k + 1)) = rlPick D p m (l.take k)) := Lib.hid (by
          rw [HT.out, HKP.out]
          cases bo
          · simp
          · cases bm
            · simp
            · exact absurd ⟨rfl, rfl⟩ hbb)
        cases bo
        · clear hbb
          go_wp2_with fail
          go_roundw
          case rel =>
            refine ⟨k + 1, n, A2, c2, by go_num, rfl, by omega, by omega, ⟨HS5.out.bel, HS5.out.dep, HS5.out.pat, ?_, ?_, HS5.out.ord⟩, HZ5.out⟩
            · rw [HE.out]; exact HS5.out.row
            · rw [HE.out]; exact HS5.out.len
          case measure => simp [intOf]; omega
        · cases bm
          · clear hbb
            go_wp2_with fail
            go_roundw
            case rel =>
              refine ⟨k + 1, n, A2, c2, by go_num, rfl, by omega, by omega, ⟨HS5.out.bel, HS5.out.dep, HS5.out.pat, ?_, ?_, HS5.out.ord⟩, HZ5.out⟩
              · rw [HE.out]; exact HS5.out.row
              · rw [HE.out]; exact HS5.out.len
            case measure => simp [intOf]; omega
          · exact absurd ⟨rfl, rfl⟩ hbb
    · have hke : k = l.length := by omega
      have HF : Hid (Below w.heap.size w wr ∧ Revs wr (.slice A2 n c2) (rlPick D p m l)) := Lib.hid (by
        have h := HI.out.1
        subst hke
        have hr := h.row
        have hn := h.len
        rw [List.take_length] at hr hn
        refine ⟨h.bel, ?_⟩
        have := Row.of_own hr
        unfold Revs
        rw [← hn]
        exact this)
      clear HI hke
      go_wp2_with fail
      go_ret
      exact ⟨_, _, rfl, HF.out.1, HF.out.2, HOK.out l HPO.out⟩
end Go.Proofs.YtnblfaagchflaaaGreatDoor
