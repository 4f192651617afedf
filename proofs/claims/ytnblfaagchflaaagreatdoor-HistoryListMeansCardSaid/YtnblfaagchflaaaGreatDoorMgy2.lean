/- history.List: what it does from the list on (a range over the map, the sort). -/
import Derived.Test.YtnblfaagchflaaaGreatDoorMgy0
import Derived.Test.YtnblfaagchflaaaGreatDoorMgy1
import Derived.Test.YtnblfaagchflaaaGreatDoorMzPtE
import Derived.Test.YtnblfaagchflaaaGreatDoorMgw18
import Derived.Test.YtnblfaagchflaaaGreatDoorMgw10
import Derived.Test.YtnblfaagchflaaaGreatDoorMgw8
namespace Go.Proofs.YtnblfaagchflaaaGreatDoor
open Go.RowKit
set_option linter.unusedVariables false
set_option linter.unusedSimpArgs false

def lsEnt (D : List Rev) (m : Int) (q : ByteArray) : ByteArray × Value := (q, (lastR (lsOf D m) q).val)
theorem map_splitL {α β : Type} {f : α → β} {l : List α} {a b : List β} {x : β} (h : l.map f = a ++ x :: b) : ∃ l1 y l2, l = l1 ++ y :: l2 ∧ l1.map f = a ∧ f y = x ∧ l2.map f = b := map_split h.symm
theorem ls_next {w : World} {r B : Nat} {D : List Rev} {m : Int} {lf : List ByteArray} (h : Ranging Value.string w r B (lf.map (lsEnt D m))) :
    (lf = [] ∧ (Instr.next (.pointer (some ⟨r, 0, none⟩)) false 0).run Tryz.prog w = .ok (.tuple #[.bool false]) w) ∨
    ∃ l1 q l2 w', lf = l1 ++ q :: l2 ∧ (Instr.next (.pointer (some ⟨r, 0, none⟩)) false 0).run Tryz.prog w = .ok (.tuple #[.bool true, .string q, (lastR (lsOf D m) q).val]) w' ∧ Ranging Value.string w' r B ((l1 ++ l2).map (lsEnt D m)) ∧
      (Instr.entry (.pointer (some ⟨r, 0, none⟩))).run Tryz.prog w' = .ok (.tuple #[.string q, (lastR (lsOf D m) q).val]) w' ∧ w.grownBy w' (some r) ∧ w'.heap.size = w.heap.size := by
  rcases h.next (P := Tryz.prog) 0 with ⟨h1, h2⟩ | ⟨a, p, b, w', h1, h2, h3, h4, h5, h6⟩
  · exact .inl ⟨List.map_eq_nil_iff.1 h1, h2⟩
  · obtain ⟨l1, q, l2, rfl, rfl, rfl, rfl⟩ := map_splitL h1
    exact .inr ⟨l1, q, l2, w', rfl, h2, by rw [List.map_append]; exact h3, h4, h5, h6⟩
theorem nodup_len {α : Type} [DecidableEq α] : ∀ {l m : List α}, l.Nodup → (∀ x ∈ l, x ∈ m) → l.length ≤ m.length
  | [], m, _, _ => Nat.zero_le _
  | a :: l, m, hn, h => by
    rw [List.nodup_cons] at hn
    have ha := h a (List.mem_cons_self ..)
    have := nodup_len (m := m.erase a) hn.2 fun x hx => (List.mem_erase_of_ne (fun e => hn.1 (by rw [← e]; exact hx))).2 (h x (List.mem_cons_of_mem _ hx))
    rw [List.length_erase_of_mem ha] at this
    have := List.length_pos_of_mem ha
    rw [List.length_cons]; omega
theorem lsPick_len (D : List Rev) (p : Pat) (m : Int) (ks : List ByteArray) : (lsPick D p m ks).length ≤ ks.length := by
  unfold lsPick; rw [List.length_map]; exact List.length_filter_le ..
theorem ls_rng_low {w w' : World} {r B base : Nat} {l : List (ByteArray × Value)} (h : Ranging Value.string w r B l) (hb : Below base w w') (h1 : r < base) (h2 : B < base) : Ranging Value.string w' r B l := h.keep (hb.block B h2) (hb.block r h1)
theorem lsKeep_at {p : Pat} {f : ByteArray → Option Rev} {q : ByteArray} {r : Rev} (h : lastR f q = r) : lsKeep p f q = ((matchP p q).isSome && liveA r.act) := by unfold lsKeep; rw [h]
theorem lsRev_one (x : Rev) : ∀ v ∈ x.cells, v.oneCell' = true := by
  intro v hv
  simp only [Rev.cells, List.mem_cons, List.not_mem_nil, or_false] at hv
  rcases hv with rfl | rfl | rfl | rfl | rfl | rfl | rfl | rfl | rfl | rfl | rfl | rfl <;> rfl
/-- The state of the range. -/
structure LsSt (w wr : World) (D : List Rev) (p : Pat) (m : Int) (ks dn lf : List ByteArray) (r B base : Nat) (A : Option Addr) (n c : Nat) : Prop where
  bel : Below w.heap.size w wr
  perm : (dn ++ lf).Perm ks
  rng : Ranging Value.string wr r B (lf.map (lsEnt D m))
  row : wr.ownsRow base 40 12 (.slice A n c) n ((lsPick D p m dn).flatMap Rev.cells)
  len : n = (lsPick D p m dn).length
  rb : w.heap.size ≤ r ∧ r < base ∧ base ≤ wr.heap.size
  blt : B < base
theorem LsSt.under {w wr X : World} {D : List Rev} {p : Pat} {m : Int} {ks dn lf : List ByteArray} {r B base : Nat} {A : Option Addr} {n c : Nat} (h : LsSt w wr D p m ks dn lf r B base A n c) (hX : Below wr.heap.size wr X) : LsSt w X D p m ks dn lf r B base A n c :=
  ⟨below_next h.bel hX, h.perm, h.rng.below hX, own_below h.row hX, h.len, ⟨h.rb.1, h.rb.2.1, Nat.le_trans h.rb.2.2 hX.size⟩, h.blt⟩
theorem own_grownL {w w' : World} {B r : Nat} {e : TypeId} {k : Nat} {v : Value} {n : Nat} {xs : List Value} (h : w.ownsRow B e k v n xs) (hb : w.grownBy w' (some r)) (hr : r < B) : w'.ownsRow B e k v n xs := by
  refine ⟨h.1, ?_⟩
  rcases h.2 with ⟨e1, e2⟩ | ⟨g, cap, cur, e1, h1, hg, rest⟩
  · exact .inl ⟨e1, e2⟩
  · exact .inr ⟨g, cap, cur, e1, h1, (hb.block g (Array.getElem?_eq_some_iff.1 hg).1 (by intro e; injection e with e; omega)).trans hg, rest⟩
/-- An entry is taken. -/
theorem LsSt.step {w wr w' : World} {D : List Rev} {p : Pat} {m : Int} {ks dn l1 l2 : List ByteArray} {q : ByteArray} {r B base : Nat} {A : Option Addr} {n c : Nat} (h : LsSt w wr D p m ks dn (l1 ++ q :: l2) r B base A n c)
    (hr : Ranging Value.string w' r B ((l1 ++ l2).map (lsEnt D m))) (hg : wr.grownBy w' (some r)) (hs : w'.heap.size = wr.heap.size) :
    Below w.heap.size w w' ∧ ((dn ++ [q]) ++ (l1 ++ l2)).Perm ks ∧ w'.ownsRow base 40 12 (.slice A n c) n ((lsPick D p m dn).flatMap Rev.cells) := by
  refine ⟨h.bel.grown hg h.bel.size (fun k e => by injection e with e; have := h.rb.1; omega), ?_, own_grownL h.row hg h.rb.2.1⟩
  refine List.Perm.trans ?_ h.perm
  rw [List.append_assoc, List.singleton_append]
  exact List.Perm.append_left dn (List.perm_middle.symm)
set_option maxRecDepth 100000 in
set_option maxHeartbeats 8000000 in
theorem lsT11 (T : Code) (hT : Tryz.f8.body.bind (tailAt 11) = some T) (R : Ending → World → Prop) (D : List Rev) (p : Pat) (m : Int) (Ap : Option Addr) (cp g4 B : Nat) (w : World) (he : Env w)
    (hB : Blk w g4 25 [.slice Ap p.parts.length cp, .bool p.rest]) (hS : Strs w (.slice Ap p.parts.length cp) p.parts) (hz : ∀ x ∈ p.parts, x.size ≤ maxLen)
    (hM : NMap Value.string Rev.val w B (lsOf D m)) (hv : ∀ r ∈ D, validS r.path = true ∧ r.path.size ≤ 1000000) (hl : D.length ≤ 1000000)
    (hRR : ∀ (v : Value) (l : List Rev) (w' : World), Below w.heap.size w w' → Revs w' v l → LsOk D p m l → l.length ≤ D.length → R (.returned v) w')
    (u0 u1 u2 u3 u5 u6 u8 u9 u10 u11 u12 u13 u14 u15 u16 u17 u18 u19 u20 u21 u22 u23 u24 u25 u26 u27 u28 u29 u30 u31 u32 u33 u34 u35 u36 u37 u38 u39 u40 u41 u42 u43 u44 u45 u46 u47 u48 u49 u50 u51 u52 u53 u54 u55 u56 u57 u58 u59 u60 u61 u62 u63 u64 u65 u66 u67 u68 u69 u70 u71 u72 u73 u74 u75 u76 u77 u78 u79 u80 : Value) :
    T.wp Tryz.prog (bodyPost Tryz.prog Tryz.f8 R) ⟨#[u0, u1, u2, u3, .pointer (some ⟨g4, 0, none⟩), u5, u6, .map (some B), u8, u9, u10, u11, u12, u13, u14, u15, u16, u17, u18, u19, u20, u21, u22, u23, u24, u25, u26, u27, u28, u29, u30, u31, u32, u33, u34, u35, u36, u37, u38, u39, u40, u41, u42, u43, u44, u45, u46, u47, u48, u49, u50, u51, u52, u53, u54, u55, u56, u57, u58, u59, u60, u61, u62, u63, u64, u65, u66, u67, u68, u69, u70, u71, u72, u73, u74, u75, u76, u77, u78, u79, u80], []⟩ w := by
  simp only [Tryz.f8, Option.bind_some, tailAt, hasReg] at hT
  simp at hT
  subst hT
  obtain ⟨ks, hkn, hki, hKM⟩ := hM.keys zeroRev.val
  have hkm : ks.map (fun x => (x, ((lsOf D m x).map Rev.val).getD zeroRev.val)) = ks.map (lsEnt D m) := by
    refine List.map_congr_left fun q _ => ?_
    unfold lsEnt lastR
    cases lsOf D m q <;> rfl
  rw [hkm] at hKM
  have hkl : ks.length ≤ D.length := by
    have := nodup_len (m := D.map (·.path)) hkn fun q hq => by
      obtain ⟨e1, -, e3⟩ := lastR_path ((hki q).1 hq)
      exact List.mem_map.2 ⟨_, e3, e1⟩
    rwa [List.length_map] at this
  have hkv : ∀ q ∈ ks, q.size ≤ 1000000 := fun q hq => by
    obtain ⟨e1, -, e3⟩ := lastR_path ((hki q).1 hq)
    rw [← e1]; exact (hv _ e3).2
  have HOK := Lib.hid (fun (l : List Rev) (dn : List ByteArray) (hd : dn.Perm ks) (hp : l.Perm (lsPick D p m dn)) (hs : l.Pairwise (fun a b => ¬ cmpP b.path a.path < 0)) => (⟨lsOk_sorted (fun r hr => (hv r hr).1) ((hd.nodup_iff).2 hkn) (fun x => (hd.mem_iff).trans (hki x)) hp hs, by rw [hp.length_eq]; exact Nat.le_trans (lsPick_len D p m dn) (by rw [hd.length_eq]; exact hkl)⟩ : LsOk D p m l ∧ l.length ≤ D.length))
  have HPV := Lib.hid (fun (dn : List ByteArray) (hd : dn.Perm ks) => (fun r hr => by
    have := (lsPick_mem (fun x => (hd.mem_iff).trans (hki x)) r).1 hr
    have := this.1
    rw [← lsOf_eq] at this
    exact hv r (lsOf_mem this).1 : ∀ r ∈ lsPick D p m dn, validS r.path = true ∧ r.path.size ≤ 1000000))
  have HKV := Lib.hid hkv
  have HKL := Lib.hid (show ks.length ≤ 1000000 by omega)
  have HRR := Lib.hid hRR
  have HB := Lib.hid hB
  have HMT := Lib.hid (fun (q : ByteArray) (hq : q ∈ ks) X (hX : Below w.heap.size w X) => match_any p q Ap cp X (he.below hX) (hkv q hq) (hS.below hX) hz)
  obtain ⟨w3, hrg, hR3, hb3, hs3⟩ := hKM.range (P := Tryz.prog) Tryz.underlying63
  have HST : Hid (LsSt w w3 D p m ks [] ks w.heap.size B w3.heap.size none 0 0) := Lib.hid ⟨hb3, List.Perm.refl _, hR3, World.ownsRow_nil _ _ _ _, rfl, ⟨Nat.le_refl _, by omega, Nat.le_refl _⟩, by have := hKM.lt; omega⟩
  have HRB : Hid (w.heap.size < w3.heap.size) := Lib.hid (by omega)
  clear hkn hki hKM hkm hkv hkl hv hRR hB hS hz he hM hR3 hb3 hl
  go_wp2_with fail
  clear hrg hs3
  have hlk : ks.length = ks.length := rfl
  go_loopg [12] ks.length (fun g v wr => ∃ (dn lf : List ByteArray) (A : Option Addr) (n c : Nat), lf.length = g ∧ v = .slice A n c ∧ Hid (LsSt w wr D p m ks dn lf w.heap.size B w3.heap.size A n c))
  case atStart => exact ⟨[], ks, none, 0, 0, rfl, rfl, HST⟩
  case round =>
    obtain ⟨dn, lf, A, n, c, hlen, rfl, HI⟩ := hrel
    rcases ls_next HI.out.rng with ⟨rfl, hnx⟩ | ⟨l1, q, l2, w4, rfl, hnx, hrn4, hen, hg4, hs4⟩
    · have hdp : dn.Perm ks := by have := HI.out.perm; rwa [List.append_nil] at this
      have hlen2 := HI.out.len
      have HSO := Lib.hid (sortPaths_any (lsPick D p m dn) (.slice A n c) w3.heap.size wr (by rw [← hlen2]; exact HI.out.row) (by have := lsPick_len D p m dn; have := hdp.length_eq; have := HKL.out; omega) (HPV.out dn hdp))
      have HDP := Lib.hid hdp
      have HLN := Lib.hid hlen2
      clear hdp hlen2
      go_wp2_with fail
      refine HSO.out.mono ?_
      rintro e w' ⟨rfl, l', h1, h2, h3, h4⟩
      have HX : Hid (Below w.heap.size w w' ∧ Revs w' (.slice A n c) l' ∧ LsOk D p m l' ∧ l'.length ≤ D.length) := Lib.hid ⟨HI.out.bel.grown h4 HI.out.bel.size (fun k e => Nat.le_trans (by have := HI.out.rb; omega) (HI.out.row.lt k e).1), by
        have := Row.of_own h3
        unfold Revs
        rw [h1.length_eq, ← HLN.out]
        rw [← HLN.out] at this
        exact this, HOK.out l' dn HDP.out h1 (h2.imp fun h => by omega)⟩
      clear h1 h2 h3 h4 hnx
      go_wp2_with fail
      exact HRR.out _ _ _ HX.out.1 HX.out.2.1 HX.out.2.2.1 HX.out.2.2.2
    · have hqk : q ∈ ks := (HI.out.perm.mem_iff).1 (by simp)
      have hs4b := HI.out.rb
      have HST4 := Lib.hid (HI.out.step hrn4 hg4 hs4)
      have HRN := Lib.hid hrn4
      have HBB := Lib.hid (show w3.heap.size ≤ w4.heap.size by omega)
      have HBL := Lib.hid HI.out.blt
      have HLN := Lib.hid HI.out.len
      have HPK := Lib.hid (lsPick_snoc D p m dn q)
      obtain ⟨r0, hr0⟩ : ∃ r0, lastR (lsOf D m) q = r0 := ⟨_, rfl⟩
      rw [lsKeep_at hr0, hr0] at HPK
      rw [hr0] at hnx hen
      have hnx' : (Instr.next (.pointer (some ⟨w.heap.size, 0, none⟩)) false 0).run Tryz.prog wr = .ok (.tuple #[.bool true, .string q, .agg #[.string r0.path, .int .i64 r0.num, .int .i64 r0.chg, .int .i64 r0.act, .int .i64 r0.ty.base, .bool r0.ty.k, .bool r0.ty.l, .bool r0.ty.x, .int .u64 r0.sum, .int .i64 r0.size, .string r0.frm, .int .i64 r0.fnum]]) w4 := hnx
      have hen' : (Instr.entry (.pointer (some ⟨w.heap.size, 0, none⟩))).run Tryz.prog w4 = .ok (.tuple #[.string q, .agg #[.string r0.path, .int .i64 r0.num, .int .i64 r0.chg, .int .i64 r0.act, .int .i64 r0.ty.base, .bool r0.ty.k, .bool r0.ty.l, .bool r0.ty.x, .int .u64 r0.sum, .int .i64 r0.size, .string r0.frm, .int .i64 r0.fnum]]) w4 := hen
      have hlen2 : (l1 ++ l2).length = gk - 1 ∧ gk ≠ 0 := by simp at hlen ⊢; omega
      have HLE := Lib.hid hlen2
      have hnl : n ≤ 1000000 := by
        have h1 := lsPick_len D p m dn
        have h2 := HI.out.perm.length_eq
        rw [List.length_append] at h2
        have := HKL.out
        have := HLN.out
        omega
      clear hnx hen hr0 hrn4 hg4 hs4 hlen hs4b HI hlen2
      have hX := blk_new w4 [.string r0.path, .int .i64 r0.num, .int .i64 r0.chg, .int .i64 r0.act, .int .i64 r0.ty.base, .bool r0.ty.k, .bool r0.ty.l, .bool r0.ty.x, .int .u64 r0.sum, .int .i64 r0.size, .string r0.frm, .int .i64 r0.fnum] 40
      have hA1 : Below w4.heap.size w4 (w4.alloc (.cells #[.string r0.path, .int .i64 r0.num, .int .i64 r0.chg, .int .i64 r0.act, .int .i64 r0.ty.base, .bool r0.ty.k, .bool r0.ty.l, .bool r0.ty.x, .int .u64 r0.sum, .int .i64 r0.size, .string r0.frm, .int .i64 r0.fnum] 40)) := (Below.refl _ _).alloc (Nat.le_refl _) _
      go_upto_region 15 with fail
      clear hnx' hen'
      generalize w4.alloc (.cells #[.string r0.path, .int .i64 r0.num, .int .i64 r0.chg, .int .i64 r0.act, .int .i64 r0.ty.base, .bool r0.ty.k, .bool r0.ty.l, .bool r0.ty.x, .int .u64 r0.sum, .int .i64 r0.size, .string r0.frm, .int .i64 r0.fnum] 40) = V1 at hX hA1 ⊢
      have HX1 := Lib.hid hX
      have HA1 := Lib.hid hA1
      have HV1 := Lib.hid (below_next HST4.out.1 hA1)
      obtain ⟨d0, d1, -, -⟩ := box2 (HB.out.below HV1.out HB.out.lt)
      have HM1 := Lib.hid (HMT.out q hqk V1 HV1.out)
      clear hX hA1
      go_wp2_with fail
      refine HM1.out.mono ?_
      rintro e w5 ⟨A5, n5, c5, rfl, hb5, -⟩
      clear d0 d1 HM1
      have HX5 := Lib.hid (HX1.out.below hb5 HX1.out.lt)
      have HB5 := Lib.hid (below_next HA1.out hb5)
      clear hb5
      cases hmt : (matchP p q).isSome with
      | false =>
        have HPK2 : Hid (lsPick D p m (dn ++ [q]) = lsPick D p m dn) := Lib.hid (by rw [HPK.out, hmt]; simp)
        obtain ⟨x0, x1, x2, x3, x4, x5, x6, x7, x8, x9, x10, x11⟩ := box12 HX5.out
        clear hmt
        go_wp2_with fail
        go_roundg (gk - 1)
        case measure => have := HLE.out.2; omega
        case rel =>
          refine ⟨dn ++ [q], l1 ++ l2, A, n, c, HLE.out.1, rfl, ⟨below_next HST4.out.1 HB5.out, HST4.out.2.1, HRN.out.below HB5.out, ?_, ?_, ⟨Nat.le_refl _, ?_, Nat.le_trans HBB.out HB5.out.size⟩, HBL.out⟩⟩
          · rw [HPK2.out]; exact own_below HST4.out.2.2 HB5.out
          · rw [HPK2.out]; exact HLN.out
          · exact HRB.out
      | true =>
        obtain ⟨x0, x1, x2, x3, x4, x5, x6, x7, x8, x9, x10, x11⟩ := box12 HX5.out
        cases hlv : liveA r0.act with
        | false =>
          have HPK2 : Hid (lsPick D p m (dn ++ [q]) = lsPick D p m dn) := Lib.hid (by rw [HPK.out, hmt, hlv]; simp)
          have HLV := Lib.hid (isLive_any r0.act w5)
          rw [hlv] at HLV
          clear hmt hlv
          go_wp2_with fail
          refine HLV.out.mono ?_
          rintro e w6 ⟨rfl, rfl⟩
          go_wp2_with fail
          go_roundg (gk - 1)
          case measure => have := HLE.out.2; omega
          case rel =>
            refine ⟨dn ++ [q], l1 ++ l2, A, n, c, HLE.out.1, rfl, ⟨below_next HST4.out.1 HB5.out, HST4.out.2.1, HRN.out.below HB5.out, ?_, ?_, ⟨Nat.le_refl _, ?_, Nat.le_trans HBB.out HB5.out.size⟩, HBL.out⟩⟩
            · rw [HPK2.out]; exact own_below HST4.out.2.2 HB5.out
            · rw [HPK2.out]; exact HLN.out
            · exact HRB.out
        | true =>
          have HPK2 : Hid (lsPick D p m (dn ++ [q]) = lsPick D p m dn ++ [r0]) := Lib.hid (by rw [HPK.out, hmt, hlv]; simp)
          have HLV := Lib.hid (isLive_any r0.act w5)
          rw [hlv] at HLV
          have HOW := Lib.hid (own_below HST4.out.2.2 HB5.out)
          have hbs : w3.heap.size ≤ w5.heap.size := Nat.le_trans HBB.out HB5.out.size
          clear hmt hlv
          go_wp2_with fail
          refine HLV.out.mono ?_
          rintro e w6 ⟨rfl, rfl⟩
          go_wp2_with (at_builtin; refine wpList_push rfl rfl revElem (own_below HOW.out ((Below.refl _ _).alloc (Nat.le_refl _) _)) rfl (row_new w5 [.string r0.path, .int .i64 r0.num, .int .i64 r0.chg, .int .i64 r0.act, .int .i64 r0.ty.base, .bool r0.ty.k, .bool r0.ty.l, .bool r0.ty.x, .int .u64 r0.sum, .int .i64 r0.size, .string r0.frm, .int .i64 r0.fnum] _ 12 1 rfl (by decide) _ rfl) rfl ((Below.refl w3.heap.size w5).alloc hbs _) (Nat.le_trans hbs ((Below.refl w3.heap.size w5).alloc hbs _).size) (lsRev_one r0) (by omega) (by unfold maxLen; omega) ?_; intro A' c' w7 hown7 hbl7)
          have HO7 := Lib.hid hown7
          have HB7 := Lib.hid hbl7
          clear x0 x1 x2 x3 x4 x5 x6 x7 x8 x9 x10 x11 hown7 hbl7
          go_wp2_with fail
          go_roundg (gk - 1)
          case measure => have := HLE.out.2; omega
          case rel =>
            have hrb : w.heap.size < w3.heap.size := HRB.out
            refine ⟨dn ++ [q], l1 ++ l2, A', n + 1, c', HLE.out.1, rfl, ⟨(below_next HST4.out.1 HB5.out).trans (HB7.out.mono (Nat.le_of_lt hrb)), HST4.out.2.1, ls_rng_low (HRN.out.below HB5.out) HB7.out hrb HBL.out, ?_, ?_, ⟨Nat.le_refl _, hrb, Nat.le_trans hbs HB7.out.size⟩, HBL.out⟩⟩
            · rw [HPK2.out, List.flatMap_append, List.flatMap_cons, List.flatMap_nil, List.append_nil]
              exact HO7.out
            · rw [HPK2.out, List.length_append, List.length_singleton, ← HLN.out]
end Go.Proofs.YtnblfaagchflaaaGreatDoor
/- history.List walked. -/
namespace Go.Proofs.YtnblfaagchflaaaGreatDoor
open Go.RowKit
set_option linter.unusedVariables false
set_option linter.unusedSimpArgs false

def ListPost (w : World) (D : List Rev) (p : Pat) (m : Int) (e : Ending) (w' : World) : Prop := ∃ v l, e = .returned v ∧ Below w.heap.size w w' ∧ Revs w' v l ∧ LsOk D p m l ∧ l.length ≤ D.length
theorem revs_none (w : World) : Revs w (.slice none 0 0) [] := Row.of_own (base := 0) (e := 0) (World.ownsRow_nil _ _ _ _)
/-- The state of the first loop. -/
structure L1St (w wr : World) (D : List Rev) (p : Pat) (m : Int) (Ap : Option Addr) (cp g4 B k : Nat) : Prop where
  bel : Below w.heap.size w wr
  pat : Blk wr g4 25 [.slice Ap p.parts.length cp, .bool p.rest]
  map : NMap Value.string Rev.val wr B (lsOf (D.take k) m)
theorem L1St.under {w wr X : World} {D : List Rev} {p : Pat} {m : Int} {Ap : Option Addr} {cp g4 B k : Nat} (h : L1St w wr D p m Ap cp g4 B k) (hX : Below wr.heap.size wr X) : L1St w X D p m Ap cp g4 B k :=
  ⟨below_next h.bel hX, h.pat.below hX h.pat.lt, h.map.below hX⟩
set_option maxRecDepth 100000 in
set_option maxHeartbeats 8000000 in
theorem list_any (D : List Rev) (p : Pat) (m : Int) (dv dr : Value) (Ap : Option Addr) (cp : Nat) (w : World) (he : Env w) (hR : Revs w dv D) (hl : D.length ≤ 1000000) (hv : ∀ r ∈ D, validS r.path = true ∧ r.path.size ≤ 1000000)
    (hS : Strs w (.slice Ap p.parts.length cp) p.parts) (hz : ∀ x ∈ p.parts, x.size ≤ maxLen) :
    Calls Tryz.prog 8 #[.agg #[dv, dr], .agg #[.slice Ap p.parts.length cp, .bool p.rest], .int .i64 m] w (ListPost w D p m) := by
  obtain ⟨Ar, cr, rfl, hcr, hmr, -⟩ := id hR
  have HR := Lib.hid hR
  have HEN := Lib.hid he
  have HS := Lib.hid hS
  have HZ := Lib.hid hz
  have HV := Lib.hid hv
  have HL := Lib.hid hl
  clear hR he hS hz hv
  unfold maxLen at hmr
  have hmm := @run_makeMap Tryz.prog
  have hb0 : Below w.heap.size w ((w.alloc (.cells #[.slice Ar D.length cr, dr] 31)).alloc (.cells #[.slice Ap p.parts.length cp, .bool p.rest] 25)) := ((Below.refl _ _).alloc (Nat.le_refl _) _).alloc (by simp) _
  have hD : Blk ((w.alloc (.cells #[.slice Ar D.length cr, dr] 31)).alloc (.cells #[.slice Ap p.parts.length cp, .bool p.rest] 25)) w.heap.size 31 [.slice Ar D.length cr, dr] := (blk_new w _ _).alloc _
  have hP : Blk ((w.alloc (.cells #[.slice Ar D.length cr, dr] 31)).alloc (.cells #[.slice Ap p.parts.length cp, .bool p.rest] 25)) (w.heap.size + 1) 25 [.slice Ap p.parts.length cp, .bool p.rest] := by
    have := blk_new (w.alloc (.cells #[.slice Ar D.length cr, dr] 31)) [.slice Ap p.parts.length cp, .bool p.rest] 25
    simp only [World.size_alloc] at this
    exact this
  go_enter Tryz.func8, Tryz.ntmps8
  go_upto_region 1 with fail
  generalize (w.alloc (.cells #[.slice Ar D.length cr, dr] 31)).alloc (.cells #[.slice Ap p.parts.length cp, .bool p.rest] 25) = W1 at hb0 hD hP ⊢
  have HB0 := Lib.hid hb0
  have HD := Lib.hid hD
  have HP := Lib.hid hP
  have HCK := Lib.hid (patCheck_any p Ap cp W1 (HS.out.below hb0) HZ.out)
  obtain ⟨p0, p1, -, -⟩ := box2 hP
  clear hb0 hD hP
  go_wp2_with fail
  refine HCK.out.mono ?_
  rintro e w2 ⟨rfl, hb2⟩
  have HB2 := Lib.hid (below_next HB0.out hb2)
  have HP2 := Lib.hid (HP.out.below hb2 HP.out.lt)
  have HD2 := Lib.hid (HD.out.below hb2 HD.out.lt)
  clear hb2 p0 p1 HP HD HCK
  by_cases h0 : patE p = 0
  case neg =>
    have q0 : (patE p != 0) = true := by simpa using h0
    have HK := Lib.hid (lsOk_none (D := D) (m := m) h0)
    clear h0
    go_wp2_with fail
    go_ret
    exact ⟨_, [], rfl, HB2.out, revs_none _, HK.out, Nat.zero_le _⟩
  case pos =>
    have q0 : (patE p != 0) = false := by simp [h0]
    have HK0 := Lib.hid h0
    have HS1 : Hid (L1St w (w2.alloc (.map #[] 0)) D p m Ap cp (w.heap.size + 1) w2.heap.size 0) := Lib.hid ⟨HB2.out.alloc HB2.out.size _, HP2.out.alloc _, by rw [List.take_zero]; exact NMap.new Value.string Rev.val w2⟩
    have HDA := Lib.hid (HD2.out.alloc (.map #[] 0))
    clear h0
    go_upto_region 4 with fail
    clear hmm q0
    generalize hBm : w2.heap.size = B at HS1 ⊢
    have HBm := Lib.hid hBm
    clear hBm
    generalize w2.alloc (.map #[] 0) = W4 at HS1 HDA ⊢
    obtain ⟨d0, d1, -, -⟩ := box2 HDA.out
    go_upto_block 0 with fail
    clear d0 d1
    go_cut [] (fun wx => Hid (L1St w wx D p m Ap cp (w.heap.size + 1) B D.length))
    case first =>
      go_wp2_with fail
      go_loopw [24] (fun s wr => ∃ k : Nat, s = .int .i64 k ∧ k ≤ D.length ∧ Hid (L1St w wr D p m Ap cp (w.heap.size + 1) B k)) (fun s _ => D.length - (intOf s).toNat)
      case atStart => exact ⟨0, rfl, Nat.zero_le _, HS1.out⟩
      case round =>
        obtain ⟨k, rfl, hk, HI⟩ := hrel
        by_cases hlt : k < D.length
        · obtain ⟨ad, rfl, hab, hld⟩ := Revs.at_ (HR.out.below HI.out.bel) hlt
          have HN := Lib.hid (lsOf_snoc D m k hlt)
          generalize D[k] = r at hld HN
          obtain ⟨x0, x1, x2, x3, x4, x5, x6, x7, x8, x9, x10, x11⟩ := hld
          have hX := blk_new wr [.string r.path, .int .i64 r.num, .int .i64 r.chg, .int .i64 r.act, .int .i64 r.ty.base, .bool r.ty.k, .bool r.ty.l, .bool r.ty.x, .int .u64 r.sum, .int .i64 r.size, .string r.frm, .int .i64 r.fnum] 40
          have hS1 := HI.out.under ((Below.refl wr.heap.size wr).alloc (Nat.le_refl _) (.cells #[.string r.path, .int .i64 r.num, .int .i64 r.chg, .int .i64 r.act, .int .i64 r.ty.base, .bool r.ty.k, .bool r.ty.l, .bool r.ty.x, .int .u64 r.sum, .int .i64 r.size, .string r.frm, .int .i64 r.fnum] 40))
          go_upto_region 7 with fail
          clear x0 x1 x2 x3 x4 x5 x6 x7 x8 x9 x10 x11
          generalize wr.alloc (.cells #[.string r.path, .int .i64 r.num, .int .i64 r.chg, .int .i64 r.act, .int .i64 r.ty.base, .bool r.ty.k, .bool r.ty.l, .bool r.ty.x, .int .u64 r.sum, .int .i64 r.size, .string r.frm, .int .i64 r.fnum] 40) = V1 at hX hS1 ⊢
          have HX1 := Lib.hid hX
          have HS2 := Lib.hid hS1
          obtain ⟨c0, -⟩ := box12 hX
          have hlk := LastMap.look2 (w := V1) (hS1.map.fmap) r.path
          obtain ⟨r0, hr0⟩ : ∃ r0, lastR (lsOf (D.take k) m) r.path = r0 := ⟨_, rfl⟩
          obtain ⟨bs, hbs⟩ : ∃ b, (lsOf (D.take k) m r.path).isSome = b := ⟨_, rfl⟩
          rw [hr0, hbs] at hlk
          have HM : Hid (lsM m (lsOf (D.take k) m) r = if r.chg ≤ m ∧ (bs = false ∨ r0.num < r.num) then upd (lsOf (D.take k) m) r.path r else lsOf (D.take k) m) := Lib.hid (by
            rw [← hbs, ← hr0]; rfl)
          have hY := blk_new V1 [.string r0.path, .int .i64 r0.num, .int .i64 r0.chg, .int .i64 r0.act, .int .i64 r0.ty.base, .bool r0.ty.k, .bool r0.ty.l, .bool r0.ty.x, .int .u64 r0.sum, .int .i64 r0.size, .string r0.frm, .int .i64 r0.fnum] 40
          have hS3 := hS1.under ((Below.refl V1.heap.size V1).alloc (Nat.le_refl _) (.cells #[.string r0.path, .int .i64 r0.num, .int .i64 r0.chg, .int .i64 r0.act, .int .i64 r0.ty.base, .bool r0.ty.k, .bool r0.ty.l, .bool r0.ty.x, .int .u64 r0.sum, .int .i64 r0.size, .string r0.frm, .int .i64 r0.fnum] 40))
          have hX3 := hX.alloc (.cells #[.string r0.path, .int .i64 r0.num, .int .i64 r0.chg, .int .i64 r0.act, .int .i64 r0.ty.base, .bool r0.ty.k, .bool r0.ty.l, .bool r0.ty.x, .int .u64 r0.sum, .int .i64 r0.size, .string r0.frm, .int .i64 r0.fnum] 40)
          clear hr0 hbs hX hS1
          go_upto_region 8 with fail
          clear hlk c0
          generalize V1.alloc (.cells #[.string r0.path, .int .i64 r0.num, .int .i64 r0.chg, .int .i64 r0.act, .int .i64 r0.ty.base, .bool r0.ty.k, .bool r0.ty.l, .bool r0.ty.x, .int .u64 r0.sum, .int .i64 r0.size, .string r0.frm, .int .i64 r0.fnum] 40) = V2 at hY hS3 hX3 ⊢
          have HS3 := Lib.hid hS3
          have HX3 := Lib.hid hX3
          obtain ⟨c0, c1, c2, c3, c4, c5, c6, c7, c8, c9, c10, c11⟩ := box12 hX3
          have y1 : V2.cell? ⟨V1.heap.size, 1, none⟩ = some (.int .i64 r0.num) := hY.cell 1
          clear hY hS3 hX3 HX1 HS2
          obtain ⟨u, hu⟩ : ∃ u : Bool, u = decide (r.chg ≤ m ∧ (bs = false ∨ r0.num < r.num)) := ⟨_, rfl⟩
          have HU := Lib.hid hu
          clear hu
          go_cut [49] (fun v wx => v = .bool u ∧ wx = V2)
          case first =>
            clear c0 c3 c4 c5 c6 c7 c8 c9 c10 c11
            by_cases hc : r.chg ≤ m
            · have qc : decide (r.chg ≤ m) = true := by simpa using hc
              cases bs with
              | false =>
                have HE : Hid (u = true) := Lib.hid (by rw [HU.out]; simp [hc])
                clear hc
                go_wp2_with fail
                go_meet
                exact ⟨by rw [HE.out], rfl⟩
              | true =>
                by_cases hn : r0.num < r.num
                · have qn : decide (r0.num < r.num) = true := by simpa using hn
                  have HE : Hid (u = true) := Lib.hid (by rw [HU.out]; simp [hc, hn])
                  clear hc hn
                  go_wp2_with fail
                  go_meet
                  exact ⟨by rw [HE.out], rfl⟩
                · have qn : decide (r0.num < r.num) = false := by simpa using hn
                  have HE : Hid (u = false) := Lib.hid (by rw [HU.out]; simp [hn])
                  clear hc hn
                  go_wp2_with fail
                  go_meet
                  exact ⟨by rw [HE.out], rfl⟩
            · have qc : decide (r.chg ≤ m) = false := by simpa using hc
              have HE : Hid (u = false) := Lib.hid (by rw [HU.out]; simp [hc])
              clear hc
              go_wp2_with fail
              go_meet
              exact ⟨by rw [HE.out], rfl⟩
          case rest =>
            obtain ⟨rfl, rfl⟩ := hcut
            cases u with
            | false =>
              have HE : Hid (lsOf (D.take (k + 1)) m = lsOf (D.take k) m) := Lib.hid (by rw [HN.out, HM.out, if_neg (of_decide_eq_false HU.out.symm)])
              clear c0 c1 c2 c3 c4 c5 c6 c7 c8 c9 c10 c11 y1
              go_wp2_with fail
              go_roundw
              case rel => exact ⟨k + 1, by go_num, by omega, HS3.out.bel, HS3.out.pat, by rw [HE.out]; exact HS3.out.map⟩
              case measure => simp [intOf]; omega
            | true =>
              have HE : Hid (lsOf (D.take (k + 1)) m = upd (lsOf (D.take k) m) r.path r) := Lib.hid (by rw [HN.out, HM.out, if_pos (of_decide_eq_true HU.out.symm)])
              obtain ⟨w3, hup, hM3, hg3, hs3⟩ := NMap.update HS3.out.map keyOk_str Tryz.underlying63 r.path r
              have hup' : (Instr.mapUpdate 63 (.map (some B)) (.string r.path) (.agg #[.string r.path, .int .i64 r.num, .int .i64 r.chg, .int .i64 r.act, .int .i64 r.ty.base, .bool r.ty.k, .bool r.ty.l, .bool r.ty.x, .int .u64 r.sum, .int .i64 r.size, .string r.frm, .int .i64 r.fnum])).run Tryz.prog wc = .ok () w3 := hup
              have HG : Hid (L1St w w3 D p m Ap cp (w.heap.size + 1) B (k + 1)) := Lib.hid ⟨HS3.out.bel.grown hg3 HS3.out.bel.size (fun j e => by injection e with e; have := HBm.out; have := HB2.out.size; omega), HS3.out.pat.turn (FMap.obj HS3.out.map.fmap) hg3, by rw [HE.out]; exact hM3⟩
              clear hup hM3 hg3 hs3 y1
              go_wp2_with fail
              go_roundw
              case rel => exact ⟨k + 1, by go_num, by omega, HG.out⟩
              case measure => simp [intOf]; omega
        · have HST : Hid (L1St w wr D p m Ap cp (w.heap.size + 1) B D.length) := Lib.hid (by
            have : k = D.length := by omega
            subst this; exact HI.out)
          clear HI
          go_wp2_with fail
          go_meet
          exact HST.out
    case rest =>
      have HST := Lib.hid hcut.out
      clear hcut
      have hk := ‹∀ (a : Act) (w : World), Code.wp _ _ _ a w → _›
      exact hk _ _ (lsT11 _ (by kernel_rfl) _ D p m Ap cp (w.heap.size + 1) B _ (HEN.out.below HST.out.bel) HST.out.pat (HS.out.below HST.out.bel) HZ.out (by have := HST.out.map; rwa [List.take_length] at this) HV.out HL.out (fun v l w' h1 h2 h3 h4 => ⟨v, l, rfl, below_next HST.out.bel h1, h2, h3, h4⟩) _ _ _ _ _ _ _ _ _ _ _ _ _ _ _ _ _ _ _ _ _ _ _ _ _ _ _ _ _ _ _ _ _ _ _ _ _ _ _ _ _ _ _ _ _ _ _ _ _ _ _ _ _ _ _ _ _ _ _ _ _ _ _ _ _ _ _ _ _ _ _ _ _ _ _ _ _ _ _)
end Go.Proofs.YtnblfaagchflaaaGreatDoor
