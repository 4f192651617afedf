/- history.List: what it does from the list on (a range over the map, the sort). -/
import Derived.Test.YtnblfaagchflaaaGreatDoorMgw22
import Derived.Test.YtnblfaagchflaaaGreatDoorMgw23
import Derived.Test.YtnblfaagchflaaaGreatDoorMgw3
import Derived.Test.YtnblfaagchflaaaGreatDoorMgw24
import Derived.Test.YtnblfaagchflaaaGreatDoorMgw21
import Derived.Test.YtnblfaagchflaaaGreatDoorMgw16
import Derived.Test.YtnblfaagchflaaaGreatDoorMzApW
import Derived.Test.YtnblfaagchflaaaGreatDoorMgw2
import Derived.Test.YtnblfaagchflaaaGreatDoorCards
import Derived.Test.YtnblfaagchflaaaGreatDoorTie
import Derived.ProofKit
import Derived.OpenShut
import Derived.ShutString
import Derived.ChangeOld
import Derived.Deep.Slices
import Derived.Deep.Fields
import Derived.SizedLaws
import Derived.Deep.DeepHandedRow
import Derived.Lib.LaidTab
import Derived.Lib.SmallJoins
namespace Go.Proofs.YtnblfaagchflaaaGreatDoor
open Go.RowKit
set_option linter.unusedVariables false
set_option linter.unusedSimpArgs false

def lsEnt (D : List Rev) (m : Int) (q : ByteArray) : ByteArray × Value := (q, (lastR (lsOf D m) q).val)
theorem map_splitL {α β : Type} {f : α → β} {l : List α} {a b : List β} {x : β} (h : l.map f = a ++ x :: b) : ∃ l1 y l2, l = l1 ++ y :: l2 ∧ l1.map f = a ∧ f y = x ∧ l2.map f = b := map_split h.symm
theorem ls_next {w : World} {r B : Nat} {D : List Rev} {m : Int} {lf : List ByteArray} (h : Ranging Value.string w r B (lf.map (lsEnt D m))) :
    (lf = [] ∧ (Instr.next (.pointer (some ⟨r, 0, none⟩)) false 0).run Tryz.prog w = .ok (.tuple #[.bool false]) w) ∨
    ∃ l1 q l2 w', lf = l1 ++ q :: l2 ∧ (Instr.next (.pointer (some ⟨r, 0, none⟩)) false 0).run Tryz.prog w = .ok (.tuple #[.bool true, .string q, (lastR (lsOf D m) q).val]) w' ∧ Ranging Value.string w' r B ((l1 ++ l2).map (lsEnt D m)) ∧
      (Instr.entry (.pointer (some ⟨r, 0, none⟩))).run Tryz.prog w' = .ok (.tuple #[.string q, (lastR (lsOf D m) q).val]) w' ∧ w.grownBy w' (some r) ∧ w'.heap.size = w.heap.size := by
  rcases h.next (P := Tryz.prog) 0 with ⟨h1, h2⟩ | ⟨a, p, b, w', h1, h2, h3, h4, h5, h6⟩
  · exact .inl ⟨List.map_eq_nil_iff.1 h1, h2⟩
  · obtain ⟨l1, q, l2, rfl, rfl, rfl, rfl⟩ := map_splitL h1
    exact .inr ⟨l1, q, l2, w', rfl, h2, by rw [List.map_append]; exact h3, h4, h5, h6⟩
theorem nodup_len {α : Type} [DecidableEq α] : ∀ {l m : List α}, l.Nodup → (∀ x ∈ l, x ∈ m) → l.length ≤ m.length
  | [], m, _, _ => Nat.zero_le _
  | a :: l, m, hn, h => by
    rw [List.nodup_cons] at hn
    have ha := h a (List.mem_cons_self ..)
    have := nodup_len (m := m.erase a) hn.2 fun x hx => (List.mem_erase_of_ne (fun e => hn.1 (by rw [← e]; exact hx))).2 (h x (List.mem_cons_of_mem _ hx))
    rw [List.length_erase_of_mem ha] at this
    have := List.length_pos_of_mem ha
    rw [List.length_cons]; omega
theorem lsPick_len (D : List Rev) (p : Pat) (m : Int) (ks : List ByteArray) : (lsPick D p m ks).length ≤ ks.length := by
  unfold lsPick; rw [List.length_map]; exact List.length_filter_le ..
theorem ls_rng_low {w w' : World} {r B base : Nat} {l : List (ByteArray × Value)} (h : Ranging Value.string w r B l) (hb : Below base w w') (h1 : r < base) (h2 : B < base) : Ranging Value.string w' r B l := h.keep (hb.block B h2) (hb.block r h1)
theorem lsKeep_at {p : Pat} {f : ByteArray → Option Rev} {q : ByteArray} {r : Rev} (h : lastR f q = r) : lsKeep p f q = ((matchP p q).isSome && liveA r.act) := by unfold lsKeep; rw [h]
theorem lsRev_one (x : Rev) : ∀ v ∈ x.cells, v.oneCell' = true := by
  intro v hv
  simp only [Rev.cells, List.mem_cons, List.not_mem_nil, or_false] at hv
  rcases hv with rfl | rfl | rfl | rfl | rfl | rfl | rfl | rfl | rfl | rfl | rfl | rfl <;> rfl
/-- The state of the range. -/
structure LsSt (w wr : World) (D : List Rev) (p : Pat) (m : Int) (ks dn lf : List ByteArray) (r B base : Nat) (A : Option Addr) (n c : Nat) : Prop where
  bel : Below w.heap.size w wr
  perm : (dn ++ lf).Perm ks
  rng : Ranging Value.string wr r B (lf.map (lsEnt D m))
  row : wr.ownsRow base 40 12 (.slice A n c) n ((lsPick D p m dn).flatMap Rev.cells)
  len : n = (lsPick D p m dn).length
  rb : w.heap.size ≤ r ∧ r < base ∧ base ≤ wr.heap.size
  blt : B < base
theorem LsSt.under {w wr X : World} {D : List Rev} {p : Pat} {m : Int} {ks dn lf : List ByteArray} {r B base : Nat} {A : Option Addr} {n c : Nat} (h : LsSt w wr D p m ks dn lf r B base A n c) (hX : Below wr.heap.size wr X) : LsSt w X D p m ks dn lf r B base A n c :=
  ⟨below_next h.bel hX, h.perm, h.rng.below hX, own_below h.row hX, h.len, ⟨h.rb.1, h.rb.2.1, Nat.le_trans h.rb.2.2 hX.size⟩, h.blt⟩
theorem own_grownL {w w' : World} {B r : Nat} {e : TypeId} {k : Nat} {v : Value} {n : Nat} {xs : List Value} (h : w.ownsRow B e k v n xs) (hb : w.grownBy w' (some r)) (hr : r < B) : w'.ownsRow B e k v n xs := by
  refine ⟨h.1, ?_⟩
  rcases h.2 with ⟨e1, e2⟩ | ⟨g, cap, cur, e1, h1, hg, rest⟩
  · exact .inl ⟨e1, e2⟩
  · exact .inr ⟨g, cap, cur, e1, h1, (hb.block g (Array.getElem?_eq_some_iff.1 hg).1 (by intro e; injection e with e; omega)).trans hg, rest⟩
/-- An entry is taken. -/
theorem LsSt.step {w wr w' : World} {D : List Rev} {p : Pat} {m : Int} {ks dn l1 l2 : List ByteArray} {q : ByteArray} {r B base : Nat} {A : Option Addr} {n c : Nat} (h : LsSt w wr D p m ks dn (l1 ++ q :: l2) r B base A n c)
    (hr : Ranging Value.string w' r B ((l1 ++ l2).map (lsEnt D m))) (hg : wr.grownBy w' (some r)) (hs : w'.heap.size = wr.heap.size) :
    Below w.heap.size w w' ∧ ((dn ++ [q]) ++ (l1 ++ l2)).Perm ks ∧ w'.ownsRow base 40 12 (.slice A n c) n ((lsPick D p m dn).flatMap Rev.cells) := by
  refine ⟨h.bel.grown hg h.bel.size (fun k e => by injection e with e; have := h.rb.1; omega), ?_, own_grownL h.row hg h.rb.2.1⟩
  refine List.Perm.trans ?_ h.perm
  rw [List.append_assoc, List.singleton_append]
  exact List.Perm.append_left dn (List.perm_middle.symm)
set_option maxRecDepth 100000 in
set_option maxHeartbeats 8000000 in
theorem lsT11 (T : Code) (hT : Tryz.f8.body.bind (tailAt 11) = some T) (R : Ending → World → Prop) (D : List Rev) (p : Pat) (m : Int) (Ap : Option Addr) (cp g4 B : Nat) (w : World) (he : Env w)
    (hB : Blk w g4 25 [.slice Ap p.parts.length cp, .bool p.rest]) (hS : Strs w (.slice Ap p.parts.length cp) p.parts) (hz : ∀ x ∈ p.parts, x.size ≤ maxLen)
    (hM : NMap Value.string Rev.val w B (lsOf D m)) (hv : ∀ r ∈ D, validS r.path = true ∧ r.path.size ≤ 1000000) (hl : D.length ≤ 1000000)
    (hRR : ∀ (v : Value) (l : List Rev) (w' : World), Below w.heap.size w w' → Revs w' v l → LsOk D p m l → l.length ≤ D.length → R (.returned v) w')
    (u0 u1 u2 u3 u5 u6 u8 u9 u10 u11 u12 u13 u14 u15 u16 u17 u18 u19 u20 u21 u22 u23 u24 u25 u26 u27 u28 u29 u30 u31 u32 u33 u34 u35 u36 u37 u38 u39 u40 u41 u42 u43 u44 u45 u46 u47 u48 u49 u50 u51 u52 u53 u54 u55 u56 u57 u58 u59 u60 u61 u62 u63 u64 u65 u66 u67 u68 u69 u70 u71 u72 u73 u74 u75 u76 u77 u78 u79 u80 : Value) :
    T.wp Tryz.prog (bodyPost Tryz.prog Tryz.f8 R) ⟨#[u0, u1, u2, u3, .pointer (some ⟨g4, 0, none⟩), u5, u6, .map (some B), u8, u9, u10, u11, u12, u13, u14, u15, u16, u17, u18, u19, u20, u21, u22, u23, u24, u25, u26, u27, u28, u29, u30, u31, u32, u33, u34, u35, u36, u37, u38, u39, u40, u41, u42, u43, u44, u45, u46, u47, u48, u49, u50, u51, u52, u53, u54, u55, u56, u57, u58, u59, u60, u61, u62, u63, u64, u65, u66, u67, u68, u69, u70, u71, u72, u73, u74, u75, u76, u77, u78, u79, u80], []⟩ w := by
  simp only [Tryz.f8, Option.bind_some, tailAt, hasReg] at hT
  simp at hT
  subst hT
  obtain ⟨ks, hkn, hki, hKM⟩ := hM.keys zeroRev.val
  have hkm : ks.map (fun x => (x, ((lsOf D m x).map Rev.val).getD zeroRev.val)) = ks.map (lsEnt D m) := by
    refine List.map_congr_left fun q _ => ?_
    unfold lsEnt lastR
    cases lsOf D m q <;> rfl
  rw [hkm] at hKM
  have hkl : ks.length ≤ D.length := by
    have := nodup_len (m := D.map (·.path)) hkn fun q hq => by
      obtain ⟨e1, -, e3⟩ := lastR_path ((hki q).1 hq)
      exact List.mem_map.2 ⟨_, e3, e1⟩
    rwa [List.length_map] at this
  have hkv : ∀ q ∈ ks, q.size ≤ 1000000 := fun q hq => by
    obtain ⟨e1, -, e3⟩ := lastR_path ((hki q).1 hq)
    rw [← e1]; exact (hv _ e3).2
  have HOK := Lib.hid (fun (l : List Rev) (dn : List ByteArray) (hd : dn.Perm ks) (hp : l.Perm (lsPick D p m dn)) (hs : l.Pairwise (fun a b => ¬ cmpP b.path a.path < 0)) => (⟨lsOk_sorted (fun r hr => (hv r hr).1) ((hd.nodup_iff).2 hkn) (fun x => (hd.mem_iff).trans (hki x)) hp hs, by rw [hp.length_eq]; exact Nat.le_trans (lsPick_len D p m dn) (by rw [hd.length_eq]; exact hkl)⟩ : LsOk D p m l ∧ l.length ≤ D.length))
  have HPV := Lib.hid (fun (dn : List ByteArray) (hd : dn.Perm ks) => (fun r hr => by
    have := (lsPick_mem (fun x => (hd.mem_iff).trans (hki x)) r).1 hr
    have := this.1
    rw [← lsOf_eq] at this
    exact hv r (lsOf_mem this).1 : ∀ r ∈ lsPick D p m dn, validS r.path = true ∧ r.path.size ≤ 1000000))
  have HKV := Lib.hid hkv
  have HKL := Lib.hid (show ks.length ≤ 1000000 by omega)
  have HRR := Lib.hid hRR
  have HB := Lib.hid hB
  have HMT := Lib.hid (fun (q : ByteArray) (hq : q ∈ ks) X (hX : Below w.heap.size w X) => match_any p q Ap cp X (he.below hX) (hkv q hq) (hS.below hX) hz)
  obtain ⟨w3, hrg, hR3, hb3, hs3⟩ := hKM.range (P := Tryz.prog) Tryz.underlying63
  have HST : Hid (LsSt w w3 D p m ks [] ks w.heap.size B w3.heap.size none 0 0) := Lib.hid ⟨hb3, List.Perm.refl _, hR3, World.ownsRow_nil _ _ _ _, rfl, ⟨Nat.le_refl _, by omega, Nat.le_refl _⟩, by have := hKM.lt; omega⟩
  have HRB : Hid (w.heap.size < w3.heap.size) := Lib.hid (by omega)
  clear hkn hki hKM hkm hkv hkl hv hRR hB hS hz he hM hR3 hb3 hl
  go_wp2_with fail
  clear hrg hs3
  have hlk : ks.length = ks.length := rfl
  go_loopg [12] ks.length (fun g v wr => ∃ (dn lf : List ByteArray) (A : Option Addr) (n c : Nat), lf.length = g ∧ v = .slice A n c ∧ Hid (LsSt w wr D p m ks dn lf w.heap.size B w3.heap.size A n c))
  case atStart => exact ⟨[], ks, none, 0, 0, rfl, rfl, HST⟩
  case round =>
    obtain ⟨dn, lf, A, n, c, hlen, rfl, HI⟩ := hrel
    rcases ls_next HI.out.rng with ⟨rfl, hnx⟩ | ⟨l1, q, l2, w4, rfl, hnx, hrn4, hen, hg4, hs4⟩
    · have hdp : dn.Perm ks := by have := HI.out.perm; rwa [List.append_nil] at this
      have hlen2 := HI.out.len
      have HSO := Lib.hid (sortPaths_any (lsPick D p m dn) (.slice A n c) w3.heap.size wr (by rw [← hlen2]; exact HI.out.row) (by have := lsPick_len D p m dn; have := hdp.length_eq; have := HKL.out; omega) (HPV.out dn hdp))
      have HDP := Lib.hid hdp
      have HLN := Lib.hid hlen2
      clear hdp hlen2
      go_wp2_with fail
      refine HSO.out.mono ?_
      rintro e w' ⟨rfl, l', h1, h2, h3, h4⟩
      have HX : Hid (Below w.heap.size w w' ∧ Revs w' (.slice A n c) l' ∧ LsOk D p m l' ∧ l'.length ≤ D.length) := Lib.hid ⟨HI.out.bel.grown h4 HI.out.bel.size (fun k e => Nat.le_trans (by have := HI.out.rb; omega) (HI.out.row.lt k e).1), by
        have := Row.of_own h3
        unfold Revs
        rw [h1.length_eq, ← HLN.out]
        rw [← HLN.out] at this
        exact this, HOK.out l' dn HDP.out h1 (h2.imp fun h => by omega)⟩
      clear h1 h2 h3 h4 hnx
      go_wp2_with fail
      exact HRR.out _ _ _ HX.out.1 HX.out.2.1 HX.out.2.2.1 HX.out.2.2.2
    · have hqk : q ∈ ks := (HI.out.perm.mem_iff).1 (by simp)
      have hs4b := HI.out.rb
      have HST4 := Lib.hid (HI.out.step hrn4 hg4 hs4)
      have HRN := Lib.hid hrn4
      have HBB := Lib.hid (show w3.heap.size ≤ w4.heap.size by omega)
      have HBL := Lib.hid HI.out.blt
      have HLN := Lib.hid HI.out.len
      have HPK := Lib.hid (lsPick_snoc D p m dn q)
      obtain ⟨r0, hr0⟩ : ∃ r0, lastR (lsOf D m) q = r0 := ⟨_, rfl⟩
      rw [lsKeep_at hr0, hr0] at HPK
      rw [hr0] at hnx hen
      have hnx' : (Instr.next (.pointer (some ⟨w.heap.size, 0, none⟩)) false 0).run Tryz.prog wr = .ok (.tuple #[.bool true, .string q, .agg #[.string r0.path, .int .i64 r0.num, .int .i64 r0.chg, .int .i64 r0.act, .int .i64 r0.ty.base, .bool r0.ty.k, .bool r0.ty.l, .bool r0.ty.x, .int .u64 r0.sum, .int .i64 r0.size, .string r0.frm, .int .i64 r0.fnum]]) w4 := hnx
      have hen' : (Instr.entry (.pointer (some ⟨w.heap.size, 0, none⟩))).run Tryz.prog w4 = .ok (.tuple #[.string q, .agg #[.string r0.path, .int .i64 r0.num, .int .i64 r0.chg, .int .i64 r0.act, .int .i64 r0.ty.base, .bool r0.ty.k, .bool r0.ty.l, .bool r0.ty.x, .int .u64 r0.sum, .int .i64 r0.size, .string r0.frm, .int .i64 r0.fnum]]) w4 := hen
      have hlen2 : (l1 ++ l2).length = gk - 1 ∧ gk ≠ 0 := by simp at hlen ⊢; omega
      have HLE := Lib.hid hlen2
      have hnl : n ≤ 1000000 := by
        have h1 := lsPick_len D p m dn
        have h2 := HI.out.perm.length_eq
        rw [List.length_append] at h2
        have := HKL.out
        have := HLN.out
        omega
      clear hnx hen hr0 hrn4 hg4 hs4 hlen hs4b HI hlen2
      have hX := blk_new w4 [.string r0.path, .int .i64 r0.num, .int .i64 r0.chg, .int .i64 r0.act, .int .i64 r0.ty.base, .bool r0.ty.k, .bool r0.ty.l, .bool r0.ty.x, .int .u64 r0.sum, .int .i64 r0.size, .string r0.frm, .int .i64 r0.fnum] 40
      have hA1 : Below w4.heap.size w4 (w4.alloc (.cells #[.string r0.path, .int .i64 r0.num, .int .i64 r0.chg, .int .i64 r0.act, .int .i64 r0.ty.base, .bool r0.ty.k, .bool r0.ty.l, .bool r0.ty.x, .int .u64 r0.sum, .int .i64 r0.size, .string r0.frm, .int .i64 r0.fnum] 40)) := (Below.refl _ _).alloc (Nat.le_refl _) _
      go_upto_region 15 with fail
      clear hnx' hen'
      generalize w4.alloc (.cells #[.string r0.path, .int .i64 r0.num, .int .i64 r0.chg, .int .i64 r0.act, .int .i64 r0.ty.base, .bool r0.ty.k, .bool r0.ty.l, .bool r0.ty.x, .int .u64 r0.sum, .int .i64 r0.size, .string r0.frm, .int .i64 r0.fnum] 40) = V1 at hX hA1 ⊢
      have HX1 := Lib.hid hX
      have HA1 := Lib.hid hA1
      have HV1 := Lib.hid (below_next HST4.out.1 hA1)
      obtain ⟨d0, d1, -, -⟩ := box2 (HB.out.below HV1.out HB.out.lt)
      have HM1 := Lib.hid (HMT.out q hqk V1 HV1.out)
      clear hX hA1
      go_wp2_with fail
      refine HM1.out.mono ?_
      rintro e w5 ⟨A5, n5, c5, rfl, hb5, -⟩
      clear d0 d1 HM1
      have HX5 := Lib.hid (HX1.out.below hb5 HX1.out.lt)
      have HB5 := Lib.hid (below_next HA1.out hb5)
      clear hb5
      cases hmt : (matchP p q).isSome with
      | false =>
        have HPK2 : Hid (lsPick D p m (dn ++ [q]) = lsPick D p m dn) := Lib.hid (by rw [HPK.out, hmt]; simp)
        obtain ⟨x0, x1, x2, x3, x4, x5, x6, x7, x8, x9, x10, x11⟩ := box12 HX5.out
        clear hmt
        go_wp2_with fail
        go_roundg (gk - 1)
        case measure => have := HLE.out.2; omega
        case rel =>
          refine ⟨dn ++ [q], l1 ++ l2, A, n, c, HLE.out.1, rfl, ⟨below_next HST4.out.1 HB5.out, HST4.out.2.1, HRN.out.below HB5.out, ?_, ?_, ⟨Nat.le_refl _, ?_, Nat.le_trans HBB.out HB5.out.size⟩, HBL.out⟩⟩
          · rw [HPK2.out]; exact own_below HST4.out.2.2 HB5.out
          · rw [HPK2.out]; exact HLN.out
          · exact HRB.out
      | true =>
        obtain ⟨x0, x1, x2, x3, x4, x5, x6, x7, x8, x9, x10, x11⟩ := box12 HX5.out
        cases hlv : liveA r0.act with
        | false =>
          have HPK2 : Hid (lsPick D p m (dn ++ [q]) = lsPick D p m dn) := Lib.hid (by rw [HPK.out, hmt, hlv]; simp)
          have HLV := Lib.hid (isLive_any r0.act w5)
          rw [hlv] at HLV
          clear hmt hlv
          go_wp2_with fail
          refine HLV.out.mono ?_
          rintro e w6 ⟨rfl, rfl⟩
          go_wp2_with fail
          go_roundg (gk - 1)
          case measure => have := HLE.out.2; omega
          case rel =>
            refine ⟨dn ++ [q], l1 ++ l2, A, n, c, HLE.out.1, rfl, ⟨below_next HST4.out.1 HB5.out, HST4.out.2.1, HRN.out.below HB5.out, ?_, ?_, ⟨Nat.le_refl _, ?_, Nat.le_trans HBB.out HB5.out.size⟩, HBL.out⟩⟩
            · rw [HPK2.out]; exact own_below HST4.out.2.2 HB5.out
            · rw [HPK2.out]; exact HLN.out
            · exact HRB.out
        | true =>
          have HPK2 : Hid (lsPick D p m (dn ++ [q]) = lsPick D p m dn ++ [r0]) := Lib.hid (by rw [HPK.out, hmt, hlv]; simp)
          have HLV := Lib.hid (isLive_any r0.act w5)
          rw [hlv] at HLV
          have HOW := Lib.hid (own_below HST4.out.2.2 HB5.out)
          have hbs : w3.heap.size ≤ w5.heap.size := Nat.le_trans HBB.out HB5.out.size
          clear hmt hlv
          go_wp2_with fail
          refine HLV.out.mono ?_
          rintro e w6 ⟨rfl, rfl⟩
          go_wp2_with (at_builtin; refine wpList_push rfl rfl revElem (own_below HOW.out ((Below.refl _ _).alloc (Nat.le_refl _) _)) rfl (row_new w5 [.string r0.path, .int .i64 r0.num, .int .i64 r0.chg, .int .i64 r0.act, .int .i64 r0.ty.base, .bool r0.ty.k, .bool r0.ty.l, .bool r0.ty.x, .int .u64 r0.sum, .int .i64 r0.size, .string r0.frm, .int .i64 r0.fnum] _ 12 1 rfl (by decide) _ rfl) rfl ((Below.refl w3.heap.size w5).alloc hbs _) (Nat.le_trans hbs ((Below.refl w3.heap.size w5).alloc hbs _).size) (lsRev_one r0) (by omega) (by unfold maxLen; omega) ?_; intro A' c' w7 hown7 hbl7)
          have HO7 := Lib.hid hown7
          have HB7 := Lib.hid hbl7
          clear x0 x1 x2 x3 x4 x5 x6 x7 x8 x9 x10 x11 hown7 hbl7
          go_wp2_with fail
          go_roundg (gk - 1)
          case measure => have := HLE.out.2; omega
          case rel =>
            have hrb : w.heap.size < w3.heap.size := HRB.out
            refine ⟨dn ++ [q], l1 ++ l2, A', n + 1, c', HLE.out.1, rfl, ⟨(below_next HST4.out.1 HB5.out).trans (HB7.out.mono (Nat.le_of_lt hrb)), HST4.out.2.1, ls_rng_low (HRN.out.below HB5.out) HB7.out hrb HBL.out, ?_, ?_, ⟨Nat.le_refl _, hrb, Nat.le_trans hbs HB7.out.size⟩, HBL.out⟩⟩
            · rw [HPK2.out, List.flatMap_append, List.flatMap_cons, List.flatMap_nil, List.append_nil]
              exact HO7.out
            · rw [HPK2.out, List.length_append, List.length_singleton, ← HLN.out]
end Go.Proofs.YtnblfaagchflaaaGreatDoor
/- slices.Equal at revisions and at records. -/
namespace Go.Proofs.YtnblfaagchflaaaGreatDoor
open Go.RowKit
set_option linter.unusedVariables false
set_option linter.unusedSimpArgs false

set_option maxHeartbeats 2000000 in
theorem run_neq_rev (x y : Rev) (W : World) : (binOp .neq 40 (.agg #[.string x.path, .int .i64 x.num, .int .i64 x.chg, .int .i64 x.act, .int .i64 x.ty.base, .bool x.ty.k, .bool x.ty.l, .bool x.ty.x, .int .u64 x.sum, .int .i64 x.size, .string x.frm, .int .i64 x.fnum]) (.agg #[.string y.path, .int .i64 y.num, .int .i64 y.chg, .int .i64 y.act, .int .i64 y.ty.base, .bool y.ty.k, .bool y.ty.l, .bool y.ty.x, .int .u64 y.sum, .int .i64 y.size, .string y.frm, .int .i64 y.fnum])).run Tryz.prog W = .ok (.bool (!decide (x = y))) W := by
  obtain ⟨x1, x2, x3, x4, ⟨x5, x6, x7, x8⟩, x9, x10, x11, x12⟩ := x
  obtain ⟨y1, y2, y3, y4, ⟨y5, y6, y7, y8⟩, y9, y10, y11, y12⟩ := y
  rw [run_neq_struct, run_equalIn_agg W 9999 40 _ _ (by kernel_rfl) (by kernel_rfl)]
  simp [go_sem, Op.eqFields, toList_inj]
  by_cases h1 : x1 = y1
  case neg => simp [h1]
  rw [if_pos h1]
  by_cases h2 : x2 = y2
  case neg => simp [h2]
  rw [if_pos h2]
  by_cases h3 : x3 = y3
  case neg => simp [h3]
  rw [if_pos h3]
  by_cases h4 : x4 = y4
  case neg => simp [h4]
  rw [if_pos h4]
  by_cases h5 : x5 = y5
  case neg => simp [h5]
  rw [if_pos h5]
  by_cases h6 : x6 = y6
  case neg => simp [h6]
  rw [if_pos h6]
  by_cases h7 : x7 = y7
  case neg => simp [h7]
  rw [if_pos h7]
  by_cases h8 : x8 = y8
  case neg => simp [h8]
  rw [if_pos h8]
  by_cases h9 : x9 = y9
  case neg => simp [h9]
  rw [if_pos h9]
  by_cases h10 : x10 = y10
  case neg => simp [h10]
  rw [if_pos h10]
  by_cases h11 : x11 = y11
  case neg => simp [h11]
  rw [if_pos h11]
  by_cases h12 : x12 = y12
  case neg => simp [h12]
  rw [if_pos h12]
  simp [h1, h2, h3, h4, h5, h6, h7, h8, h9, h10, h11, h12]
theorem run_neq_rcd (x y : Rcd) (W : World) : (binOp .neq 57 (.agg #[.string x.frm, .int .i64 x.first, .int .i64 x.last, .string x.to, .int .i64 x.num, .int .i64 x.how]) (.agg #[.string y.frm, .int .i64 y.first, .int .i64 y.last, .string y.to, .int .i64 y.num, .int .i64 y.how])).run Tryz.prog W = .ok (.bool (!decide (x = y))) W := by
  obtain ⟨x1, x2, x3, x4, x5, x6⟩ := x
  obtain ⟨y1, y2, y3, y4, y5, y6⟩ := y
  rw [run_neq_struct, run_equalIn_agg W 9999 57 _ _ (by kernel_rfl) (by kernel_rfl)]
  simp [go_sem, Op.eqFields, toList_inj]
  repeat' split
  all_goals simp_all
theorem take_eq_all {α : Type} {l m : List α} (h : l.length = m.length) {k : Nat} (hk : l.length ≤ k) (he : l.take k = m.take k) : l = m := by
  rwa [List.take_of_length_le hk, List.take_of_length_le (by omega)] at he
theorem take_eq_step {α : Type} {l m : List α} {k : Nat} (h1 : k < l.length) (h2 : k < m.length) (he : l.take k = m.take k) (hx : l[k] = m[k]) : l.take (k + 1) = m.take (k + 1) := by
  rw [List.take_succ_eq_append_getElem h1, List.take_succ_eq_append_getElem h2, he, hx]

set_option maxRecDepth 100000 in
set_option maxHeartbeats 4000000 in
theorem equal_rev (l m : List Rev) (v1 v2 : Value) (w : World) (h1 : Revs w v1 l) (h2 : Revs w v2 m) :
    Calls Tryz.prog 46 #[v1, v2] w fun e w' => e = .returned (.bool (decide (l = m))) ∧ Below w.heap.size w w' := by
  obtain ⟨A1, c1, rfl, hc1, hm1, -⟩ := id h1
  obtain ⟨A2, c2, rfl, hc2, hm2, -⟩ := id h2
  unfold maxLen at hm1 hm2
  have H1 := Lib.hid h1
  have H2 := Lib.hid h2
  clear h1 h2
  by_cases hl : l.length = m.length
  · have q : ((l.length : Int) != (m.length : Int)) = false := by rw [bne_eq_false_iff_eq]; omega
    have HL := Lib.hid hl
    go_enter Tryz.func46, Tryz.ntmps46
    clear hl
    go_wp2_with fail
    go_loopw [13] (fun s wr => ∃ k : Nat, s = .int .i64 k ∧ k ≤ l.length ∧ Hid (l.take k = m.take k ∧ Below w.heap.size w wr)) (fun s _ => l.length - (intOf s).toNat)
    case atStart => exact ⟨0, rfl, Nat.zero_le _, by simp, Below.refl _ _⟩
    case round =>
      obtain ⟨k, rfl, hk, HI⟩ := hrel
      by_cases hlt : k < l.length
      · have hlt2 : k < m.length := by have := HL.out; omega
        have hz1 : (k : Int) < (l.length : Int) := by omega
        have hz2 : (k : Int) < (m.length : Int) := by omega
        obtain ⟨a1, rfl, hb1, hx⟩ := Revs.at_ (H1.out.below HI.out.2) hlt
        obtain ⟨a2, rfl, hb2, hy⟩ := Revs.at_ (H2.out.below HI.out.2) hlt2
        have HST := Lib.hid (fun h => take_eq_step hlt hlt2 HI.out.1 h)
        have HNE : Hid (l[k] ≠ m[k] → l ≠ m) := Lib.hid fun h e => h (by subst e; rfl)
        generalize l[k] = x at hx HST HNE
        generalize m[k] = y at hy HST HNE
        obtain ⟨x0, x1, x2, x3, x4, x5, x6, x7, x8, x9, x10, x11⟩ := hx
        obtain ⟨y0, y1, y2, y3, y4, y5, y6, y7, y8, y9, y10, y11⟩ := hy
        have hne := run_neq_rev x y
        by_cases e : x = y
        · have hd : (!decide (x = y)) = false := by simp [e]
          rw [hd] at hne
          have HE := Lib.hid e
          clear hd e
          go_wp2_with fail
          go_quiet (fail)
          clear x0 x1 x2 x3 x4 x5 x6 x7 x8 x9 x10 x11 y0 y1 y2 y3 y4 y5 y6 y7 y8 y9 y10 y11 hne
          go_wp2_with fail
          go_roundw
          case rel => exact ⟨k + 1, by go_num, by omega, HST.out HE.out, below_dN HI.out.2 _⟩
          case measure => simp [intOf]; omega
        · have hd : (!decide (x = y)) = true := by simp [e]
          rw [hd] at hne
          have HE : Hid (decide (l = m) = false) := Lib.hid (by simp; exact HNE.out e)
          clear hd e
          go_wp2_with fail
          go_quiet (fail)
          clear x0 x1 x2 x3 x4 x5 x6 x7 x8 x9 x10 x11 y0 y1 y2 y3 y4 y5 y6 y7 y8 y9 y10 y11 hne
          go_wp2_with fail
          go_ret
          exact ⟨ret_bool HE.out.symm, below_dN HI.out.2 _⟩
      · have HE : Hid (decide (l = m) = true) := Lib.hid (by simp; exact take_eq_all HL.out (by omega) HI.out.1)
        go_wp2_with fail
        go_ret
        exact ⟨ret_bool HE.out.symm, HI.out.2⟩
  · have q : ((l.length : Int) != (m.length : Int)) = true := by rw [bne_iff_ne]; omega
    have HE : Hid (decide (l = m) = false) := Lib.hid (by simp; intro e; exact hl (by rw [e]))
    clear hl
    go_enter Tryz.func46, Tryz.ntmps46
    go_wp2_with fail
    go_ret
    exact ⟨ret_bool HE.out.symm, Below.refl _ _⟩

set_option maxRecDepth 100000 in
set_option maxHeartbeats 4000000 in
theorem equal_rcd (l m : List Rcd) (v1 v2 : Value) (w : World) (h1 : Rcds w v1 l) (h2 : Rcds w v2 m) :
    Calls Tryz.prog 47 #[v1, v2] w fun e w' => e = .returned (.bool (decide (l = m))) ∧ Below w.heap.size w w' := by
  obtain ⟨A1, c1, rfl, hc1, hm1, -⟩ := id h1
  obtain ⟨A2, c2, rfl, hc2, hm2, -⟩ := id h2
  unfold maxLen at hm1 hm2
  have H1 := Lib.hid h1
  have H2 := Lib.hid h2
  clear h1 h2
  by_cases hl : l.length = m.length
  · have q : ((l.length : Int) != (m.length : Int)) = false := by rw [bne_eq_false_iff_eq]; omega
    have HL := Lib.hid hl
    go_enter Tryz.func47, Tryz.ntmps47
    clear hl
    go_wp2_with fail
    go_loopw [13] (fun s wr => ∃ k : Nat, s = .int .i64 k ∧ k ≤ l.length ∧ Hid (l.take k = m.take k ∧ Below w.heap.size w wr)) (fun s _ => l.length - (intOf s).toNat)
    case atStart => exact ⟨0, rfl, Nat.zero_le _, by simp, Below.refl _ _⟩
    case round =>
      obtain ⟨k, rfl, hk, HI⟩ := hrel
      by_cases hlt : k < l.length
      · have hlt2 : k < m.length := by have := HL.out; omega
        have hz1 : (k : Int) < (l.length : Int) := by omega
        have hz2 : (k : Int) < (m.length : Int) := by omega
        obtain ⟨a1, rfl, hb1, hx⟩ := Rcds.at_ (H1.out.below HI.out.2) hlt
        obtain ⟨a2, rfl, hb2, hy⟩ := Rcds.at_ (H2.out.below HI.out.2) hlt2
        have HST := Lib.hid (fun h => take_eq_step hlt hlt2 HI.out.1 h)
        have HNE : Hid (l[k] ≠ m[k] → l ≠ m) := Lib.hid fun h e => h (by subst e; rfl)
        generalize l[k] = x at hx HST HNE
        generalize m[k] = y at hy HST HNE
        obtain ⟨x0, x1, x2, x3, x4, x5⟩ := hx
        obtain ⟨y0, y1, y2, y3, y4, y5⟩ := hy
        have hne := run_neq_rcd x y
        by_cases e : x = y
        · have hd : (!decide (x = y)) = false := by simp [e]
          rw [hd] at hne
          have HE := Lib.hid e
          clear hd e
          go_wp2_with fail
          go_quiet (fail)
          clear x0 x1 x2 x3 x4 x5 y0 y1 y2 y3 y4 y5 hne
          go_wp2_with fail
          go_roundw
          case rel => exact ⟨k + 1, by go_num, by omega, HST.out HE.out, below_dN HI.out.2 _⟩
          case measure => simp [intOf]; omega
        · have hd : (!decide (x = y)) = true := by simp [e]
          rw [hd] at hne
          have HE : Hid (decide (l = m) = false) := Lib.hid (by simp; exact HNE.out e)
          clear hd e
          go_wp2_with fail
          go_quiet (fail)
          clear x0 x1 x2 x3 x4 x5 y0 y1 y2 y3 y4 y5 hne
          go_wp2_with fail
          go_ret
          exact ⟨ret_bool HE.out.symm, below_dN HI.out.2 _⟩
      · have HE : Hid (decide (l = m) = true) := Lib.hid (by simp; exact take_eq_all HL.out (by omega) HI.out.1)
        go_wp2_with fail
        go_ret
        exact ⟨ret_bool HE.out.symm, HI.out.2⟩
  · have q : ((l.length : Int) != (m.length : Int)) = true := by rw [bne_iff_ne]; omega
    have HE : Hid (decide (l = m) = false) := Lib.hid (by simp; intro e; exact hl (by rw [e]))
    clear hl
    go_enter Tryz.func47, Tryz.ntmps47
    go_wp2_with fail
    go_ret
    exact ⟨ret_bool HE.out.symm, Below.refl _ _⟩
end Go.Proofs.YtnblfaagchflaaaGreatDoor
/- Region 13 of history.Append: one more revision. -/
namespace Go.Proofs.YtnblfaagchflaaaGreatDoor
open Go.RowKit
set_option linter.unusedVariables false
set_option linter.unusedSimpArgs false

set_option maxRecDepth 100000 in
set_option maxHeartbeats 8000000 in
theorem region13 (ops : Array Oper) (hops : Tryz.f15.body.bind (regAt 13) = some ops) (Q : Exit → Act → World → Prop) (g g10 ge n m : Nat) (x : Edt) (r : Rev) (v1 v2 : Value) (xs ys : List Value) (V V1 : World)
    (hR : ApR V V1 g10 v1 v2 n m xs ys) (hB : Blk V1 ge 55 [.string x.path, .int .i64 x.act, .int .i64 x.ty.base, .bool x.ty.k, .bool x.ty.l, .bool x.ty.x, .int .u64 x.sum, .int .i64 x.size, .int .i64 x.base, .string x.frm, .int .i64 x.fnum, .int .i64 x.fence]) (hge : V.heap.size ≤ ge) (hne : v1.ownBlock ≠ some ge) (hn : n ≤ 100000)
    (hrev : ∀ X, Below V1.heap.size V1 X → Calls Tryz.prog 41 #[.pointer (some ⟨g, 0, none⟩), .agg #[.string x.path, .int .i64 x.act, .int .i64 x.ty.base, .bool x.ty.k, .bool x.ty.l, .bool x.ty.x, .int .u64 x.sum, .int .i64 x.size, .int .i64 x.base, .string x.frm, .int .i64 x.fnum, .int .i64 x.fence]] X fun e w' => e = .returned (.agg #[.string r.path, .int .i64 r.num, .int .i64 r.chg, .int .i64 r.act, .int .i64 r.ty.base, .bool r.ty.k, .bool r.ty.l, .bool r.ty.x, .int .u64 r.sum, .int .i64 r.size, .string r.frm, .int .i64 r.fnum]) ∧ Below X.heap.size X w')
    (u0 u1 u2 u3 u4 u5 u7 u8 u9 u11 u13 u14 u15 u16 u17 u18 u19 u20 u21 u22 u23 u24 u25 u26 u27 u28 u29 u30 u31 u32 u33 u34 u35 u36 u37 u38 u39 u40 u41 u42 u43 u44 u45 u46 u47 u48 u49 u50 u51 u52 u53 u54 u55 u56 u57 u58 u59 : Value)
    (hQ : ∀ (t47 t48 t49 t50 t51 t52 t53 t54 : Value) (v3 : Value) (w' : World), Hid (ApR V w' g10 v3 v2 (n + 1) m (xs ++ [.string r.path, .int .i64 r.num, .int .i64 r.chg, .int .i64 r.act, .int .i64 r.ty.base, .bool r.ty.k, .bool r.ty.l, .bool r.ty.x, .int .u64 r.sum, .int .i64 r.size, .string r.frm, .int .i64 r.fnum]) ys) → Q .normal ⟨#[u0, u1, u2, u3, u4, u5, .pointer (some ⟨g, 0, none⟩), u7, u8, u9, .pointer (some ⟨g10, 0, none⟩), u11, .pointer (some ⟨ge, 0, none⟩), u13, u14, u15, u16, u17, u18, u19, u20, u21, u22, u23, u24, u25, u26, u27, u28, u29, u30, u31, u32, u33, u34, u35, u36, u37, u38, u39, u40, u41, u42, u43, u44, u45, u46, t47, t48, t49, t50, t51, t52, t53, t54, u55, u56, u57, u58, u59], []⟩ w') :
    (Code.region 13 ops true).wp Tryz.prog Q ⟨#[u0, u1, u2, u3, u4, u5, .pointer (some ⟨g, 0, none⟩), u7, u8, u9, .pointer (some ⟨g10, 0, none⟩), u11, .pointer (some ⟨ge, 0, none⟩), u13, u14, u15, u16, u17, u18, u19, u20, u21, u22, u23, u24, u25, u26, u27, u28, u29, u30, u31, u32, u33, u34, u35, u36, u37, u38, u39, u40, u41, u42, u43, u44, u45, u46, u47, u48, u49, u50, u51, u52, u53, u54, u55, u56, u57, u58, u59], []⟩ V1 := by
  simp only [Tryz.f15, Option.bind_some, regAt] at hops
  simp at hops
  subst hops
  obtain ⟨A1, c1, hv1⟩ := own_slice hR.one
  subst hv1
  have HQ := Lib.hid hQ
  have HR := Lib.hid hR
  have HB := Lib.hid hB
  have HRV2 := Lib.hid hrev
  clear hQ hR hB hrev
  have f0 : V1.cell? ⟨g10, 0, none⟩ = some (.slice A1 n c1) := HR.out.box.cell 0
  obtain ⟨c0, c1', c2, c3, c4, c5, c6, c7, c8, c9, c10, c11⟩ := box12 HB.out
  refine wp_region_noPanic ?_
  go_region_law (first
    | (refine step_app rfl rfl revElem (own_below (own_below HR.out.one hS5) ((Below.refl _ _).alloc (Nat.le_refl _) _)) (by simp [Act.eval, Act.put]) (row_new w5 [.string r.path, .int .i64 r.num, .int .i64 r.chg, .int .i64 r.act, .int .i64 r.ty.base, .bool r.ty.k, .bool r.ty.l, .bool r.ty.x, .int .u64 r.sum, .int .i64 r.size, .string r.frm, .int .i64 r.fnum] _ 12 1 rfl (by decide) _ rfl) (by simp [Act.eval, Act.put]) (by simp [Value.oneCell']) (by omega) (by unfold maxLen; omega) (by have := hS5.size; have := HR.out.bel.size; simp; omega) ?_; intro A6 c6' w6 hO6 hG6 hw6; have hbx := (HR.out.box.below (below_next hS5 ((Below.refl _ _).alloc (Nat.le_refl _) _)) HR.out.box.lt).grown hG6 (fun e => HR.out.ne1 e.symm); obtain ⟨b0, b1, g0, g1⟩ := box2 hbx)
    | (go_simp; go_at_call 41; refine (HRV2.out _ (Below.refl _ _).drew).mono ?_; rintro e w5 ⟨rfl, hX5⟩; have hS5 : Below V1.heap.size V1 w5 := (Below.refl _ _).drew.trans hX5; have f5 : w5.cell? ⟨g10, 0, none⟩ = some (.slice A1 n c1) := (HR.out.box.below hS5 HR.out.box.lt).cell 0; have f6 : (w5.alloc (.cells #[.string r.path, .int .i64 r.num, .int .i64 r.chg, .int .i64 r.act, .int .i64 r.ty.base, .bool r.ty.k, .bool r.ty.l, .bool r.ty.x, .int .u64 r.sum, .int .i64 r.size, .string r.frm, .int .i64 r.fnum] 40)).cell? ⟨g10, 0, none⟩ = some (.slice A1 n c1) := (HR.out.box.below (hS5.alloc hS5.size _) HR.out.box.lt).cell 0))
  all_goals exact NoPanic.normal (HQ.out _ _ _ _ _ _ _ _ _ _ (HR.out.push (below_next hS5 ((Below.refl _ _).alloc (Nat.le_refl _) _)) hO6 hG6 hw6))
end Go.Proofs.YtnblfaagchflaaaGreatDoor
/- HistoryListMeans: the walk. -/
namespace Go.Proofs.YtnblfaagchflaaaGreatDoor
open Go.RowKit
set_option linter.unusedVariables false
set_option linter.unusedSimpArgs false

theorem plays_paths {l : List Chg} {d : Dep} (h : Plays l d) : ∀ r ∈ d.revs, validS r.path = true ∧ r.path.size ≤ 1000000 := by
  induction h with
  | nil => intro r hr; cases hr
  | skip _ _ ih => exact ih
  | step _ h0 _ _ ih =>
    intro r hr
    have hr' : r ∈ newRevs _ _ := hr
    unfold newRevs at hr'
    rcases List.mem_append.1 hr' with hr' | hr'
    · exact ih r hr'
    · obtain ⟨e, he, rfl⟩ := List.mem_map.1 hr'
      have := (everyE_paths (appE_zero h0).2.1).2 e he
      exact ⟨this.1, by have h2 := this.2.1; show e.path.size ≤ 1000000; omega⟩
theorem pat_boxes {w : World} {g : Nat} {a b : Value} (h : Blk w g 25 [a, b]) : w.cell? ⟨g, 0, none⟩ = some a ∧ w.cell? ⟨g, 1, none⟩ = some b := ⟨h.cell 0, h.cell 1⟩
end Go.Proofs.YtnblfaagchflaaaGreatDoor
/- The statements' copied: the walk. -/
namespace Go.Proofs.YtnblfaagchflaaaGreatDoor
open Go.RowKit
set_option linter.unusedVariables false
set_option linter.unusedSimpArgs false
theorem rev_ones (l : List Rev) : ∀ u ∈ l.flatMap Rev.cells, u.oneCell' = true := by
  intro u hu
  obtain ⟨x, -, hx⟩ := List.mem_flatMap.1 hu
  simp only [Rev.cells, List.mem_cons, List.not_mem_nil, or_false] at hx
  rcases hx with rfl | rfl | rfl | rfl | rfl | rfl | rfl | rfl | rfl | rfl | rfl | rfl <;> rfl
theorem nogrow {w w' : World} {row : Option Nat} (h : w.grownBy w' row) (hr : row = none) : Below w.heap.size w w' := ⟨h.os, h.tape, h.output, h.size, fun k hk => h.block k hk (by rw [hr]; exact fun e => by cases e)⟩
theorem own_fresh {w' : World} {B base : Nat} {e : TypeId} {size n : Nat} {v : Value} {xs : List Value} (h : w'.ownsRow base e size v n xs) (hB : B ≤ base) : Fresh B v := fun x hx => Nat.le_trans hB (h.lt x hx).1
end Go.Proofs.YtnblfaagchflaaaGreatDoor
/- What all cards of this seat use: the world of the witness; opening the arguments. -/
namespace Go.Proofs.YtnblfaagchflaaaGreatDoor.cardBase
open Go.ChangeShapes Go.WideShapes Go.ChangeAt Go.RowKit
set_option linter.unusedVariables false

theorem own : ownKnob Tryz.prog.godebug = none := by kernel_rfl
theorem laidOut : laidOutB Tryz.prog = true := by kernel_rfl
theorem env_of {W : World} (h : W.ShapedOpen Tryz.prog) : Env W := Tryz.laysM143.s1_3 W h

def layFirst : Obj → Obj
  | .cells _ t frozen => .cells (Go.Pinned.utf8FirstZ.map fun (n : Nat) => Value.int .u8 (n : Int)).toArray t frozen
  | o => o
def layAccept : Obj → Obj
  | .cells _ t frozen => .cells #[.int .u8 128, .int .u8 191, .int .u8 160, .int .u8 191, .int .u8 128, .int .u8 159, .int .u8 144, .int .u8 191, .int .u8 128, .int .u8 143, .int .u8 0, .int .u8 0, .int .u8 0, .int .u8 0, .int .u8 0, .int .u8 0, .int .u8 0, .int .u8 0, .int .u8 0, .int .u8 0, .int .u8 0, .int .u8 0, .int .u8 0, .int .u8 0, .int .u8 0, .int .u8 0, .int .u8 0, .int .u8 0, .int .u8 0, .int .u8 0, .int .u8 0, .int .u8 0] t frozen
  | o => o
/-- A world for the witness: the settled one, the two tables holding what their initialisers lay. -/
noncomputable def laidWorld (os : Os) : World :=
  { World.holding Tryz.prog os ⟨#[], #[], []⟩ with heap := ((World.holding Tryz.prog os ⟨#[], #[], []⟩).heap.modify 1 layFirst).modify 2 layAccept }

end Go.Proofs.YtnblfaagchflaaaGreatDoor.cardBase
