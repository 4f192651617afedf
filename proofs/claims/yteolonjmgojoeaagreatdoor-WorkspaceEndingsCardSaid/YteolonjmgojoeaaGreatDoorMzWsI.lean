/- Apply: a plan of one step that adds a file to a tree without files. -/
import Derived.Test.YteolonjmgojoeaaGreatDoorMgw4
import Derived.Test.YteolonjmgojoeaaGreatDoorMzWsG
import Derived.Test.YteolonjmgojoeaaGreatDoorMzWsH
import Derived.Test.YteolonjmgojoeaaGreatDoorMzSyH
namespace Go.Proofs.YteolonjmgojoeaaGreatDoor
open Go.RowKit
open Go.Sort (grow)
set_option linter.unusedVariables false
set_option linter.unusedSimpArgs false

/-- All blocks that were there are as they were, but those of S. -/
structure Kept (S : List Nat) (w w' : World) : Prop where
  os : w'.os = w.os
  tape : w'.tape = w.tape
  output : w'.output = w.output
  size : w.heap.size ≤ w'.heap.size
  block : ∀ k, k < w.heap.size → k ∉ S → w'.heap[k]? = w.heap[k]?
theorem Kept.below {S : List Nat} {w w' : World} (h : Below w.heap.size w w') : Kept S w w' := ⟨h.os, h.tape, h.output, h.size, fun k hk _ => h.block k hk⟩
theorem Kept.grown {S : List Nat} {w w' : World} {g : Nat} (h : w.grownBy w' (some g)) (hg : g ∈ S) : Kept S w w' := ⟨h.os, h.tape, h.output, h.size, fun k hk hs => h.block k hk (by intro e; injection e with e; subst e; exact hs hg)⟩
theorem Kept.trans {S : List Nat} {w w1 w2 : World} (h : Kept S w w1) (h2 : Kept S w1 w2) : Kept S w w2 :=
  ⟨h2.os.trans h.os, h2.tape.trans h.tape, h2.output.trans h.output, Nat.le_trans h.size h2.size, fun k hk hs => (h2.block k (Nat.lt_of_lt_of_le hk h.size) hs).trans (h.block k hk hs)⟩
theorem Kept.to_below {S : List Nat} {w w' : World} {B : Nat} (h : Kept S w w') (hS : ∀ s ∈ S, B ≤ s) (hB : B ≤ w.heap.size) : Below B w w' :=
  ⟨h.os, h.tape, h.output, h.size, fun k hk => h.block k (Nat.lt_of_lt_of_le hk hB) (fun hs => by have := hS k hs; omega)⟩
theorem Kept.blk {S : List Nat} {w w' : World} {g : Nat} {e : TypeId} {cs : List Value} (h : Kept S w w') (hB : Blk w g e cs) (hg : g ∉ S) : Blk w' g e cs := (h.block g (Blk.lt hB) hg).trans hB
theorem Kept.fmap {κ α : Type} [BEq κ] {kv : κ → Value} {enc : α → Value} {S : List Nat} {w w' : World} {B : Nat} {F : κ → Option α} (h : Kept S w w') (hM : FMap kv enc w B F) (hg : B ∉ S) : FMap kv enc w' B F := hM.keep (h.block B hM.lt hg)
theorem Kept.nmap {κ α : Type} [BEq κ] {kv : κ → Value} {enc : α → Value} {S : List Nat} {w w' : World} {B : Nat} {F : κ → Option α} (h : Kept S w w') (hM : NMap kv enc w B F) (hg : B ∉ S) : NMap kv enc w' B F := hM.keep (h.block B hM.lt hg)
theorem filElem : ElemOk Tryz.prog 84 88 1 8 := elemOk_of Tryz.underlying84 (z := .pointer none) (by kernel_rfl) rfl (by decide)
/-- What Apply leaves of an empty tree. -/
def ApplyP (w : World) (t : Nat) (n : Int) (bl bp bs ba : Nat) (x : Syn) (r : Rev) (F1 F2 : ByteArray → Option Nat) (w' : World) : Prop :=
  Kept [bl, bp] w w' ∧ ∃ g, w.heap.size ≤ g ∧ IsFile w' g ⟨x.dst, r, hollowSt r.size⟩ (.slice none 0 0) ∧ NMap Value.string ptrV w' bl (upd F1 x.dst g) ∧ NMap Value.string ptrV w' bp (upd F2 r.path g)
/-- The state behind Apply's first loop. -/
def Ap1 (w wr : World) (x : Syn) (r : Rev) (v : Value) (g : Nat) : Prop :=
  Below w.heap.size w wr ∧ Row wr 1 v 1 [ptrV g] ∧ w.heap.size ≤ g ∧ IsFile wr g ⟨x.dst, r, hollowSt r.size⟩ (.slice none 0 0)
set_option maxRecDepth 100000 in
set_option maxHeartbeats 8000000 in
theorem apply_add (t bl bp bs ba : Nat) (n : Int) (x : Syn) (r : Rev) (revs : List Rev) (dv dr pv : Value) (F1 F2 : ByteArray → Option Nat) (F3 : ByteArray → Option Value) (w : World)
    (hT : IsTree w t n bl bp bs ba) (h1 : NMap Value.string ptrV w bl F1) (h2 : NMap Value.string ptrV w bp F2) (h3 : Strays w bs F3) (hR : Revs w dv revs) (hl : revs.length ≤ 1000000)
    (hP : Syns w pv [x]) (hne : bl ≠ bp) (h20 : F2 = fun _ => none) (hd : F1 x.dst = none) (hs : F3 x.dst = none) (hf : x.frm = emptyS) (ht : ¬ x.dst = emptyS) (hk : ¬ x.kind = 4) (hst : staysB x.kind = false)
    (z1 : x.path.size ≤ 1000000) (z2 : x.dst.size ≤ 1000000) (hfi : fitsB x emptyS = true) (hh : haveE (putS x) = 0)
    (hg : greatest revs x.path (fun v : Rev => decide (v.num = x.num)) = some r) (ha : ¬ r.act = 3) (ha2 : ¬ r.act = 5) :
    Calls Tryz.prog 9 #[.pointer (some ⟨t, 0, none⟩), .agg #[dv, dr], pv] w fun e w' => e = .returned (.int .i64 0) ∧ ApplyP w t n bl bp bs ba x r F1 F2 w' := by
  have hA : Below w.heap.size w (w.alloc (.cells #[dv, dr] 48)) := (Below.refl _ _).alloc (Nat.le_refl _) _
  have HD := Lib.hid (blk_new w [dv, dr] 48)
  have HT := Lib.hid (fun X (hX : Below w.heap.size w X) => hT.under hX)
  have H2 := Lib.hid (fun X (hX : Below w.heap.size w X) => FMap.below h2.fmap hX)
  have HHV := Lib.hid (haves_none t bl bp bs ba n _ (hT.under hA) (by have := FMap.below h2.fmap hA; rw [h20] at this; exact this))
  have HCK := Lib.hid (fun X (hX : Below w.heap.size w X) => checkOne_any x pv X (hP.below hX) z1 z2 hfi hh)
  have HAL := Lib.hid (fun X (hX : Below w.heap.size w X) => allowed_add t bl bp bs ba n x r revs dv dr F1 F2 F3 X (hT.under hX) (FMap.below h1.fmap hX) (FMap.below h2.fmap hX) (FMap.below h3 hX) (hR.below hX) hl (by rw [h20]) hd hs hf ht hk hg ha ha2)
  have HCH := Lib.hid (fun X (hX : Below w.heap.size w X) => changed_new t bl bp bs ba n x r F2 X (hT.under hX) (FMap.below h2.fmap hX) (by rw [h20]))
  have HDN := Lib.hid (fun X => done_any x X)
  rw [hst] at HDN
  have HPU := Lib.hid (fun X (hX : Below w.heap.size w X) g (hF : IsFile X g ⟨x.dst, r, hollowSt r.size⟩ (.slice none 0 0)) => put_any t g bl bp bs ba n ⟨x.dst, r, hollowSt r.size⟩ (.slice none 0 0) F1 F2 X (hT.under hX) hF (h1.below hX) (h2.below hX) hne)
  have HP := Lib.hid hP
  have HSZ := Lib.hid (⟨h1.lt, h2.lt⟩ : bl < w.heap.size ∧ bp < w.heap.size)
  obtain ⟨Ap, cp, rfl, -⟩ := id hP
  have k1 : (x.kind == 4) = false := by simpa using hk
  have k2 : (x.kind != 4) = true := by simpa using hk
  have HA := Lib.hid hA
  have lk0 : ∀ X, Below w.heap.size w X → (Instr.lookup 35 (.map (some bp)) (.string x.path) true).run Tryz.prog X = .ok (.tuple #[.pointer none, .bool false]) X := fun X hX => by
    have hh := FMap.lookup (w := X) (H2.out X hX) (keyOk_string Tryz.underlying9) Tryz.underlying35 (z := .pointer none) (by rfl) x.path true (f := F2) (enc := ptrV) (B := bp)
    have lv : lookV ptrV (.pointer none) true (F2 x.path) = .tuple #[.pointer none, .bool false] := by rw [h20]; rfl
    rw [lv] at hh; exact hh
  have LK := Lib.hid lk0
  clear lk0 hT h1 h2 h3 hR hl hP hne h20 hd hs hf ht hk hst z1 z2 hfi hh hg ha ha2 hA
  go_enter Tryz.func9, Tryz.ntmps9
  go_wp2_with fail
  refine HHV.out.mono ?_
  rintro e w1 ⟨rfl, hb⟩
  have HD1 := Lib.hid (HD.out.below hb HD.out.lt)
  have HB1 := Lib.hid (below_next HA.out hb)
  clear hb HHV HD HA
  have HC1 := Lib.hid (HCK.out w1 HB1.out)
  go_wp2_with fail
  refine HC1.out.mono ?_
  rintro e w2 ⟨rfl, hb⟩
  have HD2 := Lib.hid (HD1.out.below hb HD1.out.lt)
  have HB2 := Lib.hid (below_next HB1.out hb)
  clear hb HC1 HD1 HB1 HCK
  go_wp2_with fail
  go_loopw [7, 25] (fun v i wr => (v = .slice none 0 0 ∧ i = .int .i64 0 ∧ Hid (Below w.heap.size w wr ∧ Blk wr w.heap.size 48 [dv, dr])) ∨ ∃ A c g, v = .slice A 1 c ∧ i = .int .i64 1 ∧ Hid (Ap1 w wr x r (.slice A 1 c) g)) (fun _ i _ => 1 - (intOf i).toNat)
  case atStart => exact .inl ⟨rfl, rfl, Lib.hid ⟨HB2.out, HD2.out⟩⟩
  case round =>
    rcases hrel with ⟨rfl, rfl, HI⟩ | ⟨Aa, ca, g, rfl, rfl, HI⟩
    · clear HB2 HD2
      obtain ⟨-, ad, rfl, hab, y0, y1, y2, y3, y4⟩ := Syns.head (HP.out.below HI.out.1)
      obtain ⟨c0, c1, c2, c3, c4⟩ := box5s (x := x) (blk_new wr [.int .i64 x.kind, .string x.path, .int .i64 x.num, .string x.frm, .string x.dst] 60)
      have HB3 := Lib.hid (HI.out.1.alloc HI.out.1.size (.cells #[.int .i64 x.kind, .string x.path, .int .i64 x.num, .string x.frm, .string x.dst] 60))
      have HD3 := Lib.hid (HI.out.2.alloc (.cells #[.int .i64 x.kind, .string x.path, .int .i64 x.num, .string x.frm, .string x.dst] 60))
      have HX3 := Lib.hid (blk_new wr [.int .i64 x.kind, .string x.path, .int .i64 x.num, .string x.frm, .string x.dst] 60)
      have HD := Lib.hid (HDN.out (wr.alloc (.cells #[.int .i64 x.kind, .string x.path, .int .i64 x.num, .string x.frm, .string x.dst] 60)))
      go_wp2_with fail
      refine HD.out.mono ?_
      rintro e w4 ⟨rfl, hb⟩
      have HD4 := Lib.hid (HD3.out.below hb HD3.out.lt)
      have HB4 := Lib.hid (below_next HB3.out hb)
      have HX4 := Lib.hid (HX3.out.below hb HX3.out.lt)
      clear hb c0 c1 c2 c3 c4
      obtain ⟨c0, c1, c2, c3, c4⟩ := box5s (x := x) HX4.out
      obtain ⟨d0, d1⟩ := (⟨HD4.out.cell 0, HD4.out.cell 1⟩ : w4.cell? ⟨w.heap.size, 0, none⟩ = some dv ∧ w4.cell? ⟨w.heap.size, 1, none⟩ = some dr)
      have HL4 := Lib.hid (HAL.out w4 HB4.out)
      go_wp2_with fail
      refine HL4.out.mono ?_
      rintro e w5 ⟨rfl, hb⟩
      have HB5 := Lib.hid ((below_next HB4.out hb).alloc (below_next HB4.out hb).size (.cells #[.string r.path, .int .i64 r.num, .int .i64 r.chg, .int .i64 r.act, .int .i64 r.ty.base, .bool r.ty.k, .bool r.ty.l, .bool r.ty.x, .int .u64 r.sum, .int .i64 r.size, .string r.frm, .int .i64 r.fnum] 74))
      have HX5 := Lib.hid ((HX4.out.below hb HX4.out.lt).alloc (.cells #[.string r.path, .int .i64 r.num, .int .i64 r.chg, .int .i64 r.act, .int .i64 r.ty.base, .bool r.ty.k, .bool r.ty.l, .bool r.ty.x, .int .u64 r.sum, .int .i64 r.size, .string r.frm, .int .i64 r.fnum] 74))
      clear hb c0 c1 c2 c3 c4 d0 d1
      obtain ⟨c0, c1, c2, c3, c4⟩ := box5s (x := x) HX5.out
      obtain ⟨r0, r1, r2, r3, r4, r5, r6, r7, r8, r9, r10, r11⟩ := box12 (blk_new w5 [.string r.path, .int .i64 r.num, .int .i64 r.chg, .int .i64 r.act, .int .i64 r.ty.base, .bool r.ty.k, .bool r.ty.l, .bool r.ty.x, .int .u64 r.sum, .int .i64 r.size, .string r.frm, .int .i64 r.fnum] 74)
      have HC5 := Lib.hid (HCH.out _ HB5.out)
      go_wp2_with fail
      refine HC5.out.mono ?_
      rintro e w6 ⟨rfl, hF6, hb⟩
      have HB6 := Lib.hid ((below_next HB5.out hb).alloc (below_next HB5.out hb).size (.cells #[ptrV ((w5.alloc (.cells #[.string r.path, .int .i64 r.num, .int .i64 r.chg, .int .i64 r.act, .int .i64 r.ty.base, .bool r.ty.k, .bool r.ty.l, .bool r.ty.x, .int .u64 r.sum, .int .i64 r.size, .string r.frm, .int .i64 r.fnum] 74)).heap.size + 2)] 88))
      have HF6 := Lib.hid (hF6.under ((Below.refl _ _).alloc (Nat.le_refl _) (.cells #[ptrV ((w5.alloc (.cells #[.string r.path, .int .i64 r.num, .int .i64 r.chg, .int .i64 r.act, .int .i64 r.ty.base, .bool r.ty.k, .bool r.ty.l, .bool r.ty.x, .int .u64 r.sum, .int .i64 r.size, .string r.frm, .int .i64 r.fnum] 74)).heap.size + 2)] 88)))
      have HG6 := Lib.hid (show w.heap.size ≤ (w5.alloc (.cells #[.string r.path, .int .i64 r.num, .int .i64 r.chg, .int .i64 r.act, .int .i64 r.ty.base, .bool r.ty.k, .bool r.ty.l, .bool r.ty.x, .int .u64 r.sum, .int .i64 r.size, .string r.frm, .int .i64 r.fnum] 74)).heap.size + 2 by have := HB5.out.size; omega)
      have HR6 := Lib.hid (row_new w6 [ptrV ((w5.alloc (.cells #[.string r.path, .int .i64 r.num, .int .i64 r.chg, .int .i64 r.act, .int .i64 r.ty.base, .bool r.ty.k, .bool r.ty.l, .bool r.ty.x, .int .u64 r.sum, .int .i64 r.size, .string r.frm, .int .i64 r.fnum] 74)).heap.size + 2)] 88 1 1 rfl (by decide) _ rfl)
      clear hF6 hb c0 c1 c2 c3 c4 r0 r1 r2 r3 r4 r5 r6 r7 r8 r9 r10 r11 HC5 HX5
      generalize (w5.alloc (.cells #[.string r.path, .int .i64 r.num, .int .i64 r.chg, .int .i64 r.act, .int .i64 r.ty.base, .bool r.ty.k, .bool r.ty.l, .bool r.ty.x, .int .u64 r.sum, .int .i64 r.size, .string r.frm, .int .i64 r.fnum] 74)).heap.size + 2 = g at HB6 HF6 HG6 HR6 ⊢
      unfold ptrV at HB6 HF6 HR6 ⊢
      go_wp2_with (at_builtin; refine wpList_push (w0 := w6.alloc (.cells #[.pointer (some ⟨g, 0, none⟩)] 88)) (base := (w6.alloc (.cells #[.pointer (some ⟨g, 0, none⟩)] 88)).heap.size) rfl rfl filElem (World.ownsRow_nil _ _ _ _) rfl HR6.out rfl (Below.refl _ _) (Nat.le_refl _) (by intro u hu; rw [List.mem_singleton] at hu; subst hu; rfl) (by decide) (by decide) ?_; intro A' c' w7 hown7 hbl7)
      have HO7 := Lib.hid (⟨below_next HB6.out hbl7, Row.of_own hown7, HG6.out, HF6.out.under hbl7⟩ : Ap1 w w7 x r (.slice A' (0 + 1) c') g)
      clear hown7 hbl7
      go_wp2_with fail
      go_roundw
      case rel => exact .inr ⟨A', c', g, rfl, rfl, HO7⟩
      case measure => simp [intOf]
    · clear HB2 HD2
      go_wp2_with fail
      go_loopw [54] (fun i wX => ∃ k : Nat, k ≤ 1 ∧ i = .int .i64 k ∧ Hid (Ap1 w wX x r (.slice Aa 1 ca) g)) (fun i _ => 1 - (intOf i).toNat)
      case atStart => exact ⟨0, Nat.zero_le _, rfl, HI⟩
      case round =>
        obtain ⟨k, hk, rfl, HJ⟩ := hrel
        clear HI
        by_cases hlt : k < 1
        · have hk0 : k = 0 := by omega
          subst hk0
          obtain ⟨-, ad, rfl, hab, y0, y1, y2, y3, y4⟩ := Syns.head (HP.out.below HJ.out.1)
          have HB3 := Lib.hid (HJ.out.1.alloc HJ.out.1.size (.cells #[.int .i64 x.kind, .string x.path, .int .i64 x.num, .string x.frm, .string x.dst] 60))
          have HJ3 := Lib.hid ((Below.refl wr.heap.size wr).alloc (Nat.le_refl _) (.cells #[.int .i64 x.kind, .string x.path, .int .i64 x.num, .string x.frm, .string x.dst] 60))
          obtain ⟨c0, c1, c2, c3, c4⟩ := box5s (x := x) (blk_new wr [.int .i64 x.kind, .string x.path, .int .i64 x.num, .string x.frm, .string x.dst] 60)
          obtain ⟨t0, t1, t2, t3, t4⟩ := IsTree.facts (HT.out _ HB3.out)
          have m2 := cell_regrown t2
          have n1 := cell_regrown c1
          have lk4 : ∀ d os, (Instr.lookup 35 (.map (some bp)) (.string x.path) true).run Tryz.prog (grow (redrawn (wr.alloc (.cells #[.int .i64 x.kind, .string x.path, .int .i64 x.num, .string x.frm, .string x.dst] 60)) d) os) = .ok (.tuple #[.pointer none, .bool false]) (grow (redrawn (wr.alloc (.cells #[.int .i64 x.kind, .string x.path, .int .i64 x.num, .string x.frm, .string x.dst] 60)) d) os) := fun d os => LK.out _ (below_next HB3.out (below_regrown _ d os))
          go_wp2_with fail
          refine wp_region_quiet_below (by kernel_rfl) (by kernel_rfl) ?_
          repeat (first | go_big_quiet_step (fail) | quiet_step (fail))
          refine wpQuiet_nil ?_
          intro _ hw9
          obtain ⟨⟨dq, osq⟩, hw9⟩ := hw9
          subst hw9
          have HQ := Lib.hid (HJ3.out.trans ((below_regrown (wr.alloc (.cells #[.int .i64 x.kind, .string x.path, .int .i64 x.num, .string x.frm, .string x.dst] 60)) dq osq).mono HJ3.out.size))
          clear lk4 m2 n1 t0 t1 t2 t3 t4 c0 c1 c2 c3 c4 HB3 HJ3
          generalize grow (redrawn (wr.alloc (.cells #[.int .i64 x.kind, .string x.path, .int .i64 x.num, .string x.frm, .string x.dst] 60)) dq) osq = W5 at HQ ⊢
          go_wp2_with fail
          go_roundw
          case rel => exact ⟨1, by omega, rfl, ⟨below_next HJ.out.1 HQ.out, HJ.out.2.1.below HQ.out, HJ.out.2.2.1, HJ.out.2.2.2.under HQ.out⟩⟩
          case measure => simp [intOf]
        · have hk1 : k = 1 := by omega
          subst hk1
          go_wp2_with fail
          go_loopw [79] (fun i wX => (i = .int .i64 0 ∧ Hid (Ap1 w wX x r (.slice Aa 1 ca) g)) ∨ (i = .int .i64 1 ∧ Hid (ApplyP w t n bl bp bs ba x r F1 F2 wX))) (fun i _ => 1 - (intOf i).toNat)
          case atStart => exact .inl ⟨rfl, HJ⟩
          case round =>
            clear HJ
            rcases hrel with ⟨rfl, HJ⟩ | ⟨rfl, HJ⟩
            · obtain ⟨A, c, e, -, -, -, -, hx⟩ := id HJ.out.2.1
              injection e with e1 e2 e3
              subst e1 e3
              obtain ⟨ad, rfl, hab, hc⟩ := hx (by decide)
              have p0 : wr.cell? ad = some (.pointer (some ⟨g, 0, none⟩)) := by
                have := hc 0 _ rfl
                have e : ad.add 0 = ad := by unfold Addr.add; simp
                rw [e] at this; exact this
              have HPT := Lib.hid (HPU.out wr HJ.out.1 g HJ.out.2.2.2)
              clear hx hc e2
              go_wp2_with fail
              refine HPT.out.mono ?_
              rintro e w9 ⟨rfl, hpt⟩
              have HZ : Hid (ApplyP w t n bl bp bs ba x r F1 F2 w9) := by
                obtain ⟨⟨v, g1, g2⟩, m1, m2⟩ := hpt
                refine Lib.hid ⟨(Kept.below HJ.out.1).trans ((Kept.grown g1 (by simp)).trans (Kept.grown g2 (by simp))), g, HJ.out.2.2.1, ?_, m1, m2⟩
                have hs := HSZ.out
                have hg := HJ.out.2.2.1
                exact Blk.grown (Blk.grown HJ.out.2.2.2 g1 (by intro e; injection e with e; omega)) g2 (by intro e; injection e with e; omega)
              clear hpt HPT
              go_wp2_with fail
              go_roundw
              case rel => exact ⟨_, _, _, _, _, _, _, _, _, .inr ⟨rfl, HZ⟩, rfl⟩
              case measure => simp [intOf]
            · go_wp2_with fail
              go_ret
              exact ⟨rfl, HJ.out⟩
end Go.Proofs.YteolonjmgojoeaaGreatDoor
