/- Two neighbouring ranges of structs exchanged: slices.rotateCmpFunc at records. -/
import Derived.Test.YtnblfaagchflaaaDoorMgw0
import Derived.Test.YtnblfaagchflaaaDoorMzGreat2
namespace Go.Proofs.YtnblfaagchflaaaDoor
open Go.RowKit Go.Lib
open Go.Sort hiding Below
set_option linter.unusedVariables false
set_option linter.unusedSimpArgs false
variable {P : Program} {α : Type} [Inhabited α]

set_option maxHeartbeats 4000000 in
set_option maxRecDepth 100000 in
theorem rotate_rcd {k : Nat} (L : SFacts P 23 50 67 k) (F : P.funcs[74]? = some Tryd.f74)
    (F2 : P.funcs[66]? = some Tryd.f66)
    (enc : α → List Value) (hk : ∀ x, (enc x).length = k) (h1 : ∀ x, ∀ v ∈ enc x, v.oneCell' = true) (w0 W : World) (blk off C cap a m b : Nat) (d : Array α) (cv : Value) (h : SB enc k 50 w0 blk off C d W)
    (ham : a < m) (hmb : m < b) (hb : b ≤ d.size) (hsz : d.size < 4611686018427387904) :
    Calls P 66 #[.slice (some ⟨blk, off, none⟩) d.size cap, .int .i64 a, .int .i64 m, .int .i64 b, cv] W fun e w' => e = .returned (.tuple #[]) ∧ ∃ d', PermIn a b d d' ∧ (∀ x, d'[x]! = rotAt d a m b x) ∧ SB enc k 50 w0 blk off C d' w' := by
  have mixed := L.mixed; have t0 := L.t0; have a0 := L.a0; have z0 := L.z0; have ti := L.ti; have ai := L.ai; have zi := L.zi; have vi := L.vi; have tb := L.tb; have ab := L.ab; have zb := L.zb; have tu := L.tu; have au := L.au; have zu := L.zu; have tS := L.tS; have aS := L.aS; have zS := L.zS; have aE := L.aE; have zE := L.zE; have tF := L.tF; have aF := L.aF; have zF := L.zF
  have HSW := Lib.hid (fun (d' : Array α) (W' : World) (a b n : Nat) (h : SB enc k 50 w0 blk off C d' W') (hd : d'.size = d.size) (h2 : a + n ≤ b) (h3 : b + n ≤ d'.size) => swapRange_rcd L F enc hk h1 w0 W' blk off C cap a b n d' cv h h2 h3 (by omega))
  have HS := Lib.hid h
  have e65 : ∀ args w, (callFunc 74 args).run P w = .ok (.enter 74 args) w := enters_of F (by kernel_rfl) rfl
  have w1 : IntKind.i64.wrap ((m : Int) - (a : Int)) = ((m - a : Nat) : Int) := by rw [IntKind.wrap_i64]; omega
  have w2 : IntKind.i64.wrap ((b : Int) - (m : Int)) = ((b - m : Nat) : Int) := by rw [IntKind.wrap_i64]; omega
  clear h hk h1
  go_enter F2, Tryd.ntmps66
  go_wp2
  clear w1 w2
  go_loopw [10, 11] (fun s t wr => ∃ (i j : Nat) (d' : Array α), s = .int .i64 i ∧ t = .int .i64 j ∧ Hid (RotI d a m b d' i j ∧ SB enc k 50 w0 blk off C d' wr)) (fun s t _ => (intOf s).toNat + (intOf t).toNat)
  case atStart => exact ⟨_, _, d, rfl, rfl, RotI.start ham hmb, HS.out⟩
  case round =>
    obtain ⟨i, j, d', rfl, rfl, HI⟩ := hrel
    have hi0 := HI.out.1.1
    have hj0 := HI.out.1.2.1
    have hi1 := HI.out.1.2.2.1
    have hj1 := HI.out.1.2.2.2.1
    have hds : d'.size = d.size := HI.out.1.2.2.2.2.1.1
    have w1 : IntKind.i64.wrap ((m : Int) - (i : Int)) = ((m - i : Nat) : Int) := by rw [IntKind.wrap_i64]; omega
    by_cases hne : i = j
    · subst hne
      have HF := Lib.hid (HI.out.1.fin ham hmb hb)
      have HW := Lib.hid (HSW.out d' wr (m - i) m i HI.out.2 hds (by omega) (by omega))
      rw [hds] at HW
      go_wp2_with fail
      refine HW.out.mono ?_
      rintro e w' ⟨rfl, hB⟩
      have HB := Lib.hid hB
      clear hB
      go_wp2_with fail
      go_end0
      exact ⟨rfl, _, HF.out.1, HF.out.2, HB.out⟩
    · have q1 : ((i : Int) != (j : Int)) = true := by rw [bne_iff_ne]; omega
      by_cases hij : j < i
      · have q2 : decide ((j : Int) < (i : Int)) = true := by simp; omega
        have HN := Lib.hid (HI.out.1.left ham hmb hb hij)
        have HW := Lib.hid (HSW.out d' wr (m - i) m j HI.out.2 hds (by omega) (by omega))
        rw [hds] at HW
        have w2 : IntKind.i64.wrap ((i : Int) - (j : Int)) = ((i - j : Nat) : Int) := by rw [IntKind.wrap_i64]; omega
        go_wp2_with fail
        refine HW.out.mono ?_
        rintro e w' ⟨rfl, hB⟩
        have HB := Lib.hid hB
        clear hB
        go_wp2_with fail
        go_roundw
        case rel => exact ⟨i - j, j, _, rfl, rfl, HN.out, HB.out⟩
        case measure => simp [intOf]; omega
      · have q2 : decide ((j : Int) < (i : Int)) = false := by simp; omega
        have HN := Lib.hid (HI.out.1.right ham hmb hb (by omega))
        have HW := Lib.hid (HSW.out d' wr (m - i) (m + j - i) i HI.out.2 hds (by omega) (by omega))
        rw [hds] at HW
        have w2 : IntKind.i64.wrap ((j : Int) - (i : Int)) = ((j - i : Nat) : Int) := by rw [IntKind.wrap_i64]; omega
        have c1 : ((m + j - i : Nat) : Int) = (m : Int) + (j : Int) - (i : Int) := by omega
        rw [c1] at HW
        clear c1
        go_wp2_with fail
        refine HW.out.mono ?_
        rintro e w' ⟨rfl, hB⟩
        have HB := Lib.hid hB
        clear hB
        go_wp2_with fail
        go_roundw
        case rel => exact ⟨i, j - i, _, rfl, rfl, HN.out, HB.out⟩
        case measure => simp [intOf]; omega
end Go.Proofs.YtnblfaagchflaaaDoor
/- slices.insertionSortCmpFunc at records, with a comparison that may lay blocks. -/
namespace Go.Proofs.YtnblfaagchflaaaDoor
open Go.RowKit Go.Lib
open Go.Sort hiding Below
set_option linter.unusedVariables false
set_option linter.unusedSimpArgs false
variable {P : Program} {α : Type} [Inhabited α]

/-- The comparison g answers cf, wherever it is called; of what was there nothing turns. -/
def CmpB (P : Program) (g : Nat) (enc : α → List Value) (cf : α → α → Int) : Prop :=
  (∀ args w, (callFunc g args).run P w = .ok (.enter g args) w) ∧ ∀ x y W, Calls P g #[.agg (enc x).toArray, .agg (enc y).toArray] W fun e w' => e = .returned (.int .i64 (cf x y)) ∧ Go.RowKit.Below W.heap.size W w'
omit [Inhabited α] in
theorem CmpB.at_ {g : Nat} {enc : α → List Value} {cf : α → α → Int} (h : CmpB P g enc cf) (x y : α) (W : World) (d : Nat) (os : Array Obj) :
    Calls P g #[.agg (enc x).toArray, .agg (enc y).toArray] (grow (redrawn W d) os) fun e w'' => e = .returned (.int .i64 (cf x y)) ∧ ∃ p : Regrown, w'' = grow (redrawn W p.d) p.os := Calls.regrown_of (h.2 x y _)
theorem SB.lds {enc : α → List Value} {k : Nat} {e : TypeId} {w0 W : World} {blk off C : Nat} {d : Array α} (h : SB enc k e w0 blk off C d W) (hk : ∀ x, (enc x).length = k) (P : Program) {i : Nat} (hi : i < d.size) (q : Nat) (os : Array Obj) :
    Sem.run P (loadCellsFrom ⟨blk, off + i * k, none⟩ 0 k #[]) (grow (redrawn W q) os) = .ok (enc d[i]!).toArray (grow (redrawn W q) os) := (h.below (below_regrown W q os)).load hk P hi

set_option maxHeartbeats 4000000 in
set_option maxRecDepth 100000 in
theorem insertion_rcd {k : Nat} (L : SFacts P 23 50 67 k) (F : P.funcs[46]? = some Tryd.f46)
    (enc : α → List Value) (hk : ∀ x, (enc x).length = k) (h1 : ∀ x, ∀ v ∈ enc x, v.oneCell' = true) (cf : α → α → Int) (g : Nat) (hC : CmpB P g enc cf) (w0 W : World) (blk off C cap a b : Nat) (d : Array α) (h : SB enc k 50 w0 blk off C d W)
    (hab : a ≤ b) (hb : b ≤ d.size) (hsz : d.size < 4611686018427387904) :
    Calls P 46 #[.slice (some ⟨blk, off, none⟩) d.size cap, .int .i64 a, .int .i64 b, .func (.func g) #[] #[]] W fun e w' => e = .returned (.tuple #[]) ∧ SB enc k 50 w0 blk off C (Sort.insertionSort (ltOf cf) d a b) w' := by
  have mixed := L.mixed; have t0 := L.t0; have a0 := L.a0; have z0 := L.z0; have ti := L.ti; have ai := L.ai; have zi := L.zi; have vi := L.vi; have tb := L.tb; have ab := L.ab; have zb := L.zb; have tu := L.tu; have au := L.au; have zu := L.zu; have tS := L.tS; have aS := L.aS; have zS := L.zS; have aE := L.aE; have zE := L.zE; have tF := L.tF; have aF := L.aF; have zF := L.zF
  have HC := Lib.hid hC.2
  have HCB := Lib.hid hC
  have eg := hC.1
  have HS := Lib.hid h
  have HK := Lib.hid hk
  have H1 := Lib.hid h1
  clear h hk h1 hC
  go_enter F, Tryd.ntmps46
  go_wp2
  go_loopw [8] (fun s wr => ∃ (i : Nat) (dk : Array α), s = .int .i64 i ∧ a < i ∧ i ≤ b + 1 ∧ dk.size = d.size ∧ Hid (insOuter (ltOf cf) a b i dk = insOuter (ltOf cf) a b (a + 1) d ∧ SB enc k 50 w0 blk off C dk wr)) (fun s _ => b + 1 - (intOf s).toNat)
  case atStart => exact ⟨a + 1, d, by go_num, by omega, by omega, rfl, rfl, HS.out⟩
  case round =>
    obtain ⟨i, dk, rfl, hai, hib, hsk, HO⟩ := hrel
    by_cases hlt : i < b
    · have hltz : (i : Int) < (b : Int) := by omega
      go_wp2
      go_loopw [9] (fun s wr => ∃ (j : Nat) (dj : Array α), s = .int .i64 j ∧ a ≤ j ∧ j ≤ i ∧ dj.size = d.size ∧ Hid (insInner (ltOf cf) a j dj = insInner (ltOf cf) a i dk ∧ SB enc k 50 w0 blk off C dj wr)) (fun s _ => (intOf s).toNat)
      case atStart => exact ⟨i, dk, rfl, by omega, Nat.le_refl _, hsk, rfl, HO.out.2⟩
      case round =>
        obtain ⟨j, dj, rfl, haj, hji, hsj, HI⟩ := hrel
        have OUT : Hid ((j ≤ a ∨ ltOf cf dj[j]! dj[j - 1]! = false) → insOuter (ltOf cf) a b (i + 1) dj = insOuter (ltOf cf) a b (a + 1) d) := fun hs => by
          rw [← HO.out.1, insOuter_go _ _ _ _ _ hlt, ← HI.out.1, insInner_stop _ _ _ _ hs]
        by_cases hja : a < j
        · obtain ⟨jp, rfl⟩ : ∃ jp, j = jp + 1 := ⟨j - 1, by omega⟩
          have hjaz' : (a : Int) < (jp : Int) + 1 := by omega
          have hwp : IntKind.i64.wrap (jp : Int) = (jp : Int) := by rw [IntKind.wrap_i64]; omega
          have jz : (jp : Int) + 1 < (d.size : Int) := by omega
          have jz1 : (jp : Int) < (d.size : Int) := by omega
          have p0 : (0 : Int) ≤ (jp : Int) + 1 := by omega
          have e0 : ((jp : Int) + 1).toNat = jp + 1 := by omega
          have lj := HI.out.2.lds HK.out P (i := jp + 1) (by omega)
          have lp := HI.out.2.lds HK.out P (i := jp) (by omega)
          obtain ⟨xj, hxj⟩ : ∃ x, dj[jp + 1]! = x := ⟨_, rfl⟩
          obtain ⟨xp, hxp⟩ : ∃ x, dj[jp]! = x := ⟨_, rfl⟩
          rw [hxj] at lj
          rw [hxp] at lp
          have HCG := Lib.hid (HCB.out.at_ xj xp wr)
          have HXJ := Lib.hid hxj
          have HXP := Lib.hid hxp
          clear hxj hxp
          by_cases hlv : cf xj xp < 0
          · have dlv : decide (cf xj xp < 0) = true := by simp; omega
            go_wp2_with fail
            refine wp_region_quiet_below (by assumption) (by kernel_rfl) ?_
            repeat (first | go_big_quiet_step (exact HCG.out _ _) | quiet_step (exact HCG.out _ _))
            refine wpQuiet_nil ?_
            intro _ hw'
            obtain ⟨⟨dq, osq⟩, hw''⟩ := hw'
            subst hw''
            have hB5 := HI.out.2.below (below_regrown wr dq osq)
            clear lj lp
            generalize grow (redrawn wr dq) osq = W5 at hB5 ⊢
            have hB6 := hB5.drew
            have lj := hB6.load HK.out P (i := jp + 1) (by omega)
            have lp := hB6.load HK.out P (i := jp) (by omega)
            have s1 := hB6.st1 HK.out H1.out P (i := jp + 1) (by omega) dj[jp]!
            have s2 := hB6.st2 HK.out H1.out P (i := jp + 1) (j := jp) (by omega) (by omega) dj[jp]! dj[jp + 1]!
            have HN : Hid _ := hB6.swap HK.out (i := jp + 1) (j := jp) (by omega) (by omega)
            have q1 : (enc dj[jp + 1]!).length = k := HK.out _
            have q2 : (enc dj[jp]!).length = k := HK.out _
            clear hB6 hB5
            generalize enc dj[jp + 1]! = cj at lj lp s1 s2 HN q1 q2
            generalize enc dj[jp]! = cp at lj lp s1 s2 HN q1 q2
            go_wp2_with fail
            go_big_region_o
            all_goals go_wp2
            go_roundw
            case rel =>
              refine ⟨jp, swp dj (jp + 1) jp, by first | rfl | go_num | (congr 1; omega), by omega, by omega, by rw [size_swp]; exact hsj, ?_, HN.out⟩
              have := insInner_go (ltOf cf) a (jp + 1) dj hja (by simp only [Nat.add_sub_cancel]; rw [HXJ.out, HXP.out]; exact dlv)
              simp only [Nat.add_sub_cancel] at this
              rw [← HI.out.1, this]
            case measure => simp [intOf]
          · have dlv : decide (cf xj xp < 0) = false := by simp; omega
            go_wp2_with fail
            refine wp_region_quiet_below (by assumption) (by kernel_rfl) ?_
            repeat (first | go_big_quiet_step (exact HCG.out _ _) | quiet_step (exact HCG.out _ _))
            refine wpQuiet_nil ?_
            intro _ hw'
            obtain ⟨⟨dq, osq⟩, hw''⟩ := hw'
            subst hw''
            have HB5 := Lib.hid (HI.out.2.below (below_regrown wr dq osq))
            generalize grow (redrawn wr dq) osq = W5 at HB5 ⊢
            go_wp2
            go_roundw
            case rel => exact ⟨i + 1, dj, by go_num, by omega, by omega, hsj, OUT.out (Or.inr (by simp only [Nat.add_sub_cancel]; rw [HXJ.out, HXP.out]; exact dlv)), HB5.out⟩
            case measure => simp [intOf]; omega
        · have hjaz : decide ((a : Int) < (j : Int)) = false := decide_eq_false (by omega)
          have hjaz' : ¬ (a : Int) < (j : Int) := by omega
          have HB5 := Lib.hid HI.out.2.drew
          go_wp2_with fail
          go_big_region_o
          all_goals go_wp2
          go_roundw
          case rel => exact ⟨i + 1, dj, by go_num, by omega, by omega, hsj, OUT.out (Or.inl (by omega)), HB5.out⟩
          case measure => simp [intOf]; omega
    · have hltz : ¬ (i : Int) < (b : Int) := by omega
      go_wp2
      go_end0
      exact ⟨rfl, by unfold Sort.insertionSort; rw [← HO.out.1, insOuter_stop _ _ _ _ _ hlt]; exact HO.out.2⟩
end Go.Proofs.YtnblfaagchflaaaDoor
/- At, Last. -/
namespace Go.Proofs.YtnblfaagchflaaaDoor
open Go.RowKit
set_option linter.unusedVariables false
set_option linter.unusedSimpArgs false
set_option maxRecDepth 100000 in
set_option maxHeartbeats 4000000 in
theorem last_any (revs : List Rev) (q : ByteArray) (dv dr : Value) (w : World) (hR : Revs w dv revs) (hl : revs.length ≤ 1000000) :
    Calls Tryd.prog 8 #[.agg #[dv, dr], .string q] w
      fun e w' => e = .returned (.tuple #[.agg #[.string (someR (greatest revs q (fun _ : Rev => true))).path, .int .i64 (someR (greatest revs q (fun _ : Rev => true))).num, .int .i64 (someR (greatest revs q (fun _ : Rev => true))).chg, .int .i64 (someR (greatest revs q (fun _ : Rev => true))).act, .int .i64 (someR (greatest revs q (fun _ : Rev => true))).ty.base, .bool (someR (greatest revs q (fun _ : Rev => true))).ty.k, .bool (someR (greatest revs q (fun _ : Rev => true))).ty.l, .bool (someR (greatest revs q (fun _ : Rev => true))).ty.x, .int .u64 (someR (greatest revs q (fun _ : Rev => true))).sum, .int .i64 (someR (greatest revs q (fun _ : Rev => true))).size, .string (someR (greatest revs q (fun _ : Rev => true))).frm, .int .i64 (someR (greatest revs q (fun _ : Rev => true))).fnum], .bool (greatest revs q (fun _ : Rev => true)).isSome]) ∧ Below w.heap.size w w' := by
  have HR := Lib.hid hR
  obtain ⟨Ar, cr, rfl, -⟩ := hR
  obtain ⟨dv, hdv⟩ : ∃ v, Value.slice Ar revs.length cr = v := ⟨_, rfl⟩
  have hb0 : Below w.heap.size w ((w.alloc (.cells #[(.slice Ar revs.length cr), dr] 25)).alloc (.cells #[.string ⟨#[]⟩, .int .i64 0, .int .i64 0, .int .i64 0, .int .i64 0, .bool false, .bool false, .bool false, .int .u64 0, .int .i64 0, .string ⟨#[]⟩, .int .i64 0] 33)) := (((Below.refl _ _).alloc (Nat.le_refl _) _).alloc (by simp) _)
  have hZ : Blk ((w.alloc (.cells #[(.slice Ar revs.length cr), dr] 25)).alloc (.cells #[.string ⟨#[]⟩, .int .i64 0, .int .i64 0, .int .i64 0, .int .i64 0, .bool false, .bool false, .bool false, .int .u64 0, .int .i64 0, .string ⟨#[]⟩, .int .i64 0] 33)) (w.heap.size + 1) 33 [.string ⟨#[]⟩, .int .i64 0, .int .i64 0, .int .i64 0, .int .i64 0, .bool false, .bool false, .bool false, .int .u64 0, .int .i64 0, .string ⟨#[]⟩, .int .i64 0] := by
    have h1 := blk_new (w.alloc (.cells #[(.slice Ar revs.length cr), dr] 25)) [.string ⟨#[]⟩, .int .i64 0, .int .i64 0, .int .i64 0, .int .i64 0, .bool false, .bool false, .bool false, .int .u64 0, .int .i64 0, .string ⟨#[]⟩, .int .i64 0] 33
    simp only [World.size_alloc] at h1
    exact h1
  have HC := Lib.hid (greatest_last revs q (.slice Ar revs.length cr) dr _ (HR.out.below hb0) hl)
  clear hdv dv
  generalize greatest revs q (fun _ : Rev => true) = o at HC ⊢
  generalize someR o = r at HC ⊢
  go_enter Tryd.func8, Tryd.ntmps8
  go_wp2_with fail
  refine HC.out.mono ?_
  rintro e w1 ⟨rfl, hb1⟩
  have hZ1 := hZ.below hb1 hZ.lt
  have hbw1 := below_next hb0 hb1
  obtain ⟨z0, z1, z2, z3, z4, z5, z6, z7, z8, z9, z10, z11⟩ := box12 hZ1
  obtain ⟨y0, y1, y2, y3, y4, y5, y6, y7, y8, y9, y10, y11⟩ := frz12 hZ1
  clear hb1
  go_wp2_with fail
  have hZ3 := set12 hZ1 r
  have hB3 := below12 hbw1 (show w.heap.size ≤ w.heap.size + 1 by omega) r
  generalize ((((((((((((w1.setCell ⟨w.heap.size + 1, 0, none⟩ (.string r.path)).setCell ⟨w.heap.size + 1, 1, none⟩ (.int .i64 r.num)).setCell ⟨w.heap.size + 1, 2, none⟩ (.int .i64 r.chg)).setCell ⟨w.heap.size + 1, 3, none⟩ (.int .i64 r.act)).setCell ⟨w.heap.size + 1, 4, none⟩ (.int .i64 r.ty.base)).setCell ⟨w.heap.size + 1, 5, none⟩ (.bool r.ty.k)).setCell ⟨w.heap.size + 1, 6, none⟩ (.bool r.ty.l)).setCell ⟨w.heap.size + 1, 7, none⟩ (.bool r.ty.x)).setCell ⟨w.heap.size + 1, 8, none⟩ (.int .u64 r.sum)).setCell ⟨w.heap.size + 1, 9, none⟩ (.int .i64 r.size)).setCell ⟨w.heap.size + 1, 10, none⟩ (.string r.frm)).setCell ⟨w.heap.size + 1, 11, none⟩ (.int .i64 r.fnum)) = W3 at hZ3 hB3 ⊢
  obtain ⟨e0, e1, e2, e3, e4, e5, e6, e7, e8, e9, e10, e11⟩ := box12 hZ3
  exact bodyPost_ret (v := .tuple #[.agg #[.string r.path, .int .i64 r.num, .int .i64 r.chg, .int .i64 r.act, .int .i64 r.ty.base, .bool r.ty.k, .bool r.ty.l, .bool r.ty.x, .int .u64 r.sum, .int .i64 r.size, .string r.frm, .int .i64 r.fnum], .bool o.isSome]) (by simp [results, Tryd.results8, go_sem, e0, e1, e2, e3, e4, e5, e6, e7, e8, e9, e10, e11]) rfl ⟨rfl, hB3⟩
end Go.Proofs.YtnblfaagchflaaaDoor
