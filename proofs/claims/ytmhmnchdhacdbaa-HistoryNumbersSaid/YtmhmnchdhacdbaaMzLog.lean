/- slices.SortStableFunc at revisions; history.Log. -/
import Derived.Test.YtmhmnchdhacdbaaMgrw
import Derived.Test.YtmhmnchdhacdbaaMzHn
namespace Go.Proofs.Ytmhmnchdhacdbaa
open Go.RowKit Go.Lib
open Go.Sort hiding Below
set_option linter.unusedVariables false
set_option linter.unusedSimpArgs false

theorem revFacts : SFacts Try.prog 29 43 69 12 where
  mixed := by kernel_rfl
  t0 := Try.underlying0
  a0 := Try.isAgg0
  z0 := Try.sizeOf0
  ti := Try.underlying3
  ai := Try.isAgg3
  zi := Try.sizeOf3
  vi := Try.zeroValue3
  tb := Try.underlying4
  ab := Try.isAgg4
  zb := Try.sizeOf4
  tu := Try.underlying109
  au := Try.isAgg109
  zu := Try.sizeOf109
  tS := Try.underlying29
  aS := Try.isAgg29
  zS := Try.sizeOf29
  aE := Try.isAgg43
  zE := Try.sizeOf43
  tF := Try.underlying69
  aF := Try.isAgg69
  zF := Try.sizeOf69
instance : Inhabited Rev := ⟨zeroRev⟩
def revCmp (a b : Rev) : Int := cmpI a.num b.num
theorem revCmp_tot : TotC revCmp := totI (f := fun r : Rev => r.num)
set_option maxRecDepth 100000 in
set_option maxHeartbeats 1000000 in
theorem log1_any (x y : Rev) (w : World) : Calls Try.prog 26 #[.agg #[.string x.path, .int .i64 x.num, .int .i64 x.chg, .int .i64 x.act, .int .i64 x.ty.base, .bool x.ty.k, .bool x.ty.l, .bool x.ty.x, .int .u64 x.sum, .int .i64 x.size, .string x.frm, .int .i64 x.fnum], .agg #[.string y.path, .int .i64 y.num, .int .i64 y.chg, .int .i64 y.act, .int .i64 y.ty.base, .bool y.ty.k, .bool y.ty.l, .bool y.ty.x, .int .u64 y.sum, .int .i64 y.size, .string y.frm, .int .i64 y.fnum]] w fun e w' => e = .returned (.int .i64 (revCmp x y)) ∧ Below w.heap.size w w' := by
  have H := Lib.hid (fun X => cmpInt_any x.num y.num X)
  have hA : Below w.heap.size w ((w.alloc (.cells #[.string x.path, .int .i64 x.num, .int .i64 x.chg, .int .i64 x.act, .int .i64 x.ty.base, .bool x.ty.k, .bool x.ty.l, .bool x.ty.x, .int .u64 x.sum, .int .i64 x.size, .string x.frm, .int .i64 x.fnum] 43)).alloc (.cells #[.string y.path, .int .i64 y.num, .int .i64 y.chg, .int .i64 y.act, .int .i64 y.ty.base, .bool y.ty.k, .bool y.ty.l, .bool y.ty.x, .int .u64 y.sum, .int .i64 y.size, .string y.frm, .int .i64 y.fnum] 43)) := ((Below.refl _ _).alloc (Nat.le_refl _) _).alloc (by simp) _
  go_enter Try.func26, Try.ntmps26
  go_wp2_with fail
  refine (H.out _).mono ?_
  rintro e w' ⟨rfl, rfl⟩
  go_wp2_with fail
  go_ret
  exact ⟨rfl, hA⟩
theorem rev_cmpB : CmpB Try.prog 26 Rev.cells revCmp :=
  ⟨enters_of Try.func26 (by kernel_rfl) rfl, fun x y W => log1_any x y W⟩
theorem rev_len (x : Rev) : x.cells.length = 12 := rfl
theorem rev_oneC (x : Rev) : ∀ v ∈ x.cells, v.oneCell' = true := by
  intro v hv
  simp only [Rev.cells, List.mem_cons, List.not_mem_nil, or_false] at hv
  rcases hv with rfl | rfl | rfl | rfl | rfl | rfl | rfl | rfl | rfl | rfl | rfl | rfl <;> rfl

set_option maxHeartbeats 1000000 in
theorem insertion_none_rev (v cv : Value) (w : World) : Calls Try.prog 52 #[v, .int .i64 0, .int .i64 0, cv] w fun e w' => e = .returned (.tuple #[]) ∧ w = w' := by
  go_enter Try.func52, Try.ntmps52
  go_wp2
  refine wp_loop_rounds 1 ?_
  rw [rounds_succ]
  go_wp2
  go_end0
  exact ⟨rfl, rfl⟩
set_option maxHeartbeats 1000000 in
theorem stable_none_rev (v cv : Value) (w : World) : Calls Try.prog 43 #[v, .int .i64 0, cv] w fun e w' => e = .returned (.tuple #[]) ∧ w = w' := by
  have H := Lib.hid (insertion_none_rev v cv w)
  go_enter Try.func43, Try.ntmps43
  go_wp2
  refine wp_loop_rounds 1 ?_
  rw [rounds_succ]
  go_wp2_with fail
  refine H.out.mono ?_
  rintro e w' ⟨rfl, rfl⟩
  go_wp2
  refine wp_loop_rounds 1 ?_
  rw [rounds_succ]
  go_wp2
  go_end0
  exact ⟨rfl, rfl⟩

def SortPost (w : World) (base : Nat) (v : Value) (l : List Rev) (e : Ending) (w' : World) : Prop :=
  e = .returned (.tuple #[]) ∧ ∃ l' : List Rev, l'.Perm l ∧ l'.Pairwise (fun a b => a.num ≤ b.num) ∧ w'.ownsRow base 43 12 v l.length (l'.flatMap Rev.cells) ∧ w.grownBy w' v.ownBlock
theorem sorted_num {a b : Rev} (h : ¬ revCmp b a < 0) : a.num ≤ b.num := by
  unfold revCmp cmpI at h
  split at h
  · omega
  · omega
set_option maxHeartbeats 1000000 in
theorem sortStable_rev (l : List Rev) (v : Value) (base : Nat) (w : World) (hown : w.ownsRow base 43 12 v l.length (l.flatMap Rev.cells)) (hl : l.length ≤ 10000000) :
    Calls Try.prog 25 #[v, .func (.func 26) #[] #[]] w (SortPost w base v l) := by
  by_cases h0 : l.length = 0
  · have hl0 : l = [] := List.eq_nil_of_length_eq_zero h0
    subst hl0
    have hv : ∃ A c, v = .slice A 0 c := by
      rcases hown.2 with ⟨rfl, -⟩ | ⟨g, cap, cur, rfl, -⟩
      · exact ⟨_, _, rfl⟩
      · exact ⟨_, _, rfl⟩
    obtain ⟨A, c, rfl⟩ := hv
    have HO := Lib.hid hown
    have H := Lib.hid (stable_none_rev (.slice A 0 c) (.func (.func 26) #[] #[]) w)
    clear hown
    go_enter Try.func25, Try.ntmps25
    go_wp2_with fail
    refine H.out.mono ?_
    rintro e w' ⟨rfl, rfl⟩
    go_wp2
    go_end0
    exact ⟨rfl, [], List.Perm.refl _, List.Pairwise.nil, HO.out, ⟨rfl, rfl, rfl, Nat.le_refl _, fun _ _ _ => rfl⟩⟩
  · have hd : l.toArray.size = l.length := by simp
    obtain ⟨g, cap, rfl, hb, h3, h4, hSB⟩ := own_sb (d := l.toArray) rev_len (by rw [hd]; omega) (by rw [hd]; exact hown)
    rw [hd] at h3 ⊢
    have H := Lib.hid (stable_rev revFacts Try.func67 Try.func62 Try.func53 Try.func52 Try.func43
      Rev.cells rev_len rev_oneC revCmp revCmp_tot.swo _ rev_cmpB w w g 0 (cap * 12) cap l.toArray hSB l.length hd (by omega))
    clear hown hSB
    go_enter Try.func25, Try.ntmps25
    go_wp2_with fail
    refine H.out.mono ?_
    rintro e w' ⟨rfl, d', k1, k2, k3⟩
    have HB : Hid (PermIn 0 l.length l.toArray d' ∧ SortedIn (ltOf revCmp) 0 l.length d' ∧ SB Rev.cells 12 43 w g 0 (cap * 12) d' w') := Lib.hid ⟨k1, k2, k3⟩
    clear k1 k2 k3
    go_wp2
    go_end0
    obtain ⟨k1, k2, k3⟩ := HB.out
    have hs : d'.size = l.length := by rw [k1.1, hd]
    refine ⟨rfl, d'.toList, ?_, ?_, ?_, ?_⟩
    · have := k1.2.2
      rw [← hs, Array.extract_size, hs] at this
      rw [← hd, Array.extract_size] at this
      simpa using this
    · rw [List.pairwise_iff_getElem]
      intro i j hi hj hij
      have hi' : i < d'.size := by simpa using hi
      have hj' : j < d'.size := by simpa using hj
      have := k2 i j (Nat.zero_le _) hij (by omega)
      rw [getElem!_pos d' j hj', getElem!_pos d' i hi'] at this
      refine sorted_num ?_
      simpa [ltOf] using this
    · have := sb_own rev_len hb (by rw [hs]; exact h3) h4 k3
      rw [hs] at this
      exact this
    · exact k3.gr
end Go.Proofs.Ytmhmnchdhacdbaa
namespace Go.Proofs.Ytmhmnchdhacdbaa
open Go.RowKit
set_option linter.unusedVariables false
set_option linter.unusedSimpArgs false
/-- What Log leaves: the revisions of the path, sorted by their numbers. -/
def LogPost (w : World) (revs : List Rev) (p : ByteArray) (e : Ending) (w' : World) : Prop := ∃ v l, e = .returned v ∧ Below w.heap.size w w' ∧ Revs w' v l ∧ l.Perm (logOf revs p) ∧ l.Pairwise (fun a b => a.num ≤ b.num)
theorem log_take (revs : List Rev) (p : ByteArray) (k : Nat) (h : k < revs.length) : logOf (revs.take (k + 1)) p = logOf (revs.take k) p ++ (if revs[k].path = p then [revs[k]] else []) := by
  rw [List.take_succ_eq_append_getElem h, log_app]
  congr 1
  unfold logOf
  rw [List.filter_cons]
  by_cases e : revs[k].path = p
  · simp [e]
  · simp [e]
theorem log_len (revs : List Rev) (p : ByteArray) : (logOf revs p).length ≤ revs.length := List.length_filter_le ..
set_option maxRecDepth 100000 in
set_option maxHeartbeats 4000000 in
theorem log_any (revs : List Rev) (p : ByteArray) (dv dr : Value) (w : World) (hR : Revs w dv revs) (hl : revs.length ≤ 1000000) :
    Calls Try.prog 12 #[.agg #[dv, dr], .string p] w (LogPost w revs p) := by
  obtain ⟨Ar, cr, rfl, hcr, hmr, -⟩ := id hR
  have HR := Lib.hid hR
  clear hR
  unfold maxLen at hmr
  go_enter Try.func12, Try.ntmps12
  have hB := blk_new w [.slice Ar revs.length cr, dr] 31
  have hA : Below w.heap.size w (w.alloc (.cells #[.slice Ar revs.length cr, dr] 31)) := (Below.refl _ _).alloc (Nat.le_refl _) _
  go_upto_region 2 with fail
  generalize w.alloc (.cells #[.slice Ar revs.length cr, dr] 31) = W1 at hB hA ⊢
  obtain ⟨d0, -, -, -⟩ := box2 hB
  have HA := Lib.hid hA
  clear hA hB
  go_wp2_with fail
  clear d0
  go_loopw [5, 11] (fun u s wr => ∃ (k n : Nat) (A : Option Addr) (c : Nat), s = .int .i64 k ∧ u = .slice A n c ∧ k ≤ revs.length ∧ n ≤ k ∧ Hid (n = (logOf (revs.take k) p).length ∧ Below W1.heap.size W1 wr ∧ wr.ownsRow W1.heap.size 43 12 (.slice A n c) n ((logOf (revs.take k) p).flatMap Rev.cells))) (fun _ s _ => revs.length - (intOf s).toNat)
  case atStart => exact ⟨0, 0, none, 0, rfl, rfl, Nat.zero_le _, Nat.le_refl _, rfl, Below.refl _ _, World.ownsRow_nil _ _ _ _⟩
  case round =>
    obtain ⟨k, n, A, c, rfl, rfl, hk, hnk, HI⟩ := hrel
    by_cases hlt : k < revs.length
    · obtain ⟨ad, rfl, hab, hld⟩ := Revs.at_ (HR.out.below (below_next HA.out HI.out.2.1)) hlt
      have HT := Lib.hid (log_take revs p k hlt)
      generalize revs[k] = r at hld HT
      obtain ⟨x0, x1, x2, x3, x4, x5, x6, x7, x8, x9, x10, x11⟩ := hld
      have hX := blk_new wr [.string r.path, .int .i64 r.num, .int .i64 r.chg, .int .i64 r.act, .int .i64 r.ty.base, .bool r.ty.k, .bool r.ty.l, .bool r.ty.x, .int .u64 r.sum, .int .i64 r.size, .string r.frm, .int .i64 r.fnum] 43
      have hA1 : Below wr.heap.size wr (wr.alloc (.cells #[.string r.path, .int .i64 r.num, .int .i64 r.chg, .int .i64 r.act, .int .i64 r.ty.base, .bool r.ty.k, .bool r.ty.l, .bool r.ty.x, .int .u64 r.sum, .int .i64 r.size, .string r.frm, .int .i64 r.fnum] 43)) := (Below.refl _ _).alloc (Nat.le_refl _) _
      go_upto_region 5 with fail
      clear x0 x1 x2 x3 x4 x5 x6 x7 x8 x9 x10 x11
      generalize wr.alloc (.cells #[.string r.path, .int .i64 r.num, .int .i64 r.chg, .int .i64 r.act, .int .i64 r.ty.base, .bool r.ty.k, .bool r.ty.l, .bool r.ty.x, .int .u64 r.sum, .int .i64 r.size, .string r.frm, .int .i64 r.fnum] 43) = V1 at hX hA1 ⊢
      obtain ⟨y0, y1, y2, y3, y4, y5, y6, y7, y8, y9, y10, y11⟩ := box12 hX
      by_cases hp : r.path = p
      · have q := str_eqB r.path p
        rw [decide_eq_true hp] at q
        rw [if_pos hp] at HT
        have HN : Hid (n = (logOf (revs.take k) p).length ∧ Below W1.heap.size W1 V1 ∧ V1.ownsRow W1.heap.size 43 12 (.slice A n c) n ((logOf (revs.take k) p).flatMap Rev.cells)) := Lib.hid ⟨HI.out.1, below_next HI.out.2.1 hA1, own_below HI.out.2.2 hA1⟩
        clear hX hA1 hp
        go_wp2_with (at_builtin; refine wpList_push rfl rfl revElem ((own_below HN.out.2.2 ((Below.refl _ _).alloc (Nat.le_refl _) _))) rfl (row_new V1 [.string r.path, .int .i64 r.num, .int .i64 r.chg, .int .i64 r.act, .int .i64 r.ty.base, .bool r.ty.k, .bool r.ty.l, .bool r.ty.x, .int .u64 r.sum, .int .i64 r.size, .string r.frm, .int .i64 r.fnum] _ 12 1 rfl (by decide) _ rfl) rfl (HN.out.2.1.alloc HN.out.2.1.size _) (HN.out.2.1.alloc HN.out.2.1.size _).size (rev_oneC r) (by omega) (by unfold maxLen; omega) ?_; intro A' c' w2 hown2 hbl2)
        have HO2 := Lib.hid hown2
        have HB2 := Lib.hid hbl2
        clear y0 y1 y2 y3 y4 y5 y6 y7 y8 y9 y10 y11 hown2 hbl2
        go_wp2_with fail
        go_roundw
        case rel =>
          refine ⟨k + 1, n + 1, A', c', by go_num, rfl, by omega, by omega, ?_, HB2.out, ?_⟩
          · rw [HT.out, List.length_append, List.length_singleton, ← HN.out.1]
          · rw [HT.out, List.flatMap_append, List.flatMap_cons, List.flatMap_nil, List.append_nil]
            exact HO2.out
        case measure => simp [intOf]; omega
      · have q := str_eqB r.path p
        rw [decide_eq_false hp] at q
        rw [if_neg hp, List.append_nil] at HT
        have HN : Hid (n = (logOf (revs.take (k + 1)) p).length ∧ Below W1.heap.size W1 V1 ∧ V1.ownsRow W1.heap.size 43 12 (.slice A n c) n ((logOf (revs.take (k + 1)) p).flatMap Rev.cells)) := Lib.hid (by rw [HT.out]; exact ⟨HI.out.1, below_next HI.out.2.1 hA1, own_below HI.out.2.2 hA1⟩)
        clear hX hA1 hp HT
        go_wp2_with fail
        go_roundw
        case rel => exact ⟨k + 1, n, A, c, by go_num, rfl, by omega, by omega, HN.out⟩
        case measure => simp [intOf]; omega
    · have hke : k = revs.length := by omega
      have HF : Hid (n = (logOf revs p).length ∧ Below W1.heap.size W1 wr ∧ wr.ownsRow W1.heap.size 43 12 (.slice A n c) n ((logOf revs p).flatMap Rev.cells)) := Lib.hid (by
        have := HI.out
        rwa [hke, List.take_length] at this)
      have HSO := Lib.hid (sortStable_rev (logOf revs p) (.slice A n c) W1.heap.size wr (by rw [← HF.out.1]; exact HF.out.2.2) (by have := log_len revs p; omega))
      clear HI hke
      go_wp2_with fail
      refine HSO.out.mono ?_
      rintro e w' ⟨rfl, l', h1, h2, h3, h4⟩
      have HX : Hid (l'.Perm (logOf revs p) ∧ l'.Pairwise (fun a b => a.num ≤ b.num) ∧ Below W1.heap.size W1 w' ∧ Revs w' (.slice A n c) l') := Lib.hid ⟨h1, h2, HF.out.2.1.grown h4 HF.out.2.1.size (fun k e => (HF.out.2.2.lt k e).1), by
        have := Row.of_own h3
        unfold Revs
        rw [h1.length_eq]
        exact this⟩
      clear h1 h2 h3 h4
      go_wp2_with fail
      go_ret
      exact ⟨_, l', rfl, below_next HA.out HX.out.2.2.1, HX.out.2.2.2, HX.out.1, HX.out.2.1⟩
end Go.Proofs.Ytmhmnchdhacdbaa
