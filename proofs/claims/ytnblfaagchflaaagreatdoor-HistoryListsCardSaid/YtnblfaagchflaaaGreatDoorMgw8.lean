/- Plain: a change that was accepted is refused again (HistoryOnce). -/
import Derived.Test.YtnblfaagchflaaaGreatDoorMgw3
import Derived.Test.YtnblfaagchflaaaGreatDoorMgw5
import Derived.Test.YtnblfaagchflaaaGreatDoorMgw7
namespace Go.Proofs.YtnblfaagchflaaaGreatDoor
open Go.RowKit
set_option linter.unusedVariables false
set_option linter.unusedSimpArgs false

theorem everyE_cons {last : ByteArray → Option Rev} {b : ByteArray} {e : Edt} {es : List Edt} (h : everyE last b (e :: es) = 0) : editE last b e = 0 ∧ everyE last e.path es = 0 := by
  unfold everyE at h
  split at h
  · exact absurd h (by assumption)
  · rename_i hn; exact ⟨Decidable.not_not.1 hn, h⟩
theorem editE_zero {last : ByteArray → Option Rev} {b : ByteArray} {e : Edt} (h : editE last b e = 0) : validS e.path = true ∧ e.path.size ≤ 200 ∧ (b ≠ emptyS → cmpP b e.path < 0) ∧ oneE last e = 0 := by
  unfold editE at h
  split at h
  · omega
  · rename_i h1
    split at h
    · omega
    · rename_i h2
      rw [not_or] at h1
      refine ⟨by simpa using h1.1, by omega, fun hb => ?_, h⟩
      have : ¬ 0 ≤ cmpP b e.path := fun hh => h2 ⟨hb, hh⟩
      omega
theorem valid_ne {p : ByteArray} (h : validS p = true) : p ≠ emptyS := by
  intro e; subst e; revert h; decide
theorem cmpP_valid {a b : ByteArray} (ha : validS a = true) (hb : validS b = true) : cmpP a b = cmpL a.data.toList b.data.toList := by
  unfold cmpP; rw [ha, hb]; rfl
theorem cmpP_self (a : ByteArray) : cmpP a a = 0 := by
  unfold cmpP; split
  · exact cmpL_self _
  · rfl
theorem cmpP_trans {a b c : ByteArray} (ha : validS a = true) (hb : validS b = true) (hc : validS c = true) (h1 : cmpP a b < 0) (h2 : cmpP b c < 0) : cmpP a c < 0 := by
  rw [cmpP_valid ha hb] at h1; rw [cmpP_valid hb hc] at h2; rw [cmpP_valid ha hc]; exact cmpL_trans h1 h2
/-- Each edit comes behind the one ahead. -/
theorem everyE_after {last : ByteArray → Option Rev} {b : ByteArray} {es : List Edt} (hb : validS b = true) (h : everyE last b es = 0) : ∀ e ∈ es, validS e.path = true ∧ cmpP b e.path < 0 := by
  induction es generalizing b with
  | nil => intro e he; simp at he
  | cons x es ih =>
    obtain ⟨h1, h2⟩ := everyE_cons h
    obtain ⟨v, -, hc, -⟩ := editE_zero h1
    have hx := hc (valid_ne hb)
    intro e he
    rcases List.mem_cons.1 he with rfl | he
    · exact ⟨v, hx⟩
    · obtain ⟨v2, h3⟩ := ih v h2 e he
      exact ⟨v2, cmpP_trans hb v v2 hx h3⟩
theorem everyE_paths {last : ByteArray → Option Rev} {b : ByteArray} {es : List Edt} (h : everyE last b es = 0) : es.Pairwise (fun x y => cmpP x.path y.path < 0) ∧ ∀ e ∈ es, validS e.path = true ∧ e.path.size ≤ 200 ∧ oneE last e = 0 := by
  induction es generalizing b with
  | nil => simp
  | cons x es ih =>
    obtain ⟨h1, h2⟩ := everyE_cons h
    obtain ⟨v, hz, hc, ho⟩ := editE_zero h1
    obtain ⟨i1, i2⟩ := ih h2
    refine ⟨List.pairwise_cons.2 ⟨fun e he => (everyE_after v h2 e he).2, i1⟩, fun e he => ?_⟩
    rcases List.mem_cons.1 he with rfl | he
    · exact ⟨v, hz, ho⟩
    · exact i2 e he
theorem path_ne {a b : Edt} (h : cmpP a.path b.path < 0) : a.path ≠ b.path := by
  intro e; rw [e, cmpP_self] at h; omega
theorem paths_nodup {es : List Edt} (h : es.Pairwise (fun x y => cmpP x.path y.path < 0)) : (es.map (·.path)).Nodup := by
  rw [List.Nodup, List.pairwise_map]
  exact h.imp path_ne

theorem lastM_other (f : ByteArray → Option Rev) (r : Rev) {p : ByteArray} (h : p ≠ r.path) : lastM f r p = f p := by
  unfold lastM
  cases f r.path with
  | none => simp [upd, h]
  | some b => by_cases hb : b.num < r.num <;> simp [hb, upd, h]
theorem lastM_self (f : ByteArray → Option Rev) (r : Rev) (h : ∀ b, f r.path = some b → b.num < r.num) : lastM f r r.path = some r := by
  unfold lastM
  cases hf : f r.path with
  | none => simp [upd]
  | some b => simp [h b hf, upd]
theorem lasts_other (news : List Rev) (f : ByteArray → Option Rev) {p : ByteArray} (h : p ∉ news.map (·.path)) : news.foldl lastM f p = f p := by
  induction news generalizing f with
  | nil => rfl
  | cons r news ih =>
    rw [List.map_cons, List.mem_cons, not_or] at h
    rw [List.foldl_cons, ih _ h.2, lastM_other f r h.1]
theorem lastOf_app (a b : List Rev) : lastOf (a ++ b) = b.foldl lastM (lastOf a) := by unfold lastOf; rw [List.foldl_append]
theorem made_paths (last : ByteArray → Option Rev) (n : Int) (es : List Edt) : ((es.map (madeR last n)).map (·.path)) = es.map (·.path) := by
  rw [List.map_map]; rfl
/-- The last revision of a path behind the change: the edit's, or the old one. -/
theorem lasts_made (last : ByteArray → Option Rev) (n : Int) (es : List Edt) (hn : (es.map (·.path)).Nodup) (e : Edt) (he : e ∈ es) :
    (es.map (madeR last n)).foldl lastM last e.path = some (madeR last n e) := by
  have key : ∀ (es : List Edt) (f : ByteArray → Option Rev), (es.map (·.path)).Nodup → (∀ x ∈ es, f x.path = last x.path) → e ∈ es → (es.map (madeR last n)).foldl lastM f e.path = some (madeR last n e) := by
    intro es
    induction es with
    | nil => intro f _ _ he; simp at he
    | cons x es ih =>
      intro f hn hf he
      rw [List.map_cons, List.nodup_cons] at hn
      rw [List.map_cons, List.foldl_cons]
      rcases List.mem_cons.1 he with rfl | he
      · rw [lasts_other _ _ (by rw [made_paths]; exact hn.1)]
        refine lastM_self f (madeR last n e) fun b hb => ?_
        have : last e.path = some b := by rw [← hf e (List.mem_cons_self ..)]; exact hb
        show b.num < (lastR last e.path).num + 1
        unfold lastR
        rw [this]
        simp
        omega
      · refine ih _ hn.2 (fun y hy => ?_) he
        have hne : y.path ≠ x.path := fun h => hn.1 (by rw [← h]; exact List.mem_map.2 ⟨y, hy, rfl⟩)
        rw [lastM_other f (madeR last n x) hne]
        exact hf y (List.mem_cons_of_mem _ hy)
  exact key es last hn (fun _ _ => rfl) he

theorem firstE_zero {a : Int} {l : List Int} (h : firstE (a :: l) = 0) : a = 0 ∧ firstE l = 0 := by
  unfold firstE at h
  split at h
  · exact absurd h (by assumption)
  · rename_i hn; exact ⟨Decidable.not_not.1 hn, h⟩
theorem appE_zero {d : Dep} {c : Chg} (h : appE d c = 0) : sizeE d.revs c = 0 ∧ everyE (lastOf d.revs) emptyS c.edits = 0 ∧ movesE c.edits = 0 ∧ recsE d.revs c = 0 ∧ roomE d c = 0 := by
  unfold appE at h
  obtain ⟨h1, h⟩ := firstE_zero h
  obtain ⟨h2, h⟩ := firstE_zero h
  obtain ⟨h3, h⟩ := firstE_zero h
  obtain ⟨h4, h⟩ := firstE_zero h
  obtain ⟨h5, h⟩ := firstE_zero h
  exact ⟨h1, h2, h3, h4, h5⟩
theorem sizeE_zero {revs : List Rev} {c : Chg} (h : sizeE revs c = 0) : 1 ≤ c.edits.length ∧ c.edits.length ≤ 64 ∧ c.recs.length ≤ 64 ∧ 1 ≤ c.num ∧ c.num ≤ 1073741824 ∧ ∀ r ∈ revs, r.chg < c.num := by
  unfold sizeE at h
  split at h
  · omega
  · rename_i h1
    split at h
    · omega
    · rename_i h2
      split at h
      · omega
      · rename_i h3
        refine ⟨by omega, by omega, by omega, by omega, by omega, fun r hr => ?_⟩
        have h3' : (revs.any fun r => decide (c.num ≤ r.chg)) = false := by simpa using h3
        have := List.any_eq_false.1 h3' r hr
        simp at this
        omega
theorem oneE_zero {last : ByteArray → Option Rev} {e : Edt} (h : oneE last e = 0) : actE last e = 0 ∧ e.base = (lastR last e.path).num ∧ fromE last e = true ∧ typeE last e = true := by
  unfold oneE at h
  split at h
  · exact absurd h (by assumption)
  · rename_i h1
    split at h
    · omega
    · rename_i h2
      split at h
      · omega
      · rename_i h3
        split at h
        · omega
        · rename_i h4
          exact ⟨Decidable.not_not.1 h1, Decidable.not_not.1 h2, by simpa using h3, by simpa using h4⟩
theorem firstE_ne {a : Int} {l : List Int} (h : a ≠ 0) : firstE (a :: l) = a := by unfold firstE; rw [if_pos h]
theorem firstE_skip {l : List Int} : firstE (0 :: l) = firstE l := by rw [firstE]; simp

end Go.Proofs.YtnblfaagchflaaaGreatDoor
/- The exchange of two ranges of structs: slices.swapRangeCmpFunc at records. -/
namespace Go.Proofs.YtnblfaagchflaaaGreatDoor
open Go.RowKit Go.Lib
open Go.Sort hiding Below
set_option linter.unusedVariables false
set_option linter.unusedSimpArgs false
variable {P : Program} {α : Type} [Inhabited α]

set_option maxHeartbeats 4000000 in
set_option maxRecDepth 100000 in
theorem swapRange_rcd {k : Nat} (L : SFacts P 29 57 87 k) (F : P.funcs[138]? = some Tryz.f138)
    (enc : α → List Value) (hk : ∀ x, (enc x).length = k) (h1 : ∀ x, ∀ v ∈ enc x, v.oneCell' = true) (w0 W : World) (blk off C cap a b n : Nat) (d : Array α) (cv : Value) (h : SB enc k 57 w0 blk off C d W)
    (hab : a + n ≤ b) (hbn : b + n ≤ d.size) (hsz : d.size < 4611686018427387904) :
    Calls P 138 #[.slice (some ⟨blk, off, none⟩) d.size cap, .int .i64 a, .int .i64 b, .int .i64 n, cv] W fun e w' => e = .returned (.tuple #[]) ∧ SB enc k 57 w0 blk off C (swpR d a b n) w' := by
  have mixed := L.mixed; have t0 := L.t0; have a0 := L.a0; have z0 := L.z0; have ti := L.ti; have ai := L.ai; have zi := L.zi; have vi := L.vi; have tb := L.tb; have ab := L.ab; have zb := L.zb; have tS := L.tS; have aS := L.aS; have zS := L.zS; have aE := L.aE; have zE := L.zE; have tF := L.tF; have aF := L.aF; have zF := L.zF
  have HS := Lib.hid h
  have HK := Lib.hid hk
  have H1 := Lib.hid h1
  clear h hk h1
  go_enter F, Tryz.ntmps138
  go_wp2
  go_loopw [10] (fun s wr => ∃ i : Nat, s = .int .i64 i ∧ i ≤ n ∧ Hid (SB enc k 57 w0 blk off C (swpR d a b i) wr)) (fun s _ => n - (intOf s).toNat)
  case atStart => exact ⟨0, rfl, Nat.zero_le _, HS.out⟩
  case round =>
    obtain ⟨i, rfl, hi, HB⟩ := hrel
    by_cases hlt : i < n
    · have hltz : (i : Int) < (n : Int) := by omega
      have hds : (swpR d a b i).size = d.size := swpR_size d a b i
      have wa : IntKind.i64.wrap ((a : Int) + (i : Int)) = ((a + i : Nat) : Int) := by rw [IntKind.wrap_i64]; omega
      have wb : IntKind.i64.wrap ((b : Int) + (i : Int)) = ((b + i : Nat) : Int) := by rw [IntKind.wrap_i64]; omega
      have za : ((a + i : Nat) : Int) < (d.size : Int) := by omega
      have zb' : ((b + i : Nat) : Int) < (d.size : Int) := by omega
      have hB2 := HB.out.drew
      have la := hB2.load HK.out P (i := a + i) (by omega)
      have lb := hB2.load HK.out P (i := b + i) (by omega)
      have s1 := hB2.st1 HK.out H1.out P (i := a + i) (by omega) ((swpR d a b i)[b + i]!)
      have s2 := hB2.st2 HK.out H1.out P (i := a + i) (j := b + i) (by omega) (by omega) ((swpR d a b i)[b + i]!) ((swpR d a b i)[a + i]!)
      have HN : Hid _ := hB2.swap HK.out (i := a + i) (j := b + i) (by omega) (by omega)
      have q1 : (enc (swpR d a b i)[a + i]!).length = k := HK.out _
      have q2 : (enc (swpR d a b i)[b + i]!).length = k := HK.out _
      clear hB2
      generalize enc (swpR d a b i)[a + i]! = ca at la lb s1 s2 HN q1 q2
      generalize enc (swpR d a b i)[b + i]! = cb at la lb s1 s2 HN q1 q2
      go_wp2_with fail
      go_big_region_o
      all_goals go_wp2
      go_roundw
      case rel => exact ⟨i + 1, by go_num, by omega, HN.out⟩
      case measure => simp [intOf]; omega
    · have hin : i = n := by omega
      subst hin
      go_wp2
      go_end0
      exact ⟨rfl, HB.out⟩
end Go.Proofs.YtnblfaagchflaaaGreatDoor
/- greatest at At and Last. -/
namespace Go.Proofs.YtnblfaagchflaaaGreatDoor
open Go.RowKit
set_option linter.unusedVariables false
set_option linter.unusedSimpArgs false
set_option maxRecDepth 100000 in
set_option maxHeartbeats 1000000 in
theorem last_fn (r : Rev) (w : World) : Calls Tryz.prog 44 #[.agg #[.string r.path, .int .i64 r.num, .int .i64 r.chg, .int .i64 r.act, .int .i64 r.ty.base, .bool r.ty.k, .bool r.ty.l, .bool r.ty.x, .int .u64 r.sum, .int .i64 r.size, .string r.frm, .int .i64 r.fnum]] w fun e w' => e = .returned (.bool ((fun _ : Rev => true) r)) ∧ Below w.heap.size w w' := by
  go_enter Tryz.func44, Tryz.ntmps44
  go_wp2_with fail
  go_ret
  exact ⟨ret_bool (rfl), (Below.refl _ _).alloc (Nat.le_refl _) _⟩

set_option maxRecDepth 100000 in
set_option maxHeartbeats 8000000 in
theorem greatest_last (revs : List Rev) (q : ByteArray) (dv dr : Value) (w : World) (hR : Revs w dv revs) (hl : revs.length ≤ 1000000) :
    Calls Tryz.prog 26 #[.agg #[dv, dr], .string q, .func (.func 44) #[] #[]] w
      fun e w' => e = .returned (.tuple #[.agg #[.string (someR (greatest revs q (fun _ : Rev => true))).path, .int .i64 (someR (greatest revs q (fun _ : Rev => true))).num, .int .i64 (someR (greatest revs q (fun _ : Rev => true))).chg, .int .i64 (someR (greatest revs q (fun _ : Rev => true))).act, .int .i64 (someR (greatest revs q (fun _ : Rev => true))).ty.base, .bool (someR (greatest revs q (fun _ : Rev => true))).ty.k, .bool (someR (greatest revs q (fun _ : Rev => true))).ty.l, .bool (someR (greatest revs q (fun _ : Rev => true))).ty.x, .int .u64 (someR (greatest revs q (fun _ : Rev => true))).sum, .int .i64 (someR (greatest revs q (fun _ : Rev => true))).size, .string (someR (greatest revs q (fun _ : Rev => true))).frm, .int .i64 (someR (greatest revs q (fun _ : Rev => true))).fnum], .bool (greatest revs q (fun _ : Rev => true)).isSome]) ∧ Below w.heap.size w w' := by
  obtain ⟨Ar, cr, rfl, hcr, hmr, -⟩ := id hR
  have HR := Lib.hid hR
  clear hR
  unfold maxLen at hmr
  rw [greatest_eq]
  have HF := Lib.hid (fun (r : Rev) (W : World) (hb : Below w.heap.size w W) => last_fn r W)
  have hb0 : Below w.heap.size w (((w.alloc (.cells #[.slice Ar revs.length cr, dr] 31)).alloc (.cells #[.string ⟨#[]⟩, .int .i64 0, .int .i64 0, .int .i64 0, .int .i64 0, .bool false, .bool false, .bool false, .int .u64 0, .int .i64 0, .string ⟨#[]⟩, .int .i64 0] 40)).alloc (.cells #[.string ⟨#[]⟩, .int .i64 0, .int .i64 0, .int .i64 0, .int .i64 0, .bool false, .bool false, .bool false, .int .u64 0, .int .i64 0, .string ⟨#[]⟩, .int .i64 0] 40)) := (((Below.refl _ _).alloc (Nat.le_refl _) _).alloc (by simp) _).alloc (by simp; omega) _
  generalize (fun _ : Rev => true) = p at HF ⊢
  go_enter Tryz.func26, Tryz.ntmps26
  go_wp2_with fail
  go_loopw [9, 15] (fun o i wr => ∃ (k : Nat), k ≤ revs.length ∧ i = .int .i64 k ∧ Below w.heap.size w wr ∧ o = .bool ((revs.take k).foldl (gStep q p) none).isSome ∧ Blk wr (w.heap.size + 1) 40 [.string ⟨#[]⟩, .int .i64 0, .int .i64 0, .int .i64 0, .int .i64 0, .bool false, .bool false, .bool false, .int .u64 0, .int .i64 0, .string ⟨#[]⟩, .int .i64 0] ∧ Blk wr (w.heap.size + 1 + 1) 40 [.string (someR ((revs.take k).foldl (gStep q p) none)).path, .int .i64 (someR ((revs.take k).foldl (gStep q p) none)).num, .int .i64 (someR ((revs.take k).foldl (gStep q p) none)).chg, .int .i64 (someR ((revs.take k).foldl (gStep q p) none)).act, .int .i64 (someR ((revs.take k).foldl (gStep q p) none)).ty.base, .bool (someR ((revs.take k).foldl (gStep q p) none)).ty.k, .bool (someR ((revs.take k).foldl (gStep q p) none)).ty.l, .bool (someR ((revs.take k).foldl (gStep q p) none)).ty.x, .int .u64 (someR ((revs.take k).foldl (gStep q p) none)).sum, .int .i64 (someR ((revs.take k).foldl (gStep q p) none)).size, .string (someR ((revs.take k).foldl (gStep q p) none)).frm, .int .i64 (someR ((revs.take k).foldl (gStep q p) none)).fnum]) (fun _ i _ => revs.length - (intOf i).toNat)
  case atStart =>
    refine ⟨0, Nat.zero_le _, rfl, hb0, rfl, ?_, ?_⟩
    · have := blk_new (w.alloc (.cells #[.slice Ar revs.length cr, dr] 31)) [.string ⟨#[]⟩, .int .i64 0, .int .i64 0, .int .i64 0, .int .i64 0, .bool false, .bool false, .bool false, .int .u64 0, .int .i64 0, .string ⟨#[]⟩, .int .i64 0] 40
      have := this.alloc (.cells #[.string ⟨#[]⟩, .int .i64 0, .int .i64 0, .int .i64 0, .int .i64 0, .bool false, .bool false, .bool false, .int .u64 0, .int .i64 0, .string ⟨#[]⟩, .int .i64 0] 40)
      simpa using this
    · have := blk_new ((w.alloc (.cells #[.slice Ar revs.length cr, dr] 31)).alloc (.cells #[.string ⟨#[]⟩, .int .i64 0, .int .i64 0, .int .i64 0, .int .i64 0, .bool false, .bool false, .bool false, .int .u64 0, .int .i64 0, .string ⟨#[]⟩, .int .i64 0] 40)) [.string ⟨#[]⟩, .int .i64 0, .int .i64 0, .int .i64 0, .int .i64 0, .bool false, .bool false, .bool false, .int .u64 0, .int .i64 0, .string ⟨#[]⟩, .int .i64 0] 40
      simp only [World.size_alloc] at this
      exact this
  case round =>
    obtain ⟨k, hk, rfl, hbr, rfl, hZ, hF⟩ := hrel
    by_cases hlt : k < revs.length
    · obtain ⟨ad, rfl, hab, hld⟩ := Revs.at_ (HR.out.below hbr) hlt
      have HT := Lib.hid (show revs.take (k + 1) = revs.take k ++ [revs[k]] from List.take_succ_eq_append_getElem hlt)
      have HG : Hid ((revs.take (k + 1)).foldl (gStep q p) none = gStep q p ((revs.take k).foldl (gStep q p) none) revs[k]) := Lib.hid (by rw [HT.out, List.foldl_append]; rfl)
      generalize revs[k] = r at hld HT HG
      generalize (revs.take k).foldl (gStep q p) none = o at hF HG
      obtain ⟨x0, x1, x2, x3, x4, x5, x6, x7, x8, x9, x10, x11⟩ := hld
      have hbx := hbr.alloc hbr.size (.cells #[.string r.path, .int .i64 r.num, .int .i64 r.chg, .int .i64 r.act, .int .i64 r.ty.base, .bool r.ty.k, .bool r.ty.l, .bool r.ty.x, .int .u64 r.sum, .int .i64 r.size, .string r.frm, .int .i64 r.fnum] 40)
      have hZx := hZ.alloc (.cells #[.string r.path, .int .i64 r.num, .int .i64 r.chg, .int .i64 r.act, .int .i64 r.ty.base, .bool r.ty.k, .bool r.ty.l, .bool r.ty.x, .int .u64 r.sum, .int .i64 r.size, .string r.frm, .int .i64 r.fnum] 40)
      have hFx := hF.alloc (.cells #[.string r.path, .int .i64 r.num, .int .i64 r.chg, .int .i64 r.act, .int .i64 r.ty.base, .bool r.ty.k, .bool r.ty.l, .bool r.ty.x, .int .u64 r.sum, .int .i64 r.size, .string r.frm, .int .i64 r.fnum] 40)
      have hX := blk_new wr [.string r.path, .int .i64 r.num, .int .i64 r.chg, .int .i64 r.act, .int .i64 r.ty.base, .bool r.ty.k, .bool r.ty.l, .bool r.ty.x, .int .u64 r.sum, .int .i64 r.size, .string r.frm, .int .i64 r.fnum] 40
      by_cases hp : r.path = q
      · have HC := Lib.hid (HF.out r (wr.alloc (.cells #[.string r.path, .int .i64 r.num, .int .i64 r.chg, .int .i64 r.act, .int .i64 r.ty.base, .bool r.ty.k, .bool r.ty.l, .bool r.ty.x, .int .u64 r.sum, .int .i64 r.size, .string r.frm, .int .i64 r.fnum] 40)) hbx)
        cases hpr : p r
        · rw [hpr] at HC
          have HS : Hid (gStep q p o r = o) := Lib.hid (by unfold gStep; rw [hpr]; simp)
          clear hpr
          subst hp
          go_wp2_with fail
          refine HC.out.mono ?_
          rintro e w2 ⟨rfl, hb2⟩
          go_wp2_with fail
          go_roundw
          case rel => exact ⟨k + 1, by omega, by go_num, below_next hbx hb2, by rw [HG.out, HS.out], hZx.below hb2 hZx.lt, by rw [HG.out, HS.out]; exact hFx.below hb2 hFx.lt⟩
          case measure => simp [intOf]; omega
        · rw [hpr] at HC
          have hnew : ∀ b : Bool, o.isSome = false ∨ (someR o).num < r.num → gStep q p o r = some r := by
            intro b h
            unfold gStep
            rw [if_pos ⟨hp, hpr⟩]
            cases o with
            | none => rfl
            | some x => rcases h with h | h
                        · cases h
                        · exact if_pos h
          have hold : o.isSome = true → ¬ (someR o).num < r.num → gStep q p o r = o := by
            intro h1 h2
            unfold gStep
            rw [if_pos ⟨hp, hpr⟩]
            cases o with
            | none => cases h1
            | some x => exact if_neg h2
          clear hpr
          subst hp
          by_cases hn : o.isSome = false ∨ (someR o).num < r.num
          · have HS := Lib.hid (hnew true hn)
            clear hnew hold
            cases hos : o.isSome
            · clear hn
              go_wp2_with fail
              refine HC.out.mono ?_
              rintro e w2 ⟨rfl, hb2⟩
              have hX2 := hX.below hb2 hX.lt
              have hF2 := hFx.below hb2 hFx.lt
              have hZ2 := hZx.below hb2 hZx.lt
              have hbw2 := below_next hbx hb2
              obtain ⟨c0, c1, c2, c3, c4, c5, c6, c7, c8, c9, c10, c11⟩ := box12 hX2
              obtain ⟨f0, f1, f2, f3, f4, f5, f6, f7, f8, f9, f10, f11⟩ := box12 hF2
              obtain ⟨y0, y1, y2, y3, y4, y5, y6, y7, y8, y9, y10, y11⟩ := frz12 hF2
              clear hb2
              have hF3 := set12 hF2 r
              have hB3 := below12 hbw2 (show w.heap.size ≤ w.heap.size + 1 + 1 by omega) r
              have hZ3 := far12 hZ2 (show w.heap.size + 1 + 1 ≠ w.heap.size + 1 by omega) r
              go_wp2_with fail
              go_roundw
              case rel => exact ⟨k + 1, by omega, by go_num, hB3, by rw [HG.out, HS.out]; rfl, hZ3, by rw [HG.out, HS.out]; exact hF3⟩
              case measure => simp [intOf]; omega
            · have hn2 : (someR o).num < r.num := by rcases hn with h | h; (rw [hos] at h; cases h); exact h
              clear hn
              go_wp2_with fail
              refine HC.out.mono ?_
              rintro e w2 ⟨rfl, hb2⟩
              have hX2 := hX.below hb2 hX.lt
              have hF2 := hFx.below hb2 hFx.lt
              have hZ2 := hZx.below hb2 hZx.lt
              have hbw2 := below_next hbx hb2
              obtain ⟨c0, c1, c2, c3, c4, c5, c6, c7, c8, c9, c10, c11⟩ := box12 hX2
              obtain ⟨f0, f1, f2, f3, f4, f5, f6, f7, f8, f9, f10, f11⟩ := box12 hF2
              obtain ⟨y0, y1, y2, y3, y4, y5, y6, y7, y8, y9, y10, y11⟩ := frz12 hF2
              clear hb2
              have hF3 := set12 hF2 r
              have hB3 := below12 hbw2 (show w.heap.size ≤ w.heap.size + 1 + 1 by omega) r
              have hZ3 := far12 hZ2 (show w.heap.size + 1 + 1 ≠ w.heap.size + 1 by omega) r
              go_wp2_with fail
              go_roundw
              case rel => exact ⟨k + 1, by omega, by go_num, hB3, by rw [HG.out, HS.out]; rfl, hZ3, by rw [HG.out, HS.out]; exact hF3⟩
              case measure => simp [intOf]; omega
          · rw [not_or] at hn
            have hos : o.isSome = true := by
              cases h : o.isSome
              · exact absurd h hn.1
              · rfl
            have hn2 : ¬ (someR o).num < r.num := hn.2
            have HS := Lib.hid (hold hos hn2)
            clear hnew hold hn
            go_wp2_with fail
            refine HC.out.mono ?_
            rintro e w2 ⟨rfl, hb2⟩
            have hX2 := hX.below hb2 hX.lt
            have hF2 := hFx.below hb2 hFx.lt
            have hZ2 := hZx.below hb2 hZx.lt
            have hbw2 := below_next hbx hb2
            obtain ⟨c0, c1, c2, c3, c4, c5, c6, c7, c8, c9, c10, c11⟩ := box12 hX2
            obtain ⟨f0, f1, f2, f3, f4, f5, f6, f7, f8, f9, f10, f11⟩ := box12 hF2
            clear hb2
            go_wp2_with fail
            go_roundw
            case rel => exact ⟨k + 1, by omega, by go_num, hbw2, by rw [HG.out, HS.out, hos], hZ2, by rw [HG.out, HS.out]; exact hF2⟩
            case measure => simp [intOf]; omega
      · have HS : Hid (gStep q p o r = o) := Lib.hid (by unfold gStep; rw [if_neg (fun h => hp h.1)])
        have sq := str_eqB r.path q
        rw [show decide (r.path = q) = false by simpa using hp] at sq
        clear hp
        go_wp2_with fail
        go_roundw
        case rel => exact ⟨k + 1, by omega, by go_num, hbx, by rw [HG.out, HS.out], hZx, by rw [HG.out, HS.out]; exact hFx⟩
        case measure => simp [intOf]; omega
    · rw [List.take_of_length_le (by omega)] at hF ⊢
      obtain ⟨o, ho⟩ : ∃ o, revs.foldl (gStep q p) none = o := ⟨_, rfl⟩
      rw [ho] at hF ⊢
      obtain ⟨r, hr⟩ : ∃ r, someR o = r := ⟨_, rfl⟩
      rw [hr] at hF
      have HO := Lib.hid ho
      have HR2 := Lib.hid hr
      clear ho hr
      obtain ⟨f0, f1, f2, f3, f4, f5, f6, f7, f8, f9, f10, f11⟩ := box12 hF
      obtain ⟨z0, z1, z2, z3, z4, z5, z6, z7, z8, z9, z10, z11⟩ := box12 hZ
      obtain ⟨y0, y1, y2, y3, y4, y5, y6, y7, y8, y9, y10, y11⟩ := frz12 hZ
      go_wp2_with fail
      have hZ3 := set12 hZ r
      have hB3 := below12 hbr (show w.heap.size ≤ w.heap.size + 1 by omega) r
      generalize ((((((((((((wr.setCell ⟨w.heap.size + 1, 0, none⟩ (.string r.path)).setCell ⟨w.heap.size + 1, 1, none⟩ (.int .i64 r.num)).setCell ⟨w.heap.size + 1, 2, none⟩ (.int .i64 r.chg)).setCell ⟨w.heap.size + 1, 3, none⟩ (.int .i64 r.act)).setCell ⟨w.heap.size + 1, 4, none⟩ (.int .i64 r.ty.base)).setCell ⟨w.heap.size + 1, 5, none⟩ (.bool r.ty.k)).setCell ⟨w.heap.size + 1, 6, none⟩ (.bool r.ty.l)).setCell ⟨w.heap.size + 1, 7, none⟩ (.bool r.ty.x)).setCell ⟨w.heap.size + 1, 8, none⟩ (.int .u64 r.sum)).setCell ⟨w.heap.size + 1, 9, none⟩ (.int .i64 r.size)).setCell ⟨w.heap.size + 1, 10, none⟩ (.string r.frm)).setCell ⟨w.heap.size + 1, 11, none⟩ (.int .i64 r.fnum)) = W3 at hZ3 hB3 ⊢
      obtain ⟨e0, e1, e2, e3, e4, e5, e6, e7, e8, e9, e10, e11⟩ := box12 hZ3
      exact bodyPost_ret (v := .tuple #[.agg #[.string r.path, .int .i64 r.num, .int .i64 r.chg, .int .i64 r.act, .int .i64 r.ty.base, .bool r.ty.k, .bool r.ty.l, .bool r.ty.x, .int .u64 r.sum, .int .i64 r.size, .string r.frm, .int .i64 r.fnum], .bool o.isSome]) (by simp [results, Tryz.results26, go_sem, e0, e1, e2, e3, e4, e5, e6, e7, e8, e9, e10, e11]) rfl ⟨by rw [HO.out, HR2.out], hB3⟩
end Go.Proofs.YtnblfaagchflaaaGreatDoor
/- At, Last. -/
namespace Go.Proofs.YtnblfaagchflaaaGreatDoor
open Go.RowKit
set_option linter.unusedVariables false
set_option linter.unusedSimpArgs false
set_option maxRecDepth 100000 in
set_option maxHeartbeats 4000000 in
theorem last_any (revs : List Rev) (q : ByteArray) (dv dr : Value) (w : World) (hR : Revs w dv revs) (hl : revs.length ≤ 1000000) :
    Calls Tryz.prog 16 #[.agg #[dv, dr], .string q] w
      fun e w' => e = .returned (.tuple #[.agg #[.string (someR (greatest revs q (fun _ : Rev => true))).path, .int .i64 (someR (greatest revs q (fun _ : Rev => true))).num, .int .i64 (someR (greatest revs q (fun _ : Rev => true))).chg, .int .i64 (someR (greatest revs q (fun _ : Rev => true))).act, .int .i64 (someR (greatest revs q (fun _ : Rev => true))).ty.base, .bool (someR (greatest revs q (fun _ : Rev => true))).ty.k, .bool (someR (greatest revs q (fun _ : Rev => true))).ty.l, .bool (someR (greatest revs q (fun _ : Rev => true))).ty.x, .int .u64 (someR (greatest revs q (fun _ : Rev => true))).sum, .int .i64 (someR (greatest revs q (fun _ : Rev => true))).size, .string (someR (greatest revs q (fun _ : Rev => true))).frm, .int .i64 (someR (greatest revs q (fun _ : Rev => true))).fnum], .bool (greatest revs q (fun _ : Rev => true)).isSome]) ∧ Below w.heap.size w w' := by
  have HR := Lib.hid hR
  obtain ⟨Ar, cr, rfl, -⟩ := hR
  obtain ⟨dv, hdv⟩ : ∃ v, Value.slice Ar revs.length cr = v := ⟨_, rfl⟩
  have hb0 : Below w.heap.size w ((w.alloc (.cells #[(.slice Ar revs.length cr), dr] 31)).alloc (.cells #[.string ⟨#[]⟩, .int .i64 0, .int .i64 0, .int .i64 0, .int .i64 0, .bool false, .bool false, .bool false, .int .u64 0, .int .i64 0, .string ⟨#[]⟩, .int .i64 0] 40)) := (((Below.refl _ _).alloc (Nat.le_refl _) _).alloc (by simp) _)
  have hZ : Blk ((w.alloc (.cells #[(.slice Ar revs.length cr), dr] 31)).alloc (.cells #[.string ⟨#[]⟩, .int .i64 0, .int .i64 0, .int .i64 0, .int .i64 0, .bool false, .bool false, .bool false, .int .u64 0, .int .i64 0, .string ⟨#[]⟩, .int .i64 0] 40)) (w.heap.size + 1) 40 [.string ⟨#[]⟩, .int .i64 0, .int .i64 0, .int .i64 0, .int .i64 0, .bool false, .bool false, .bool false, .int .u64 0, .int .i64 0, .string ⟨#[]⟩, .int .i64 0] := by
    have h1 := blk_new (w.alloc (.cells #[(.slice Ar revs.length cr), dr] 31)) [.string ⟨#[]⟩, .int .i64 0, .int .i64 0, .int .i64 0, .int .i64 0, .bool false, .bool false, .bool false, .int .u64 0, .int .i64 0, .string ⟨#[]⟩, .int .i64 0] 40
    simp only [World.size_alloc] at h1
    exact h1
  have HC := Lib.hid (greatest_last revs q (.slice Ar revs.length cr) dr _ (HR.out.below hb0) hl)
  clear hdv dv
  generalize greatest revs q (fun _ : Rev => true) = o at HC ⊢
  generalize someR o = r at HC ⊢
  go_enter Tryz.func16, Tryz.ntmps16
  go_wp2_with fail
  refine HC.out.mono ?_
  rintro e w1 ⟨rfl, hb1⟩
  have hZ1 := hZ.below hb1 hZ.lt
  have hbw1 := below_next hb0 hb1
  obtain ⟨z0, z1, z2, z3, z4, z5, z6, z7, z8, z9, z10, z11⟩ := box12 hZ1
  obtain ⟨y0, y1, y2, y3, y4, y5, y6, y7, y8, y9, y10, y11⟩ := frz12 hZ1
  clear hb1
  go_wp2_with fail
  have hZ3 := set12 hZ1 r
  have hB3 := below12 hbw1 (show w.heap.size ≤ w.heap.size + 1 by omega) r
  generalize ((((((((((((w1.setCell ⟨w.heap.size + 1, 0, none⟩ (.string r.path)).setCell ⟨w.heap.size + 1, 1, none⟩ (.int .i64 r.num)).setCell ⟨w.heap.size + 1, 2, none⟩ (.int .i64 r.chg)).setCell ⟨w.heap.size + 1, 3, none⟩ (.int .i64 r.act)).setCell ⟨w.heap.size + 1, 4, none⟩ (.int .i64 r.ty.base)).setCell ⟨w.heap.size + 1, 5, none⟩ (.bool r.ty.k)).setCell ⟨w.heap.size + 1, 6, none⟩ (.bool r.ty.l)).setCell ⟨w.heap.size + 1, 7, none⟩ (.bool r.ty.x)).setCell ⟨w.heap.size + 1, 8, none⟩ (.int .u64 r.sum)).setCell ⟨w.heap.size + 1, 9, none⟩ (.int .i64 r.size)).setCell ⟨w.heap.size + 1, 10, none⟩ (.string r.frm)).setCell ⟨w.heap.size + 1, 11, none⟩ (.int .i64 r.fnum)) = W3 at hZ3 hB3 ⊢
  obtain ⟨e0, e1, e2, e3, e4, e5, e6, e7, e8, e9, e10, e11⟩ := box12 hZ3
  exact bodyPost_ret (v := .tuple #[.agg #[.string r.path, .int .i64 r.num, .int .i64 r.chg, .int .i64 r.act, .int .i64 r.ty.base, .bool r.ty.k, .bool r.ty.l, .bool r.ty.x, .int .u64 r.sum, .int .i64 r.size, .string r.frm, .int .i64 r.fnum], .bool o.isSome]) (by simp [results, Tryz.results16, go_sem, e0, e1, e2, e3, e4, e5, e6, e7, e8, e9, e10, e11]) rfl ⟨rfl, hB3⟩
end Go.Proofs.YtnblfaagchflaaaGreatDoor
