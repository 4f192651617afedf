/- slices.SortStableFunc at records: from an own row to a sorted own row. -/
import Derived.Test.YtmhmnchdhacdbaaGreatDoorStb
import Derived.Test.YtmhmnchdhacdbaaGreatDoorCmpR
import Derived.Test.YtmhmnchdhacdbaaGreatDoorMem
namespace Go.Proofs.YtmhmnchdhacdbaaGreatDoor
open Go.RowKit Go.Lib
open Go.Sort hiding Below
set_option linter.unusedVariables false
set_option linter.unusedSimpArgs false
section
variable {α : Type} [Inhabited α]
theorem flatK_list (enc : α → List Value) (k : Nat) (hk : ∀ x, (enc x).length = k) (d : Array α) : (flatK enc k d).toList = d.toList.flatMap enc := by
  apply List.ext_getElem?
  intro t
  by_cases ht : t < d.size * k
  · have k0 : 0 < k := by rcases Nat.eq_zero_or_pos k with h | h; · subst h; simp at ht
                          · exact h
    have hq : t / k < d.size := by rw [Nat.div_lt_iff_lt_mul k0]; exact ht
    have hr : t % k < k := Nat.mod_lt _ k0
    have e1 := flat_get enc k hk d.toList (t / k) (t % k) (by simpa using hq) hr
    rw [show t / k * k + t % k = t by rw [Nat.mul_comm]; exact Nat.div_add_mod t k] at e1
    have e2 := get_flatK enc k d t ht
    rw [e1]
    have hs : t < (flatK enc k d).size := by rw [size_flatK]; exact ht
    rw [getElem!_pos (flatK enc k d) t hs, getElem!_pos d (t / k) hq, getElem!_pos (enc d[t / k]) (t % k) (by rw [hk]; exact hr)] at e2
    rw [Array.getElem?_toList, Array.getElem?_eq_getElem hs, e2]
    simp only [Array.getElem_toList]
    rw [List.getElem?_eq_getElem]
  · rw [List.getElem?_eq_none (by simp; omega), List.getElem?_eq_none (by rw [flat_len enc k hk]; simp; omega)]
theorem own_sb {w : World} {base : Nat} {e : TypeId} {k : Nat} {enc : α → List Value} (hk : ∀ x, (enc x).length = k) {v : Value} {d : Array α} (hd : 0 < d.size) (h : w.ownsRow base e k v d.size (d.toList.flatMap enc)) :
    ∃ g cap, v = .slice (some ⟨g, 0, none⟩) d.size cap ∧ base ≤ g ∧ d.size ≤ cap ∧ cap ≤ maxLen ∧ SB enc k e w g 0 (cap * k) d w := by
  obtain ⟨h1, ⟨-, h2⟩ | ⟨g, cap, cur, hv, hb, hh, h3, h4, h5, h6⟩⟩ := h
  · omega
  · refine ⟨g, cap, hv, hb, h3, h4, fun j hj => ⟨?_, ?_⟩, ⟨cur, hh, h5⟩, ⟨rfl, rfl, rfl, Nat.le_refl _, fun _ _ _ => rfl⟩⟩
    · rw [size_flatK] at hj
      rw [Nat.zero_add, cell_of_row w g j cur e (0, 0) hh]
      have e1 : cur[j]? = (flatK enc k d)[j]? := by
        rw [← Array.getElem?_toList, ← Array.getElem?_toList, flatK_list enc k hk, ← h6, List.getElem?_take, if_pos hj]
      rw [e1, getElem!_pos (flatK enc k d) j (by rw [size_flatK]; exact hj), Array.getElem?_eq_getElem (by rw [size_flatK]; exact hj)]
      rfl
    · simp [World.frozen?, hh]
theorem sb_own {w w' : World} {base g cap : Nat} {e : TypeId} {k : Nat} {enc : α → List Value} (hk : ∀ x, (enc x).length = k) {d : Array α} (hb : base ≤ g) (h3 : d.size ≤ cap) (h4 : cap ≤ maxLen) (h : SB enc k e w g 0 (cap * k) d w') :
    w'.ownsRow base e k (.slice (some ⟨g, 0, none⟩) d.size cap) d.size (d.toList.flatMap enc) := by
  obtain ⟨cur, hh, hc⟩ := h.own
  refine ⟨by rw [flat_len enc k hk]; simp, .inr ⟨g, cap, cur, rfl, hb, hh, h3, h4, hc, ?_⟩⟩
  have hle : d.size * k ≤ cap * k := Nat.mul_le_mul_right _ h3
  rw [← flatK_list enc k hk]
  apply List.ext_getElem?
  intro j
  by_cases hj : j < d.size * k
  · rw [List.getElem?_take, if_pos hj]
    have := (h.hold j (by rw [size_flatK]; exact hj)).1
    rw [Nat.zero_add, cell_of_row w' g j cur e (0, 0) hh] at this
    rw [Array.getElem?_toList, this, Array.getElem?_toList, Array.getElem?_eq_getElem (by rw [size_flatK]; exact hj), getElem!_pos (flatK enc k d) j (by rw [size_flatK]; exact hj)]
    rfl
  · rw [List.getElem?_eq_none (by rw [List.length_take]; omega), List.getElem?_eq_none (by simp; omega)]
end
section
variable {α : Type}
/-- A comparison that is total. -/
structure TotC (c : α → α → Int) : Prop where
  self : ∀ x, c x x = 0
  anti : ∀ x y, c y x = - c x y
  trans : ∀ x y z, c x y < 0 → c y z < 0 → c x z < 0
  same : ∀ x y, c x y = 0 → ∀ z, c x z = c y z
theorem TotC.same' {c : α → α → Int} (h : TotC c) {x y : α} (he : c x y = 0) (z : α) : c z x = c z y := by rw [h.anti x z, h.anti y z, h.same x y he]
theorem TotC.or {c1 c2 : α → α → Int} (h1 : TotC c1) (h2 : TotC c2) : TotC (fun x y => orI (c1 x y) (c2 x y)) where
  self x := by unfold orI; rw [h1.self, if_pos rfl, h2.self]
  anti x y := by unfold orI; rw [h1.anti x y, h2.anti x y]; split <;> split <;> omega
  trans x y z a b := by
    unfold orI at a b ⊢
    by_cases e1 : c1 x y = 0
    · rw [if_pos e1] at a
      rw [h1.same x y e1 z]
      by_cases e2 : c1 y z = 0
      · rw [if_pos e2] at b ⊢; exact h2.trans _ _ _ a b
      · rw [if_neg e2] at b ⊢; exact b
    · rw [if_neg e1] at a
      by_cases e2 : c1 y z = 0
      · rw [← h1.same' e2 x]; rw [if_neg e1]; exact a
      · rw [if_neg e2] at b
        have := h1.trans _ _ _ a b
        rw [if_neg (by omega)]; exact this
  same x y e z := by
    unfold orI at e ⊢
    by_cases e1 : c1 x y = 0
    · rw [if_pos e1] at e; rw [h1.same x y e1 z, h2.same x y e z]
    · rw [if_neg e1] at e; exact absurd e e1
theorem TotC.swo {c : α → α → Int} (h : TotC c) : SWO (ltOf c) where
  irrefl x := by unfold ltOf; rw [h.self]; rfl
  trans x y z a b := by unfold ltOf at *; simp only [decide_eq_true_eq] at *; exact h.trans _ _ _ a b
  ntrans x y z a b := by
    unfold ltOf at *
    simp only [decide_eq_false_iff_not, Int.not_lt] at *
    have a' := h.anti x y
    have b' := h.anti y z
    have c' := h.anti x z
    by_cases e1 : c x y = 0
    · rw [h.same x y e1 z]; exact b
    · by_cases e2 : c y z = 0
      · rw [← h.same' e2 x]; exact a
      · have := h.trans z y x (by omega) (by omega); omega
theorem totI {f : α → Int} : TotC (fun x y => cmpI (f x) (f y)) where
  self x := by unfold cmpI; simp
  anti x y := by unfold cmpI; split <;> split <;> omega
  trans x y z a b := by unfold cmpI at *; split at a <;> split at b <;> (try omega) <;> (split <;> omega)
  same x y e z := by
    have : f x = f y := by unfold cmpI at e; split at e <;> (try split at e) <;> omega
    rw [this]
theorem cmpP_anti (a b : ByteArray) : cmpP b a = - cmpP a b := by
  unfold cmpP
  by_cases h : (validS a && validS b) = true
  · rw [if_pos h, if_pos (by rw [Bool.and_comm]; exact h)]; exact cmpL_anti _ _
  · rw [if_neg h, if_neg (by rw [Bool.and_comm]; exact h)]; rfl
theorem cmpP_eq {a b : ByteArray} (ha : validS a = true) (hb : validS b = true) (h : cmpP a b = 0) : a = b := by
  rw [cmpP_valid ha hb] at h
  have := cmpL_eq h
  cases a with | mk x => cases b with | mk y => exact congrArg ByteArray.mk (Array.toList_inj.1 this)
theorem totP {f : α → ByteArray} (hf : ∀ x, validS (f x) = true) : TotC (fun x y => cmpP (f x) (f y)) where
  self x := cmpP_self _
  anti x y := cmpP_anti _ _
  trans x y z a b := cmpP_trans (hf _) (hf _) (hf _) a b
  same x y e z := by rw [cmpP_eq (hf x) (hf y) e]
end

/-- A record whose paths are paths, and not too long. -/
def Rcd.good (r : Rcd) : Prop := r.small ∧ validS r.frm = true ∧ validS r.to = true
abbrev OkRcd := { r : Rcd // r.good }
def somePath : ByteArray := ⟨#[47, 47, 97, 47, 98]⟩
theorem somePath_ok : validS somePath = true := by decide
instance : Inhabited OkRcd := ⟨⟨⟨somePath, 0, 0, somePath, 0, 0⟩, ⟨by unfold somePath; decide, by unfold somePath; decide⟩, somePath_ok, somePath_ok⟩⟩
def OkRcd.enc (r : OkRcd) : List Value := r.1.cells
def OkRcd.cmp (a b : OkRcd) : Int := cmpR a.1 b.1
theorem okRcd_tot : TotC OkRcd.cmp := TotC.or (totP (f := fun r : OkRcd => r.1.to) fun r => r.2.2.2) (TotC.or (totI (f := fun r : OkRcd => r.1.num)) (TotC.or (totP (f := fun r : OkRcd => r.1.frm) fun r => r.2.2.1) (totI (f := fun r : OkRcd => r.1.first))))

theorem rcdFacts : SFacts Tryz.prog 26 60 89 6 where
  mixed := by kernel_rfl
  t0 := Tryz.underlying0
  a0 := Tryz.isAgg0
  z0 := Tryz.sizeOf0
  ti := Tryz.underlying3
  ai := Tryz.isAgg3
  zi := Tryz.sizeOf3
  vi := Tryz.zeroValue3
  tb := Tryz.underlying4
  ab := Tryz.isAgg4
  zb := Tryz.sizeOf4
  tu := Tryz.underlying104
  au := Tryz.isAgg104
  zu := Tryz.sizeOf104
  tS := Tryz.underlying26
  aS := Tryz.isAgg26
  zS := Tryz.sizeOf26
  aE := Tryz.isAgg60
  zE := Tryz.sizeOf60
  tF := Tryz.underlying89
  aF := Tryz.isAgg89
  zF := Tryz.sizeOf89
theorem okRcd_cmpB : CmpB Tryz.prog 53 OkRcd.enc OkRcd.cmp :=
  ⟨enters_of Tryz.func53 (by kernel_rfl) rfl, fun x y W => compareRecords_any x.1 y.1 W x.2.1 y.2.1⟩
theorem okRcd_len (x : OkRcd) : x.enc.length = 6 := rfl
theorem okRcd_one (x : OkRcd) : ∀ v ∈ x.enc, v.oneCell' = true := by
  intro v hv
  simp only [OkRcd.enc, Rcd.cells, List.mem_cons, List.not_mem_nil, or_false] at hv
  rcases hv with rfl | rfl | rfl | rfl | rfl | rfl <;> rfl

set_option maxHeartbeats 1000000 in
theorem insertion_none (v cv : Value) (w : World) : Calls Tryz.prog 118 #[v, .int .i64 0, .int .i64 0, cv] w fun e w' => e = .returned (.tuple #[]) ∧ w = w' := by
  go_enter Tryz.func118, Tryz.ntmps118
  go_wp2
  refine wp_loop_rounds 1 ?_
  rw [rounds_succ]
  go_wp2
  go_end0
  exact ⟨rfl, rfl⟩
set_option maxHeartbeats 1000000 in
theorem stable_none (v cv : Value) (w : World) : Calls Tryz.prog 85 #[v, .int .i64 0, cv] w fun e w' => e = .returned (.tuple #[]) ∧ w = w' := by
  have H := Lib.hid (insertion_none v cv w)
  go_enter Tryz.func85, Tryz.ntmps85
  go_wp2
  refine wp_loop_rounds 1 ?_
  rw [rounds_succ]
  go_wp2_with fail
  refine H.out.mono ?_
  rintro e w' ⟨rfl, rfl⟩
  go_wp2
  refine wp_loop_rounds 1 ?_
  rw [rounds_succ]
  go_wp2
  go_end0
  exact ⟨rfl, rfl⟩

set_option maxHeartbeats 1000000 in
theorem sortStable_any (l : List OkRcd) (v : Value) (base : Nat) (w : World) (hown : w.ownsRow base 60 6 v l.length (l.flatMap OkRcd.enc)) (hl : l.length ≤ 10000000) :
    Calls Tryz.prog 52 #[v, .func (.func 53) #[] #[]] w
      fun e w' => e = .returned (.tuple #[]) ∧ ∃ l' : List OkRcd, l'.Perm l ∧ l'.Pairwise (fun a b => ¬ OkRcd.cmp b a < 0) ∧ w'.ownsRow base 60 6 v l.length (l'.flatMap OkRcd.enc) ∧ w.grownBy w' v.ownBlock := by
  by_cases h0 : l.length = 0
  · have hl0 : l = [] := List.eq_nil_of_length_eq_zero h0
    subst hl0
    have hv : ∃ A c, v = .slice A 0 c := by
      rcases hown.2 with ⟨rfl, -⟩ | ⟨g, cap, cur, rfl, -⟩
      · exact ⟨_, _, rfl⟩
      · exact ⟨_, _, rfl⟩
    obtain ⟨A, c, rfl⟩ := hv
    have HO := Lib.hid hown
    have H := Lib.hid (stable_none (.slice A 0 c) (.func (.func 53) #[] #[]) w)
    clear hown
    go_enter Tryz.func52, Tryz.ntmps52
    go_wp2_with fail
    refine H.out.mono ?_
    rintro e w' ⟨rfl, rfl⟩
    go_wp2
    go_end0
    exact ⟨rfl, HO.out, ⟨rfl, rfl, rfl, Nat.le_refl _, fun _ _ _ => rfl⟩⟩
  · have hd : l.toArray.size = l.length := by simp
    obtain ⟨g, cap, rfl, hb, h3, h4, hSB⟩ := own_sb (d := l.toArray) okRcd_len (by rw [hd]; omega) (by rw [hd]; exact hown)
    rw [hd] at h3 ⊢
    have H := Lib.hid (stable_rcd rcdFacts Tryz.func147 Tryz.func140 Tryz.func119 Tryz.func118 Tryz.func85
      OkRcd.enc okRcd_len okRcd_one OkRcd.cmp okRcd_tot.swo _ okRcd_cmpB w w g 0 (cap * 6) cap l.toArray hSB l.length hd (by omega))
    clear hown hSB
    go_enter Tryz.func52, Tryz.ntmps52
    go_wp2_with fail
    refine H.out.mono ?_
    rintro e w' ⟨rfl, d', k1, k2, k3⟩
    have HB : Hid (PermIn 0 l.length l.toArray d' ∧ SortedIn (ltOf OkRcd.cmp) 0 l.length d' ∧ SB OkRcd.enc 6 60 w g 0 (cap * 6) d' w') := Lib.hid ⟨k1, k2, k3⟩
    clear k1 k2 k3
    go_wp2
    go_end0
    obtain ⟨k1, k2, k3⟩ := HB.out
    have hs : d'.size = l.length := by rw [k1.1, hd]
    refine ⟨rfl, d'.toList, ?_, ?_, ?_, ?_⟩
    · have := k1.2.2
      rw [← hs, Array.extract_size, hs] at this
      rw [← hd, Array.extract_size] at this
      simpa using this
    · rw [List.pairwise_iff_getElem]
      intro i j hi hj hij
      have hi' : i < d'.size := by simpa using hi
      have hj' : j < d'.size := by simpa using hj
      have := k2 i j (Nat.zero_le _) hij (by omega)
      rw [getElem!_pos d' j hj', getElem!_pos d' i hi'] at this
      simpa [ltOf] using this
    · have := sb_own okRcd_len hb (by rw [hs]; exact h3) h4 k3
      rw [hs] at this
      exact this
    · exact k3.gr
end Go.Proofs.YtmhmnchdhacdbaaGreatDoor
