/- slices.SortStableFunc at records: from an own row to a sorted own row. -/
import Derived.Test.YtnblfaagchflaaaGreatDoorMgw4
import Derived.Test.YtnblfaagchflaaaGreatDoorMgw5
namespace Go.Proofs.YtnblfaagchflaaaGreatDoor
open Go.RowKit Go.Lib
open Go.Sort hiding Below
set_option linter.unusedVariables false
set_option linter.unusedSimpArgs false
section
variable {α : Type} [Inhabited α]
theorem flatK_list (enc : α → List Value) (k : Nat) (hk : ∀ x, (enc x).length = k) (d : Array α) : (flatK enc k d).toList = d.toList.flatMap enc := by
  apply List.ext_getElem?
  intro t
  by_cases ht : t < d.size * k
  · have k0 : 0 < k := by rcases Nat.eq_zero_or_pos k with h | h; · subst h; simp at ht
                          · exact h
    have hq : t / k < d.size := by rw [Nat.div_lt_iff_lt_mul k0]; exact ht
    have hr : t % k < k := Nat.mod_lt _ k0
    have e1 := flat_get enc k hk d.toList (t / k) (t % k) (by simpa using hq) hr
    rw [show t / k * k + t % k = t by rw [Nat.mul_comm]; exact Nat.div_add_mod t k] at e1
    have e2 := get_flatK enc k d t ht
    rw [e1]
    have hs : t < (flatK enc k d).size := by rw [size_flatK]; exact ht
    rw [getElem!_pos (flatK enc k d) t hs, getElem!_pos d (t / k) hq, getElem!_pos (enc d[t / k]) (t % k) (by rw [hk]; exact hr)] at e2
    rw [Array.getElem?_toList, Array.getElem?_eq_getElem hs, e2]
    simp only [Array.getElem_toList]
    rw [List.getElem?_eq_getElem]
  · rw [List.getElem?_eq_none (by simp; omega), List.getElem?_eq_none (by rw [flat_len enc k hk]; simp; omega)]
theorem own_sb {w : World} {base : Nat} {e : TypeId} {k : Nat} {enc : α → List Value} (hk : ∀ x, (enc x).length = k) {v : Value} {d : Array α} (hd : 0 < d.size) (h : w.ownsRow base e k v d.size (d.toList.flatMap enc)) :
    ∃ g cap, v = .slice (some ⟨g, 0, none⟩) d.size cap ∧ base ≤ g ∧ d.size ≤ cap ∧ cap ≤ maxLen ∧ SB enc k e w g 0 (cap * k) d w := by
  obtain ⟨h1, ⟨-, h2⟩ | ⟨g, cap, cur, hv, hb, hh, h3, h4, h5, h6⟩⟩ := h
  · omega
  · refine ⟨g, cap, hv, hb, h3, h4, fun j hj => ⟨?_, ?_⟩, ⟨cur, hh, h5⟩, ⟨rfl, rfl, rfl, Nat.le_refl _, fun _ _ _ => rfl⟩⟩
    · rw [size_flatK] at hj
      rw [Nat.zero_add, cell_of_row w g j cur e (0, 0) hh]
      have e1 : cur[j]? = (flatK enc k d)[j]? := by
        rw [← Array.getElem?_toList, ← Array.getElem?_toList, flatK_list enc k hk, ← h6, List.getElem?_take, if_pos hj]
      rw [e1, getElem!_pos (flatK enc k d) j (by rw [size_flatK]; exact hj), Array.getElem?_eq_getElem (by rw [size_flatK]; exact hj)]
      rfl
    · simp [World.frozen?, hh]
theorem sb_own {w w' : World} {base g cap : Nat} {e : TypeId} {k : Nat} {enc : α → List Value} (hk : ∀ x, (enc x).length = k) {d : Array α} (hb : base ≤ g) (h3 : d.size ≤ cap) (h4 : cap ≤ maxLen) (h : SB enc k e w g 0 (cap * k) d w') :
    w'.ownsRow base e k (.slice (some ⟨g, 0, none⟩) d.size cap) d.size (d.toList.flatMap enc) := by
  obtain ⟨cur, hh, hc⟩ := h.own
  refine ⟨by rw [flat_len enc k hk]; simp, .inr ⟨g, cap, cur, rfl, hb, hh, h3, h4, hc, ?_⟩⟩
  have hle : d.size * k ≤ cap * k := Nat.mul_le_mul_right _ h3
  rw [← flatK_list enc k hk]
  apply List.ext_getElem?
  intro j
  by_cases hj : j < d.size * k
  · rw [List.getElem?_take, if_pos hj]
    have := (h.hold j (by rw [size_flatK]; exact hj)).1
    rw [Nat.zero_add, cell_of_row w' g j cur e (0, 0) hh] at this
    rw [Array.getElem?_toList, this, Array.getElem?_toList, Array.getElem?_eq_getElem (by rw [size_flatK]; exact hj), getElem!_pos (flatK enc k d) j (by rw [size_flatK]; exact hj)]
    rfl
  · rw [List.getElem?_eq_none (by rw [List.length_take]; omega), List.getElem?_eq_none (by simp; omega)]
end
section
variable {α : Type}
/-- A comparison that is total. -/
structure TotC (c : α → α → Int) : Prop where
  self : ∀ x, c x x = 0
  anti : ∀ x y, c y x = - c x y
  trans : ∀ x y z, c x y < 0 → c y z < 0 → c x z < 0
  same : ∀ x y, c x y = 0 → ∀ z, c x z = c y z
theorem TotC.same' {c : α → α → Int} (h : TotC c) {x y : α} (he : c x y = 0) (z : α) : c z x = c z y := by rw [h.anti x z, h.anti y z, h.same x y he]
theorem TotC.or {c1 c2 : α → α → Int} (h1 : TotC c1) (h2 : TotC c2) : TotC (fun x y => orI (c1 x y) (c2 x y)) where
  self x := by unfold orI; rw [h1.self, if_pos rfl, h2.self]
  anti x y := by unfold orI; rw [h1.anti x y, h2.anti x y]; split <;> split <;> omega
  trans x y z a b := by
    unfold orI at a b ⊢
    by_cases e1 : c1 x y = 0
    · rw [if_pos e1] at a
      rw [h1.same x y e1 z]
      by_cases e2 : c1 y z = 0
      · rw [if_pos e2] at b ⊢; exact h2.trans _ _ _ a b
      · rw [if_neg e2] at b ⊢; exact b
    · rw [if_neg e1] at a
      by_cases e2 : c1 y z = 0
      · rw [← h1.same' e2 x]; rw [if_neg e1]; exact a
      · rw [if_neg e2] at b
        have := h1.trans _ _ _ a b
        rw [if_neg (by omega)]; exact this
  same x y e z := by
    unfold orI at e ⊢
    by_cases e1 : c1 x y = 0
    · rw [if_pos e1] at e; rw [h1.same x y e1 z, h2.same x y e z]
    · rw [if_neg e1] at e; exact absurd e e1
theorem TotC.swo {c : α → α → Int} (h : TotC c) : SWO (ltOf c) where
  irrefl x := by unfold ltOf; rw [h.self]; rfl
  trans x y z a b := by unfold ltOf at *; simp only [decide_eq_true_eq] at *; exact h.trans _ _ _ a b
  ntrans x y z a b := by
    unfold ltOf at *
    simp only [decide_eq_false_iff_not, Int.not_lt] at *
    have a' := h.anti x y
    have b' := h.anti y z
    have c' := h.anti x z
    by_cases e1 : c x y = 0
    · rw [h.same x y e1 z]; exact b
    · by_cases e2 : c y z = 0
      · rw [← h.same' e2 x]; exact a
      · have := h.trans z y x (by omega) (by omega); omega
theorem totI {f : α → Int} : TotC (fun x y => cmpI (f x) (f y)) where
  self x := by unfold cmpI; simp
  anti x y := by unfold cmpI; split <;> split <;> omega
  trans x y z a b := by unfold cmpI at *; split at a <;> split at b <;> (try omega) <;> (split <;> omega)
  same x y e z := by
    have : f x = f y := by unfold cmpI at e; split at e <;> (try split at e) <;> omega
    rw [this]
theorem cmpP_anti (a b : ByteArray) : cmpP b a = - cmpP a b := by
  unfold cmpP
  by_cases h : (validS a && validS b) = true
  · rw [if_pos h, if_pos (by rw [Bool.and_comm]; exact h)]; exact cmpL_anti _ _
  · rw [if_neg h, if_neg (by rw [Bool.and_comm]; exact h)]; rfl
theorem cmpP_eq {a b : ByteArray} (ha : validS a = true) (hb : validS b = true) (h : cmpP a b = 0) : a = b := by
  rw [cmpP_valid ha hb] at h
  have := cmpL_eq h
  cases a with | mk x => cases b with | mk y => exact congrArg ByteArray.mk (Array.toList_inj.1 this)
theorem totP {f : α → ByteArray} (hf : ∀ x, validS (f x) = true) : TotC (fun x y => cmpP (f x) (f y)) where
  self x := cmpP_self _
  anti x y := cmpP_anti _ _
  trans x y z a b := cmpP_trans (hf _) (hf _) (hf _) a b
  same x y e z := by rw [cmpP_eq (hf x) (hf y) e]
end

/-- A record whose paths are paths, and not too long. -/
def Rcd.good (r : Rcd) : Prop := r.small ∧ validS r.frm = true ∧ validS r.to = true
abbrev OkRcd := { r : Rcd // r.good }
def somePath : ByteArray := ⟨#[47, 47, 97, 47, 98]⟩
theorem somePath_ok : validS somePath = true := by decide
instance : Inhabited OkRcd := ⟨⟨⟨somePath, 0, 0, somePath, 0, 0⟩, ⟨by unfold somePath; decide, by unfold somePath; decide⟩, somePath_ok, somePath_ok⟩⟩
def OkRcd.enc (r : OkRcd) : List Value := r.1.cells
def OkRcd.cmp (a b : OkRcd) : Int := cmpR a.1 b.1
theorem okRcd_tot : TotC OkRcd.cmp := TotC.or (totP (f := fun r : OkRcd => r.1.to) fun r => r.2.2.2) (TotC.or (totI (f := fun r : OkRcd => r.1.num)) (TotC.or (totP (f := fun r : OkRcd => r.1.frm) fun r => r.2.2.1) (totI (f := fun r : OkRcd => r.1.first))))

theorem rcdFacts : SFacts Tryz.prog 29 57 87 6 where
  mixed := by kernel_rfl
  t0 := Tryz.underlying0
  a0 := Tryz.isAgg0
  z0 := Tryz.sizeOf0
  ti := Tryz.underlying3
  ai := Tryz.isAgg3
  zi := Tryz.sizeOf3
  vi := Tryz.zeroValue3
  tb := Tryz.underlying4
  ab := Tryz.isAgg4
  zb := Tryz.sizeOf4
  tu := Tryz.underlying98
  au := Tryz.isAgg98
  zu := Tryz.sizeOf98
  tS := Tryz.underlying29
  aS := Tryz.isAgg29
  zS := Tryz.sizeOf29
  aE := Tryz.isAgg57
  zE := Tryz.sizeOf57
  tF := Tryz.underlying87
  aF := Tryz.isAgg87
  zF := Tryz.sizeOf87
theorem okRcd_cmpB : CmpB Tryz.prog 43 OkRcd.enc OkRcd.cmp :=
  ⟨enters_of Tryz.func43 (by kernel_rfl) rfl, fun x y W => compareRecords_any x.1 y.1 W x.2.1 y.2.1⟩
theorem okRcd_len (x : OkRcd) : x.enc.length = 6 := rfl
theorem okRcd_one (x : OkRcd) : ∀ v ∈ x.enc, v.oneCell' = true := by
  intro v hv
  simp only [OkRcd.enc, Rcd.cells, List.mem_cons, List.not_mem_nil, or_false] at hv
  rcases hv with rfl | rfl | rfl | rfl | rfl | rfl <;> rfl

set_option maxHeartbeats 1000000 in
theorem insertion_none (v cv : Value) (w : World) : Calls Tryz.prog 108 #[v, .int .i64 0, .int .i64 0, cv] w fun e w' => e = .returned (.tuple #[]) ∧ w = w' := by
  go_enter Tryz.func108, Tryz.ntmps108
  go_wp2
  refine wp_loop_rounds 1 ?_
  rw [rounds_succ]
  go_wp2
  go_end0
  exact ⟨rfl, rfl⟩
set_option maxHeartbeats 1000000 in
theorem stable_none (v cv : Value) (w : World) : Calls Tryz.prog 76 #[v, .int .i64 0, cv] w fun e w' => e = .returned (.tuple #[]) ∧ w = w' := by
  have H := Lib.hid (insertion_none v cv w)
  go_enter Tryz.func76, Tryz.ntmps76
  go_wp2
  refine wp_loop_rounds 1 ?_
  rw [rounds_succ]
  go_wp2_with fail
  refine H.out.mono ?_
  rintro e w' ⟨rfl, rfl⟩
  go_wp2
  refine wp_loop_rounds 1 ?_
  rw [rounds_succ]
  go_wp2
  go_end0
  exact ⟨rfl, rfl⟩

set_option maxHeartbeats 1000000 in
theorem sortStable_any (l : List OkRcd) (v : Value) (base : Nat) (w : World) (hown : w.ownsRow base 57 6 v l.length (l.flatMap OkRcd.enc)) (hl : l.length ≤ 10000000) :
    Calls Tryz.prog 42 #[v, .func (.func 43) #[] #[]] w
      fun e w' => e = .returned (.tuple #[]) ∧ ∃ l' : List OkRcd, l'.Perm l ∧ l'.Pairwise (fun a b => ¬ OkRcd.cmp b a < 0) ∧ w'.ownsRow base 57 6 v l.length (l'.flatMap OkRcd.enc) ∧ w.grownBy w' v.ownBlock := by
  by_cases h0 : l.length = 0
  · have hl0 : l = [] := List.eq_nil_of_length_eq_zero h0
    subst hl0
    have hv : ∃ A c, v = .slice A 0 c := by
      rcases hown.2 with ⟨rfl, -⟩ | ⟨g, cap, cur, rfl, -⟩
      · exact ⟨_, _, rfl⟩
      · exact ⟨_, _, rfl⟩
    obtain ⟨A, c, rfl⟩ := hv
    have HO := Lib.hid hown
    have H := Lib.hid (stable_none (.slice A 0 c) (.func (.func 43) #[] #[]) w)
    clear hown
    go_enter Tryz.func42, Tryz.ntmps42
    go_wp2_with fail
    refine H.out.mono ?_
    rintro e w' ⟨rfl, rfl⟩
    go_wp2
    go_end0
    exact ⟨rfl, HO.out, ⟨rfl, rfl, rfl, Nat.le_refl _, fun _ _ _ => rfl⟩⟩
  · have hd : l.toArray.size = l.length := by simp
    obtain ⟨g, cap, rfl, hb, h3, h4, hSB⟩ := own_sb (d := l.toArray) okRcd_len (by rw [hd]; omega) (by rw [hd]; exact hown)
    rw [hd] at h3 ⊢
    have H := Lib.hid (stable_rcd rcdFacts Tryz.func138 Tryz.func131 Tryz.func109 Tryz.func108 Tryz.func76
      OkRcd.enc okRcd_len okRcd_one OkRcd.cmp okRcd_tot.swo _ okRcd_cmpB w w g 0 (cap * 6) cap l.toArray hSB l.length hd (by omega))
    clear hown hSB
    go_enter Tryz.func42, Tryz.ntmps42
    go_wp2_with fail
    refine H.out.mono ?_
    rintro e w' ⟨rfl, d', k1, k2, k3⟩
    have HB : Hid (PermIn 0 l.length l.toArray d' ∧ SortedIn (ltOf OkRcd.cmp) 0 l.length d' ∧ SB OkRcd.enc 6 57 w g 0 (cap * 6) d' w') := Lib.hid ⟨k1, k2, k3⟩
    clear k1 k2 k3
    go_wp2
    go_end0
    obtain ⟨k1, k2, k3⟩ := HB.out
    have hs : d'.size = l.length := by rw [k1.1, hd]
    refine ⟨rfl, d'.toList, ?_, ?_, ?_, ?_⟩
    · have := k1.2.2
      rw [← hs, Array.extract_size, hs] at this
      rw [← hd, Array.extract_size] at this
      simpa using this
    · rw [List.pairwise_iff_getElem]
      intro i j hi hj hij
      have hi' : i < d'.size := by simpa using hi
      have hj' : j < d'.size := by simpa using hj
      have := k2 i j (Nat.zero_le _) hij (by omega)
      rw [getElem!_pos d' j hj', getElem!_pos d' i hi'] at this
      simpa [ltOf] using this
    · have := sb_own okRcd_len hb (by rw [hs]; exact h3) h4 k3
      rw [hs] at this
      exact this
    · exact k3.gr
end Go.Proofs.YtnblfaagchflaaaGreatDoor
/- The contracts of path.Join and of the reference's Component, Parts, Path, Join. -/
namespace Go.Proofs.YtnblfaagchflaaaGreatDoor
open Go.RowKit
set_option linter.unusedVariables false

def joinP (ps : List (List UInt8)) : List UInt8 := [47, 47] ++ Lib.join ps [47]
/-- The cells of a block from o on hold these texts. -/
def StrsAt (w : World) (bk o : Nat) (ps : List (List UInt8)) : Prop := ∀ k (hk : k < ps.length), w.cell? ⟨bk, o + k, none⟩ = some (.string (baL ps[k]))
theorem StrsAt.lt {w : World} {bk o : Nat} {ps : List (List UInt8)} (h : StrsAt w bk o ps) (h0 : 0 < ps.length) : bk < w.heap.size := cell_lt (h 0 h0)
theorem StrsAt.below {w w' : World} {bk o : Nat} {ps : List (List UInt8)} (h : StrsAt w bk o ps) (hb : Below w.heap.size w w') : StrsAt w' bk o ps := fun k hk => cell_below (h k hk) hb (cell_lt (h k hk))
theorem StrsAt.of_blk {w : World} {g : Nat} {ps : List (List UInt8)} (h : Blk w g 9 (strCells ps)) : StrsAt w g 0 ps := fun k hk => by rw [Nat.zero_add]; exact h.strs k hk

theorem strs_get (ps : List (List UInt8)) (j : Nat) (x : ByteArray) (h : (ps.map baL)[j]? = some x) : ∃ hk : j < ps.length, x = baL ps[j] := by
  rw [List.getElem?_map] at h
  rcases hj : ps[j]? with _ | p
  · rw [hj] at h; cases h
  · rw [hj] at h
    obtain ⟨hk, e⟩ := List.getElem?_eq_some_iff.1 hj
    exact ⟨hk, by rw [e]; simpa using h.symm⟩
theorem map_baL (ps : List (List UInt8)) : (ps.map baL).map (·.data.toList) = ps := by
  rw [List.map_map]; conv => rhs; rw [← List.map_id ps]
  exact List.map_congr_left fun p _ => baL_data p

theorem strJoin (ps : List (List UInt8)) (bk o c : Nat) (w : World) (hc : StrsAt w bk o ps) (h0 : 0 < ps.length) (hcap : ps.length ≤ c) (hn : ps.length ≤ 2000000) (hlen : (Lib.join ps [47]).length ≤ 10000000000) :
    Calls Tryz.prog 31 #[.slice (some ⟨bk, o, none⟩) ps.length c, .string ⟨#[47]⟩] w fun e w' => e = .returned (.string (baL (Lib.join ps [47]))) ∧ Below w.heap.size w w' := by
  have H := Tryz.strings_Join bk o c (ps.map baL) ⟨#[47]⟩ w (fun j x hx => by obtain ⟨hk, rfl⟩ := strs_get ps j x hx; exact hc j hk) (hc.lt h0) (by simp; omega) (by simpa using hcap)
    (by rw [map_baL]; show (Lib.join ps [47]).length ≤ _; omega)
  rw [map_baL, List.length_map] at H
  exact H

/-! The reference. -/
def letters : List UInt8 := [65, 66, 67, 68, 69, 70, 71, 72, 73, 74, 75, 76, 77, 78, 79, 80, 81, 82, 83, 84, 85, 86, 87, 88, 89, 90, 97, 98, 99, 100, 101, 102, 103, 104, 105, 106, 107, 108, 109, 110, 111, 112, 113, 114, 115, 116, 117, 118, 119, 120, 121, 122, 48, 49, 50, 51, 52, 53, 54, 55, 56, 57, 95, 46, 43, 45]
theorem letters_fin : ∀ n : Fin 256, decide (Lib.indexByte letters (UInt8.ofNat n.val) < 0) = !byteB (n.val : Int) := by decide +kernel
theorem letters_all (c : UInt8) : decide (Lib.indexByte letters c < 0) = !byteB c.toNat := by
  have := letters_fin ⟨c.toNat, c.toNat_lt⟩
  simpa using this
theorem letters_int (c : UInt8) : ((c.toNat : Int)).toNat.toUInt8 = c := by simp
theorem refLetter (c : UInt8) (w : World) (b : Bool) (h : byteB c.toNat = b) : Calls Tryz.prog 104 #[.string ⟨letters.toArray⟩, .int .u8 c.toNat] w fun e w' => ∃ n : Int, e = .returned (.int .i64 n) ∧ decide (n < 0) = (!b) ∧ w = w' := by
  refine (Tryz.strings_IndexByte ⟨letters.toArray⟩ c.toNat w).mono ?_
  rintro e w' ⟨rfl, rfl⟩
  exact ⟨_, rfl, by rw [letters_int]; show decide (Lib.indexByte letters c < 0) = _; rw [letters_all, h], rfl⟩

set_option maxHeartbeats 1000000 in
theorem refComponent_any (s : ByteArray) (w : World) (hs : s.size ≤ maxLen) :
    Calls Tryz.prog 101 #[.string s] w fun e w' => e = .returned (.bool (compS s)) ∧ w = w' := by
  unfold maxLen at hs
  rcases Nat.eq_zero_or_pos s.size with h0 | h0
  · have hne : s.toList = [] := by rw [ByteArray.toList_eq]; exact List.eq_nil_of_length_eq_zero (by simpa using h0)
    have H0 := Lib.hid (compS_nil h0)
    clear h0
    go_enter Tryz.func101, Tryz.ntmps101
    go_wp2_with fail
    go_ret
    exact ⟨ret_bool H0.out.symm, rfl⟩
  · obtain ⟨c, t, hd, hc⟩ := size_pos_of h0
    have hne : s.toList.isEmpty = false := by rw [ByteArray.toList_eq, hd]; rfl
    have hne2 : ¬ s.toList = [] := by rw [ByteArray.toList_eq, hd]; simp
    have HD := Lib.hid hd
    by_cases hc46 : c = 46
    · have h46 : ((s[0].toNat : Int) == 46) = true := by rw [hc, hc46]; rfl
      clear hd hc
      go_enter Tryz.func101, Tryz.ntmps101
      go_wp2_with fail
      go_ret
      exact ⟨ret_bool (compS_dot HD.out hc46).symm, rfl⟩
    · have h46 : ((s[0].toNat : Int) == 46) = false := by
        rw [hc, beq_eq_false_iff_ne]; intro h; exact hc46 (UInt8.toNat.inj (show c.toNat = 46 by omega))
      have HE := Lib.hid (compS_all HD.out hc46)
      clear hd hc HD hc46
      go_enter Tryz.func101, Tryz.ntmps101
      go_wp2_with fail
      clear h46
      go_loop [3] (fun i => ∃ k : Nat, k ≤ s.size ∧ i = .int .i64 k ∧ (s.data.toList.take k).all (fun c => byteB c.toNat) = true) (fun i => s.size - (intOf i).toNat)
      case atStart => exact ⟨0, Nat.zero_le _, rfl, rfl⟩
      case round =>
        obtain ⟨k, hk, rfl, hall⟩ := hrel
        have HA := Lib.hid hall
        clear hall
        by_cases hlt : k < s.size
        · cases hl : byteB s[k].toNat
          · have HL := Lib.hid hl
            clear hl
            go_wp2_with fail
            refine (refLetter s[k] _ _ HL.out).mono ?_
            rintro e w' ⟨n, rfl, hn, rfl⟩
            have hn' : decide (n < 0) = true := hn
            clear hn
            go_wp2
            go_ret
            exact ⟨ret_bool (compS_no (all_stop s (fun c => byteB c.toNat) k hlt HL.out)).symm, rfl⟩
          · have HL := Lib.hid hl
            clear hl
            go_wp2_with fail
            refine (refLetter s[k] _ _ HL.out).mono ?_
            rintro e w' ⟨n, rfl, hn, rfl⟩
            have hn' : decide (n < 0) = false := hn
            clear hn
            go_wp2
            go_round
            case rel => exact ⟨k + 1, by omega, by go_num, all_step s (fun c => byteB c.toNat) k hlt HA.out HL.out⟩
            case measure => simp [intOf]; omega
        · go_wp2_with fail
          go_ret
          exact ⟨ret_bool (by rw [HE.out, all_end s _ k hlt HA.out]), rfl⟩

/-- The reference's Parts. -/
def partsL (l : List UInt8) : Option (List (List UInt8)) := dirL l 1
theorem partsL_some {l : List UInt8} {ps : List (List UInt8)} (h : dirL l 1 = some ps) : Lib.hasPrefix l [47, 47] = true ∧ ps = splitL (l.drop 2) ∧ ps.all compL = true := by
  unfold dirL at h
  split at h
  · rename_i hc; injection h with h; subst h; exact ⟨hc.1, rfl, hc.2.2⟩
  · cases h
theorem partsL_none {l : List UInt8} (h : dirL l 1 = none) (h1 : Lib.hasPrefix l [47, 47] = true) : (splitL (l.drop 2)).all compL = false := by
  unfold dirL at h
  split at h
  · cases h
  · rename_i hc
    cases hh : (splitL (l.drop 2)).all compL
    · rfl
    · exact absurd ⟨h1, by have := splitL_ne (l.drop 2); cases hs : splitL (l.drop 2) <;> simp_all, hh⟩ hc
theorem hasPrefix_sizeR {s : ByteArray} (h : Lib.hasPrefix s.data.toList [47, 47] = true) : 2 ≤ s.size := by
  have : s.data.toList.length = s.size := rfl
  rw [← this]
  cases hl : s.data.toList with
  | nil => rw [hl] at h; cases h
  | cons a l => cases l with
    | nil => rw [hl] at h; unfold Lib.hasPrefix at h; simp at h
    | cons b l => simp

theorem hasPR (s p : ByteArray) (w : World) (b : Bool) (h : Lib.hasPrefix s.data.toList p.data.toList = b) : Calls Tryz.prog 51 #[.string s, .string p] w fun e w' => e = .returned (.bool b) ∧ w = w' := by
  refine (Tryz.strings_HasPrefix s p w).mono ?_
  rintro e w' ⟨rfl, rfl⟩
  exact ⟨by rw [h], rfl⟩

theorem ext_eq (s : ByteArray) (k : Nat) : s.extract k s.size = baL (s.data.toList.drop k) := ba_ext (by
  rw [baL_data]; exact Lib.extract_to_end s k)
theorem split_ext (s : ByteArray) (k : Nat) (w : World) (he : Env w) (hs : s.size ≤ 2000000) :
    Calls Tryz.prog 116 #[.string (s.extract k s.size), .string ⟨#[47]⟩] w fun e w' =>
      e = .returned (.slice (some ⟨w.heap.size, 0, none⟩) (splitL (s.data.toList.drop k)).length (splitL (s.data.toList.drop k)).length) ∧ w.alloc (.cells (strCells (splitL (s.data.toList.drop k))).toArray 9) = w' := by
  rw [ext_eq]
  exact split_any (baL (s.data.toList.drop k)) w he (by rw [baL_size, List.length_drop]; have : s.data.toList.length = s.size := rfl; omega)
theorem split_bounds (s : ByteArray) (k : Nat) (hs : s.size ≤ 2000000) : (splitL (s.data.toList.drop k)).length ≤ 2000001 ∧ ∀ p ∈ splitL (s.data.toList.drop k), p.length ≤ 2000000 := by
  have h1 := splitL_length_le (s.data.toList.drop k)
  have hl : (s.data.toList.drop k).length ≤ 2000000 := by rw [List.length_drop]; have : s.data.toList.length = s.size := rfl; omega
  exact ⟨by omega, fun p hp => by have := (splitL_mem hp).2; omega⟩

set_option maxHeartbeats 1000000 in
theorem refParts_some (s : ByteArray) (ps : List (List UInt8)) (w : World) (he : Env w) (hs : s.size ≤ 2000000) (h : dirL s.data.toList 1 = some ps) :
    Calls Tryz.prog 100 #[.string s] w fun e w' => e = .returned (.tuple #[.slice (some ⟨w.heap.size, 0, none⟩) ps.length ps.length, .bool true]) ∧ w.alloc (.cells (strCells ps).toArray 9) = w' := by
  obtain ⟨h1, rfl, h3⟩ := partsL_some h
  have h2 := hasPrefix_sizeR h1
  have HP := Lib.hid (hasPR s ⟨#[47, 47]⟩ w true h1)
  obtain ⟨hb1, hb2⟩ := split_bounds s 2 hs
  have HS := Lib.hid (split_ext s 2 w he hs)
  clear h h1
  generalize splitL (s.data.toList.drop 2) = ps at *
  have HB := Lib.hid (blk_new w (strCells ps) 9)
  have HM := Lib.hid hb2
  have HA := Lib.hid h3
  clear hb2 h3
  generalize w.alloc (.cells (strCells ps).toArray 9) = W at HS HB ⊢
  go_enter Tryz.func100, Tryz.ntmps100
  go_wp2_with fail
  refine HP.out.mono ?_
  rintro e w' ⟨rfl, rfl⟩
  go_wp2_with fail
  refine HS.out.mono ?_
  rintro e w' ⟨rfl, rfl⟩
  go_wp2_with fail
  go_loop [15] (fun i => ∃ k : Nat, k ≤ ps.length ∧ i = .int .i64 k) (fun i => ps.length - (intOf i).toNat)
  case atStart => exact ⟨0, Nat.zero_le _, rfl⟩
  case round =>
    obtain ⟨k, hk, rfl⟩ := hrel
    by_cases hlt : k < ps.length
    · have hcell := HB.out.strs k hlt
      have hc2 := HM.out ps[k] (by simp)
      have hcs : compS (baL ps[k]) = true := List.all_eq_true.1 HA.out _ (List.getElem_mem hlt)
      go_wp2_with (go_at_call 101; refine (refComponent_any _ _ (by rw [baL_size]; unfold maxLen; omega)).mono ?_; rintro e w' ⟨rfl, rfl⟩)
      go_round
      case rel => exact ⟨k + 1, by omega, by go_num⟩
      case measure => simp [intOf]; omega
    · go_wp2
      go_ret2
      exact ⟨rfl, rfl⟩

set_option maxHeartbeats 1000000 in
theorem refParts_none (s : ByteArray) (w : World) (he : Env w) (hs : s.size ≤ 2000000) (h : dirL s.data.toList 1 = none) :
    Calls Tryz.prog 100 #[.string s] w fun e w' => e = .returned (.tuple #[.slice none 0 0, .bool false]) ∧ Below w.heap.size w w' := by
  cases h1 : Lib.hasPrefix s.data.toList [47, 47]
  · have HP := Lib.hid (hasPR s ⟨#[47, 47]⟩ w false h1)
    clear h h1
    go_enter Tryz.func100, Tryz.ntmps100
    go_wp2_with fail
    refine HP.out.mono ?_
    rintro e w' ⟨rfl, rfl⟩
    go_wp2
    go_ret2
    exact ⟨rfl, Below.refl _ _⟩
  · have h2 := hasPrefix_sizeR h1
    have HP := Lib.hid (hasPR s ⟨#[47, 47]⟩ w true h1)
    have HN := Lib.hid (partsL_none h h1)
    obtain ⟨hb1, hb2⟩ := split_bounds s 2 hs
    have HS := Lib.hid (split_ext s 2 w he hs)
    clear h h1
    generalize splitL (s.data.toList.drop 2) = ps at *
    have HB := Lib.hid (blk_new w (strCells ps) 9)
    have HM := Lib.hid hb2
    have hbw : Below w.heap.size w (w.alloc (.cells (strCells ps).toArray 9)) := (Below.refl _ _).alloc (Nat.le_refl _) _
    clear hb2
    generalize w.alloc (.cells (strCells ps).toArray 9) = W at HS HB hbw ⊢
    go_enter Tryz.func100, Tryz.ntmps100
    go_wp2_with fail
    refine HP.out.mono ?_
    rintro e w' ⟨rfl, rfl⟩
    go_wp2_with fail
    refine HS.out.mono ?_
    rintro e w' ⟨rfl, rfl⟩
    go_wp2_with fail
    go_loop [15] (fun i => ∃ k : Nat, k ≤ ps.length ∧ i = .int .i64 k ∧ (ps.take k).all compL = true) (fun i => ps.length - (intOf i).toNat)
    case atStart => exact ⟨0, Nat.zero_le _, rfl, rfl⟩
    case round =>
      obtain ⟨k, hk, rfl, hall⟩ := hrel
      have HA := Lib.hid hall
      clear hall
      by_cases hlt : k < ps.length
      · have hcell := HB.out.strs k hlt
        have hc2 := HM.out ps[k] (by simp)
        cases hc1 : compL ps[k]
        · have hcs : compS (baL ps[k]) = false := hc1
          clear hc1
          go_wp2_with (go_at_call 101; refine (refComponent_any _ _ (by rw [baL_size]; unfold maxLen; omega)).mono ?_; rintro e w' ⟨rfl, rfl⟩)
          go_ret2
          exact ⟨rfl, hbw⟩
        · have hcs : compS (baL ps[k]) = true := hc1
          have HD := Lib.hid hc1
          clear hc1
          go_wp2_with (go_at_call 101; refine (refComponent_any _ _ (by rw [baL_size]; unfold maxLen; omega)).mono ?_; rintro e w' ⟨rfl, rfl⟩)
          go_round
          case rel => exact ⟨k + 1, by omega, by go_num, all_take ps compL k hlt HA.out HD.out⟩
          case measure => simp [intOf]; omega
      · have := HA.out
        rw [List.take_of_length_le (by omega), HN.out] at this
        cases this

theorem dir_two {l : List UInt8} {ps : List (List UInt8)} (h : dirL l 2 = some ps) : dirL l 1 = some ps ∧ 2 ≤ ps.length := by
  unfold dirL at h ⊢
  split at h
  · rename_i hc
    injection h with h
    subst h
    exact ⟨if_pos ⟨hc.1, by omega, hc.2.2⟩, hc.2.1⟩
  · cases h
theorem dir_two_none {l : List UInt8} {ps : List (List UInt8)} (h : dirL l 2 = none) (h1 : dirL l 1 = some ps) : ps.length < 2 := by
  obtain ⟨a, rfl, c⟩ := partsL_some h1
  unfold dirL at h
  split at h
  · cases h
  · rename_i hc
    exact Nat.lt_of_not_le fun hh => hc ⟨a, hh, c⟩

set_option maxHeartbeats 1000000 in
theorem refPath_some (s : ByteArray) (ps : List (List UInt8)) (w : World) (he : Env w) (hs : s.size ≤ 2000000) (h : dirL s.data.toList 2 = some ps) :
    Calls Tryz.prog 65 #[.string s] w fun e w' => e = .returned (.tuple #[.slice (some ⟨w.heap.size, 0, none⟩) ps.length ps.length, .bool true]) ∧ w.alloc (.cells (strCells ps).toArray 9) = w' := by
  obtain ⟨h1, h2⟩ := dir_two h
  have H := Lib.hid (refParts_some s ps w he hs h1)
  clear h h1 he
  have hd : decide ((ps.length : Int) < 2) = false := by simp; omega
  generalize w.alloc (.cells (strCells ps).toArray 9) = W at H ⊢
  go_enter Tryz.func65, Tryz.ntmps65
  go_wp2_with fail
  refine H.out.mono ?_
  rintro e w' ⟨rfl, rfl⟩
  go_wp2
  go_ret2
  exact ⟨rfl, rfl⟩
set_option maxHeartbeats 1000000 in
theorem refPath_none (s : ByteArray) (w : World) (he : Env w) (hs : s.size ≤ 2000000) (h : dirL s.data.toList 2 = none) :
    Calls Tryz.prog 65 #[.string s] w fun e w' => e = .returned (.tuple #[.slice none 0 0, .bool false]) ∧ Below w.heap.size w w' := by
  cases h1 : dirL s.data.toList 1 with
  | none =>
    have H := Lib.hid (refParts_none s w he hs h1)
    clear h h1 he
    go_enter Tryz.func65, Tryz.ntmps65
    go_wp2_with fail
    refine H.out.mono ?_
    rintro e w' ⟨rfl, hb⟩
    go_wp2
    go_ret2
    exact ⟨rfl, hb⟩
  | some ps =>
    have h2 := dir_two_none h h1
    have H := Lib.hid (refParts_some s ps w he hs h1)
    have hd : decide ((ps.length : Int) < 2) = true := by simp; omega
    have hbw : Below w.heap.size w (w.alloc (.cells (strCells ps).toArray 9)) := (Below.refl _ _).alloc (Nat.le_refl _) _
    clear h h1 he
    generalize w.alloc (.cells (strCells ps).toArray 9) = W at H hbw
    go_enter Tryz.func65, Tryz.ntmps65
    go_wp2_with fail
    refine H.out.mono ?_
    rintro e w' ⟨rfl, rfl⟩
    go_wp2
    go_ret2
    exact ⟨rfl, hbw⟩

end Go.Proofs.YtnblfaagchflaaaGreatDoor
