/-
  DERIVED: THE SHELF's CONTRACTS AT THIS DUMP, IN PLAIN WORDS (tools/lay-plain.mjs out of 'TryzSort.lean', which tools/lay-shelf.mjs wrote): THE SAME DECLARATIONS UNDER THE SAME NAMES: 'import', 'namespace', 'open', 'def', 'theorem' AND NOTHING ELSE: no command of the shelf's: FOR A HAND-IN. Each laying: the table of numbers ('.._ren') and one theorem, a field a fact of the dump's own or the kernel's comparison; each contract: ONE APPLICATION.
-/
import Derived.Test.YtnblfaagchflaaaGreatDoorProg
import Derived.Test.YtnblfaagchflaaaGreatDoorMgw6
import Derived.Test.YtnblfaagchflaaaGreatDoorMgw5
import Derived.Shelf.SlGeneric
import Derived.Ground.SlsfProg
import Derived.Shelf.SlSortCmp.WholeK
import Derived.Shelf.SlSortCmp.NoneTotal
namespace Go.Proofs
open Go.Shelf
def Tryz.sortRevs_ren : Go.Shelf.Ren := ⟨fun | 6 => 20 | 15 => 50 | 14 => 49 | 28 => 87 | 29 => 88 | 20 => 79 | 21 => 80 | 22 => 81 | 23 => 82 | 24 => 83 | 25 => 84 | 26 => 85 | 27 => 86 | 46 => 110 | 47 => 111 | 48 => 112 | 49 => 113 | 50 => 114 | 57 => 132 | n => n, fun | 22 => 28 | 24 => 40 | 25 => 67 | 3 => 3 | 39 => 98 | 0 => 0 | 53 => 136 | 55 => 36 | 4 => 4 | 46 => 130 | 45 => 129 | 50 => 92 | 5 => 5 | 9 => 9 | 66 => 153 | 70 => 157 | 76 => 171 | 77 => 172 | n => n, fun | n => n⟩
theorem Tryz.sortRevs : Go.Proofs.SlLaysF0.n6 Tryz.prog Tryz.sortRevs_ren := {
  mixed := by kernel_rfl
  f6 := ⟨Tryz.f20.name, by decide, Tryz.func20.trans (congrArg some (by kernel_rfl))⟩
  f14 := ⟨Tryz.f49.name, by decide, Tryz.func49.trans (congrArg some (by kernel_rfl))⟩
  f15 := Tryz.func50.trans (congrArg some (by kernel_rfl))
  f20 := ⟨Tryz.f79.name, by decide, Tryz.func79.trans (congrArg some (by kernel_rfl))⟩
  f21 := ⟨Tryz.f80.name, by decide, Tryz.func80.trans (congrArg some (by kernel_rfl))⟩
  f22 := ⟨Tryz.f81.name, by decide, Tryz.func81.trans (congrArg some (by kernel_rfl))⟩
  f23 := ⟨Tryz.f82.name, by decide, Tryz.func82.trans (congrArg some (by kernel_rfl))⟩
  f24 := ⟨Tryz.f83.name, by decide, Tryz.func83.trans (congrArg some (by kernel_rfl))⟩
  f25 := ⟨Tryz.f84.name, by decide, Tryz.func84.trans (congrArg some (by kernel_rfl))⟩
  f26 := ⟨Tryz.f85.name, by decide, Tryz.func85.trans (congrArg some (by kernel_rfl))⟩
  f27 := ⟨Tryz.f86.name, by decide, Tryz.func86.trans (congrArg some (by kernel_rfl))⟩
  f28 := Tryz.func87.trans (congrArg some (by kernel_rfl))
  f29 := Tryz.func88.trans (congrArg some (by kernel_rfl))
  f46 := ⟨Tryz.f110.name, by decide, Tryz.func110.trans (congrArg some (by kernel_rfl))⟩
  f47 := Tryz.func111.trans (congrArg some (by kernel_rfl))
  f48 := Tryz.func112.trans (congrArg some (by kernel_rfl))
  f49 := ⟨Tryz.f113.name, by decide, Tryz.func113.trans (congrArg some (by kernel_rfl))⟩
  f50 := ⟨Tryz.f114.name, by decide, Tryz.func114.trans (congrArg some (by kernel_rfl))⟩
  f57 := ⟨Tryz.f132.name, by decide, Tryz.func132.trans (congrArg some (by kernel_rfl))⟩
  t0 := Tryz.underlying0
  a0 := Tryz.isAgg0
  z0 := Tryz.sizeOf0
  v0 := Tryz.zeroValue0
  t3 := Tryz.underlying3
  a3 := Tryz.isAgg3
  z3 := Tryz.sizeOf3
  v3 := Tryz.zeroValue3
  t4 := Tryz.underlying4
  a4 := Tryz.isAgg4
  z4 := Tryz.sizeOf4
  v4 := Tryz.zeroValue4
  t5 := Tryz.underlying5
  a5 := Tryz.isAgg5
  z5 := Tryz.sizeOf5
  v5 := Tryz.zeroValue5
  t9 := Tryz.underlying9
  a9 := Tryz.isAgg9
  z9 := Tryz.sizeOf9
  v9 := Tryz.zeroValue9
  t22 := Tryz.underlying28
  a22 := Tryz.isAgg28
  z22 := Tryz.sizeOf28
  v22 := Tryz.zeroValue28
  t25 := Tryz.underlying67
  a25 := Tryz.isAgg67
  z25 := Tryz.sizeOf67
  v25 := Tryz.zeroValue67
  t39 := Tryz.underlying98
  a39 := Tryz.isAgg98
  z39 := Tryz.sizeOf98
  v39 := Tryz.zeroValue98
  t45 := Tryz.underlying129
  a45 := Tryz.isAgg129
  z45 := Tryz.sizeOf129
  v45 := Tryz.zeroValue129
  t46 := Tryz.underlying130
  a46 := Tryz.isAgg130
  z46 := Tryz.sizeOf130
  v46 := Tryz.zeroValue130
  t50 := Tryz.underlying92
  a50 := Tryz.isAgg92
  z50 := Tryz.sizeOf92
  v50 := Tryz.zeroValue92
  t53 := Tryz.underlying136
  a53 := Tryz.isAgg136
  z53 := Tryz.sizeOf136
  v53 := Tryz.zeroValue136
  t55 := Tryz.underlying36
  a55 := Tryz.isAgg36
  z55 := Tryz.sizeOf36
  v55 := Tryz.zeroValue36
  t66 := Tryz.underlying153
  a66 := Tryz.isAgg153
  z66 := Tryz.sizeOf153
  v66 := Tryz.zeroValue153
  t70 := Tryz.underlying157
  a70 := Tryz.isAgg157
  z70 := Tryz.sizeOf157
  v70 := Tryz.zeroValue157
  t76 := Tryz.underlying171
  a76 := Tryz.isAgg171
  z76 := Tryz.sizeOf171
  v76 := Tryz.zeroValue171
  t77 := Tryz.underlying172
  a77 := Tryz.isAgg172
  z77 := Tryz.sizeOf172
  v77 := Tryz.zeroValue172 }
end Go.Proofs
/- slices.SortFunc at revisions, by their paths (the comparison of history.List). -/
namespace Go.Proofs.YtnblfaagchflaaaGreatDoor
open Go.RowKit Go.Lib
open Go.Sort hiding Below
set_option linter.unusedVariables false
set_option linter.unusedSimpArgs false

section
variable {α : Type} [Inhabited α] {enc : α → List Value} {k : Nat} {e : TypeId} {w0 w : World} {g off C : Nat} {d d' : Array α}
theorem size_putCellsV (f : Value → Value) (o : Nat) (F c : Array Value) : (putCells f o F c).size = c.size := by unfold putCells; exact Array.size_mapIdx
/-- The world that a sort leaves. -/
theorem SB.sorted (h : SB enc k e w0 g off C d w) (n : Nat) (os : Array Obj) (hs : d'.size = d.size) : SB enc k e w0 g off C d' (sortWorldK enc k w g off n d' os) := by
  have hl := h.lt
  have hblk : ∀ j, j < w.heap.size → (sortWorldK enc k w g off n d' os).heap[j]? = (w.heap.modify g (onCells (putCells id off (flatK enc k d'))))[j]? := by
    intro j hj
    show ((w.heap.modify g (onCells (putCells id off (flatK enc k d')))) ++ os)[j]? = _
    rw [Array.getElem?_append_left (by rw [Array.size_modify]; exact hj)]
  refine ⟨holdsK_sortWorldK_c enc k w g off d d' n os h.hold hl hs, ?_, ?_⟩
  · obtain ⟨cur, h1, h2⟩ := h.own
    refine ⟨putCells id off (flatK enc k d') cur, ?_, by rw [size_putCellsV]; exact h2⟩
    rw [hblk g hl, Array.getElem?_modify, if_pos rfl, h1]
    rfl
  · refine ⟨h.gr.os, h.gr.tape, h.gr.output, Nat.le_trans h.gr.size (size_sortWorldK_c enc k w g off n d' os), fun j hj hne => ?_⟩
    have hne' : ¬ g = j := fun e => hne (by rw [e])
    rw [hblk j (Nat.lt_of_lt_of_le hj h.gr.size), Array.getElem?_modify, if_neg hne']
    exact h.gr.block j hj hne
end
abbrev VRev := { r : Rev // validS r.path = true ∧ r.path.size ≤ 1000000 }
instance : Inhabited VRev := ⟨⟨⟨somePath, 0, 0, 0, zeroTy, 0, 0, emptyS, 0⟩, somePath_ok, by unfold somePath; decide⟩⟩
def VRev.enc (x : VRev) : List Value := x.1.cells
def VRev.cmp (x y : VRev) : Int := cmpP x.1.path y.1.path
theorem vRev_tot : TotC VRev.cmp := totP (f := fun r : VRev => r.1.path) fun r => r.2.1
theorem vRev_len (x : VRev) : x.enc.length = 12 := rfl
theorem vRev_one (x : VRev) : ∀ v ∈ x.enc, v.oneCell' = true := by
  intro v hv
  simp only [VRev.enc, Rev.cells, List.mem_cons, List.not_mem_nil, or_false] at hv
  rcases hv with rfl | rfl | rfl | rfl | rfl | rfl | rfl | rfl | rfl | rfl | rfl | rfl <;> rfl
set_option maxRecDepth 100000 in
set_option maxHeartbeats 1000000 in
theorem list1_any (x y : Rev) (hx : x.path.size ≤ 1000000) (hy : y.path.size ≤ 1000000) (w : World) : Calls Tryz.prog 21 #[.agg #[.string x.path, .int .i64 x.num, .int .i64 x.chg, .int .i64 x.act, .int .i64 x.ty.base, .bool x.ty.k, .bool x.ty.l, .bool x.ty.x, .int .u64 x.sum, .int .i64 x.size, .string x.frm, .int .i64 x.fnum], .agg #[.string y.path, .int .i64 y.num, .int .i64 y.chg, .int .i64 y.act, .int .i64 y.ty.base, .bool y.ty.k, .bool y.ty.l, .bool y.ty.x, .int .u64 y.sum, .int .i64 y.size, .string y.frm, .int .i64 y.fnum]] w fun e w' => e = .returned (.int .i64 (cmpP x.path y.path)) ∧ ∃ q os', w' = grow (w.drewN q) os' := by
  have H := Lib.hid (fun X => comparePaths_any x.path y.path X (by omega) (by omega))
  go_enter Tryz.func21, Tryz.ntmps21
  go_wp2_with fail
  refine (H.out _).mono ?_
  rintro e w' ⟨rfl, n, rfl⟩
  go_wp2_with fail
  go_ret
  exact ⟨rfl, n, #[.cells #[.string x.path, .int .i64 x.num, .int .i64 x.chg, .int .i64 x.act, .int .i64 x.ty.base, .bool x.ty.k, .bool x.ty.l, .bool x.ty.x, .int .u64 x.sum, .int .i64 x.size, .string x.frm, .int .i64 x.fnum] 40] ++ #[.cells #[.string y.path, .int .i64 y.num, .int .i64 y.chg, .int .i64 y.act, .int .i64 y.ty.base, .bool y.ty.k, .bool y.ty.l, .bool y.ty.x, .int .u64 y.sum, .int .i64 y.size, .string y.frm, .int .i64 y.fnum] 40], by rw [alloc_eq_grow, alloc_eq_grow, grow_grow]; rfl⟩
theorem vRev_lays (blk off size : Nat) (w : World) : CmpLays Tryz.prog 21 #[] VRev.enc 12 VRev.cmp blk off size w :=
  fun _ _ _ _ x y => list1_any x.1 y.1 x.2.2 y.2.2 _
theorem vrevs_list : ∀ {l : List Rev}, (∀ r ∈ l, validS r.path = true ∧ r.path.size ≤ 1000000) → ∃ l' : List VRev, l'.map (·.1) = l
  | [], _ => ⟨[], rfl⟩
  | r :: l, h => by
    obtain ⟨l', rfl⟩ := vrevs_list fun x hx => h x (List.mem_cons_of_mem _ hx)
    exact ⟨⟨r, h r (List.mem_cons_self ..)⟩ :: l', rfl⟩
theorem vrev_enc (l : List VRev) : l.flatMap VRev.enc = (l.map (·.1)).flatMap Rev.cells := by
  rw [List.flatMap_map]; rfl
def PathPost (w : World) (base : Nat) (v : Value) (l : List Rev) (e : Ending) (w' : World) : Prop :=
  e = .returned (.tuple #[]) ∧ ∃ l' : List Rev, l'.Perm l ∧ l'.Pairwise (fun a b => ¬ cmpP b.path a.path < 0) ∧ w'.ownsRow base 40 12 v l.length (l'.flatMap Rev.cells) ∧ w.grownBy w' v.ownBlock
theorem sortPaths_any (l : List Rev) (v : Value) (base : Nat) (w : World) (hown : w.ownsRow base 40 12 v l.length (l.flatMap Rev.cells)) (hl : l.length ≤ 10000000) (hv : ∀ r ∈ l, validS r.path = true ∧ r.path.size ≤ 1000000) :
    Calls Tryz.prog 20 #[v, .func (.func 21) #[] #[]] w (PathPost w base v l) := by
  by_cases h0 : l.length = 0
  · have hl0 : l = [] := List.eq_nil_of_length_eq_zero h0
    subst hl0
    have hvv : ∃ A c, v = .slice A 0 c := by
      rcases hown.2 with ⟨rfl, -⟩ | ⟨g, cap, cur, rfl, -⟩
      · exact ⟨_, _, rfl⟩
      · exact ⟨_, _, rfl⟩
    obtain ⟨A, c, rfl⟩ := hvv
    have hc := AnyF.slices_SortFunc_none (P := Tryz.prog) (ρ := Tryz.sortRevs_ren) Tryz.sortRevs A c (.func (.func 21) #[] #[]) w
    change Calls Tryz.prog 20 _ _ _ at hc
    refine hc.mono ?_
    rintro e w' ⟨rfl, rfl⟩
    exact ⟨rfl, [], List.Perm.refl _, List.Pairwise.nil, hown, ⟨rfl, rfl, rfl, Nat.le_refl _, fun _ _ _ => rfl⟩⟩
  · obtain ⟨l', rfl⟩ := vrevs_list hv
    rw [List.length_map] at h0 hl
    rw [← vrev_enc] at hown
    have hd : l'.toArray.size = (l'.map (·.1)).length := by simp
    obtain ⟨g, cap, rfl, hb, h3, h4, hSB⟩ := own_sb (enc := VRev.enc) (d := l'.toArray) vRev_len (by simpa using Nat.pos_of_ne_zero h0) (by rw [hd]; exact hown)
    have eg : ∀ args w, (callFunc 21 args).run Tryz.prog w = .ok (.enter 21 args) w := enters_of Tryz.func21 (by kernel_rfl) rfl
    have hc := AnyQ.slices_SortFunc (P := Tryz.prog) (ρ := Tryz.sortRevs_ren) Tryz.sortRevs 12 Tryz.isAgg40 Tryz.sizeOf40 VRev.enc vRev_len vRev_one VRev.cmp vRev_tot.swo 21 #[] g 0 cap l'.toArray w eg (vRev_lays g 0 l'.toArray.size w) hSB.hold hSB.lt (by rw [hd, List.length_map]; omega)
    change Calls Tryz.prog 20 _ _ _ at hc
    refine hc.mono ?_
    rintro e w' ⟨rfl, d', n, os, hp, hs, rfl⟩
    have hsz : d'.size = l'.toArray.size := hp.1
    have hK := hSB.sorted n os hsz
    have e1 : (d'.toList.map (·.1)).length = (l'.map (·.1)).length := by rw [List.length_map, ← hd, ← hsz]; simp
    refine ⟨rfl, d'.toList.map (·.1), ?_, ?_, ?_, hK.gr⟩
    · refine List.Perm.map _ ?_
      have := hp.2.2
      rw [← hsz, Array.extract_size, hsz, Array.extract_size] at this
      simpa using this
    · rw [List.pairwise_map, List.pairwise_iff_getElem]
      intro i j hi hj hij
      have hi' : i < d'.size := by simpa using hi
      have hj' : j < d'.size := by simpa using hj
      have := hs i j (Nat.zero_le _) hij (by omega)
      rw [getElem!_pos d' j hj', getElem!_pos d' i hi'] at this
      have h2 : decide (cmpP d'[j].1.path d'[i].1.path < 0) = false := this
      have h3 := of_decide_eq_false h2
      simpa using h3
    · have := sb_own vRev_len hb (by rw [hsz]; exact h3) h4 hK
      rw [hsz, hd, vrev_enc] at this
      rw [hd]
      exact this
end Go.Proofs.YtnblfaagchflaaaGreatDoor
