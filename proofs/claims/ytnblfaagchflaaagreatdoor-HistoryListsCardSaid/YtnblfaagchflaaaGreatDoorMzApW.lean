/- Words for history.Append. -/
import Derived.Test.YtnblfaagchflaaaGreatDoorMgw10
import Derived.Test.YtnblfaagchflaaaGreatDoorMzEvery
import Derived.Test.YtnblfaagchflaaaGreatDoorMgw12
import Derived.Test.YtnblfaagchflaaaGreatDoorMgw13
import Derived.Deep.RegionLaw
namespace Go.Proofs.YtnblfaagchflaaaGreatDoor
open Go.RowKit
set_option linter.unusedVariables false
set_option linter.unusedSimpArgs false

/-- The state of Append while its steps run. -/
structure ApSt (w0 w : World) (d : Dep) (c : Chg) (dv dr ev rv : Value) (g b gd gc gr gs : Nat) (ed : Option (ByteArray → Option Edt)) : Prop where
  bel : Below w0.heap.size w0 w
  le : w0.heap.size ≤ b
  ler : w0.heap.size ≤ gr
  chk : Chk w g dv dr c.num c.client c.text ev rv b (b + 1) (b + 1 + 1)
  last : LastMap w b (lastOf d.revs)
  edits : ∀ f, ed = some f → EditMap w (b + 1) f
  lines : LineMap w (b + 1 + 1) (linesOf d.revs)
  boxD : Blk w gd 31 [dv, dr]
  boxC : Blk w gc 53 [.int .i64 c.num, .string c.client, .string c.text, ev, rv]
  boxR : Blk w gr 31 [.slice none 0 0, .slice none 0 0]
  stp : Blk w gs 82 [stepV 70 g, stepV 71 g, stepV 72 g, stepV 73 g, stepV 74 g]
  revs : Revs w dv d.revs
  recs : Rcds w dr d.recs
  eds : Edts w ev c.edits
  rcs : Rcds w rv c.recs
section
variable {w0 w w' : World} {d : Dep} {c : Chg} {dv dr ev rv : Value} {g b gd gc gr gs : Nat} {ed : Option (ByteArray → Option Edt)}
theorem ApSt.below (h : ApSt w0 w d c dv dr ev rv g b gd gc gr gs ed) (hb : Below w.heap.size w w') : ApSt w0 w' d c dv dr ev rv g b gd gc gr gs ed :=
  ⟨below_next h.bel hb, h.le, h.ler, Blk.below h.chk hb (Blk.lt h.chk), FMap.below h.last hb, fun f e => FMap.below (h.edits f e) hb, FMap.below h.lines hb, h.boxD.below hb h.boxD.lt, h.boxC.below hb h.boxC.lt, h.boxR.below hb h.boxR.lt, h.stp.below hb h.stp.lt, h.revs.below hb, h.recs.below hb, h.eds.below hb, h.rcs.below hb⟩
theorem ApSt.every {f : ByteArray → Option Edt} {es : List Edt} {r : Int} (h : ApSt w0 w d c dv dr ev rv g b gd gc gr gs (some f)) (he : EvRel w (b + 1) es r w') (hr : r = 0) : ApSt w0 w' d c dv dr ev rv g b gd gc gr gs (some (editsOf es)) := by
  have hg := he.1
  have hm := FMap.obj (h.edits f rfl)
  have hb : Below w0.heap.size w0 w' := h.bel.grown hg h.bel.size (fun j e => by injection e with e; have := h.le; omega)
  exact ⟨hb, h.le, h.ler, Blk.turn h.chk hm hg, FMap.grown h.last hg (by intro e; injection e with e; omega), fun f' e => by injection e with e; subst e; exact he.2 hr, FMap.grown h.lines hg (by intro e; injection e with e; omega), h.boxD.turn hm hg, h.boxC.turn hm hg, h.boxR.turn hm hg, h.stp.turn hm hg, Row.turn h.revs (by decide) hm hg, Row.turn h.recs (by decide) hm hg, Row.turn h.eds (by decide) hm hg, Row.turn h.rcs (by decide) hm hg⟩
theorem ApSt.every' {f : ByteArray → Option Edt} {es : List Edt} {r : Int} (h : ApSt w0 w d c dv dr ev rv g b gd gc gr gs (some f)) (he : EvRel w (b + 1) es r w') : Below w0.heap.size w0 w' ∧ Blk w' gr 31 [.slice none 0 0, .slice none 0 0] := by
  have hg := he.1
  have hm := FMap.obj (h.edits f rfl)
  exact ⟨h.bel.grown hg h.bel.size (fun j e => by injection e with e; have := h.le; omega), h.boxR.turn hm hg⟩
end
theorem box5 {w : World} {g : Nat} {e : TypeId} {a b c d x : Value} (h : Blk w g e [a, b, c, d, x]) :
    w.cell? ⟨g, 0, none⟩ = some a ∧ w.cell? ⟨g, 1, none⟩ = some b ∧ w.cell? ⟨g, 2, none⟩ = some c ∧ w.cell? ⟨g, 3, none⟩ = some d ∧ w.cell? ⟨g, 4, none⟩ = some x :=
  ⟨h.cell 0, h.cell 1, h.cell 2, h.cell 3, h.cell 4⟩

/-- v's row, if it has a block, lies from B on. -/
def Fresh (B : Nat) (v : Value) : Prop := ∀ x, v.ownBlock = some x → B ≤ x
/-- What Append leaves. -/
def ApPost (w : World) (d : Dep) (c : Chg) (e : Ending) (w' : World) : Prop :=
  Below w.heap.size w w' ∧ (appE d c ≠ 0 ∧ e = .returned (.tuple #[.agg #[.slice none 0 0, .slice none 0 0], .int .i64 (appE d c)]) ∨
    appE d c = 0 ∧ ∃ (dv' dr' : Value) (l : List Rcd), e = .returned (.tuple #[.agg #[dv', dr'], .int .i64 0]) ∧ Revs w' dv' (newRevs d c) ∧ Rcds w' dr' l ∧ l.Perm (d.recs ++ c.recs) ∧ l.Pairwise (fun a b => 0 ≤ cmpR b a) ∧ Fresh w.heap.size dv' ∧ Fresh w.heap.size dr')

theorem own_mono {w : World} {base base' : Nat} {e : TypeId} {size n : Nat} {v : Value} {xs : List Value} (h : w.ownsRow base e size v n xs) (hb : base' ≤ base) : w.ownsRow base' e size v n xs := by
  obtain ⟨h1, h2 | ⟨g, cap, cur, e1, h3, h4⟩⟩ := h
  · exact ⟨h1, .inl h2⟩
  · exact ⟨h1, .inr ⟨g, cap, cur, e1, Nat.le_trans hb h3, h4⟩⟩
theorem own_grown {w w' : World} {base : Nat} {e : TypeId} {size n : Nat} {v : Value} {xs : List Value} {row : Option Nat} (h : w.ownsRow base e size v n xs) (hg : w.grownBy w' row) (hne : ∀ x, v.ownBlock = some x → row ≠ some x) : w'.ownsRow base e size v n xs := by
  obtain ⟨h1, h2 | ⟨g, cap, cur, e1, h3, h4, h5⟩⟩ := h
  · exact ⟨h1, .inl h2⟩
  · exact ⟨h1, .inr ⟨g, cap, cur, e1, h3, by rw [hg.block g (Array.getElem?_eq_some_iff.1 h4).1 (fun e => hne g (by rw [e1]; rfl) e.symm)]; exact h4, h5⟩⟩
theorem own_setCell {w : World} {base : Nat} {e : TypeId} {size n : Nat} {v : Value} {xs : List Value} (h : w.ownsRow base e size v n xs) {p : Addr} (hne : v.ownBlock ≠ some p.block) (u : Value) : (w.setCell p u).ownsRow base e size v n xs := by
  obtain ⟨h1, h2 | ⟨g, cap, cur, e1, h3, h4, h5⟩⟩ := h
  · exact ⟨h1, .inl h2⟩
  · exact ⟨h1, .inr ⟨g, cap, cur, e1, h3, by rw [Below.heap_setCell w p u g (fun e => hne (by rw [e1, ← e]; rfl))]; exact h4, h5⟩⟩
theorem clone_own (revs : List Rev) (v : Value) (V X : World) (hX : Below V.heap.size V X) (hR : Revs X v revs) (hl : revs.length ≤ 1000000) :
    Calls Tryz.prog 39 #[v] X
      fun e w' => ∃ A' c', e = .returned (.slice A' revs.length c') ∧ Below V.heap.size V w' ∧ w'.ownsRow X.heap.size 40 12 (.slice A' revs.length c') revs.length (revs.flatMap Rev.cells) ∧ Below X.heap.size X w' :=
  (clone_any revs v X hR hl).mono fun e w' ⟨v', h1, h2, h3⟩ => by
    obtain ⟨A', c', rfl⟩ := own_slice h3
    exact ⟨A', c', h1, below_next hX h2, h3, h2⟩
theorem concat_own (l1 l2 : List Rcd) (v1 v2 : Value) (g : Nat) (V w : World) (hX : Below V.heap.size V w) (hB : Blk w g 29 [v1, v2]) (h1 : Rcds w v1 l1) (h2 : Rcds w v2 l2) (hl1 : l1.length ≤ 100000) (hl2 : l2.length ≤ 100000) :
    Calls Tryz.prog 40 #[.slice (some ⟨g, 0, none⟩) 2 2] w
      fun e w' => ∃ A' c', e = .returned (.slice A' (l1.length + l2.length) c') ∧ Below V.heap.size V w' ∧ w'.ownsRow w.heap.size 57 6 (.slice A' (l1.length + l2.length) c') (l1.length + l2.length) ((l1 ++ l2).flatMap Rcd.cells) ∧ Below w.heap.size w w' :=
  (concat_any l1 l2 v1 v2 g w hB h1 h2 hl1 hl2).mono fun e w' ⟨v', k1, k2, k3⟩ => by
    obtain ⟨A', c', rfl⟩ := own_slice k3
    exact ⟨A', c', k1, below_next hX k2, k3, k2⟩
/-- Append's result while it is made: in block g10, of two rows of its own. -/
structure ApR (V wx : World) (g10 : Nat) (v1 v2 : Value) (n m : Nat) (xs ys : List Value) : Prop where
  bel : Below V.heap.size V wx
  le : V.heap.size ≤ g10
  box : Blk wx g10 31 [v1, v2]
  one : wx.ownsRow V.heap.size 40 12 v1 n xs
  two : wx.ownsRow V.heap.size 57 6 v2 m ys
  ne1 : v1.ownBlock ≠ some g10
  ne2 : v2.ownBlock ≠ some g10
  ne12 : ∀ x, v1.ownBlock = some x → v2.ownBlock ≠ some x

/-- 'append(s, x...)' as one step of a region that draws its order. -/
theorem step_app {P : Program} {W : World} {ops : Array Oper} {o : Oper} {a : Act} {K : Act → World → Prop} {Q : Exit → Act → World → Prop} {E : Prop} (hgd : o.guard = none) {s x : Operand} {t : TypeId}
    (ho : o.op = .call { callee := .builtin .append, args := #[s, x], argTypes := #[t, t] })
    {e : TypeId} {size bytes base : Nat} (he : ElemOk P t e size bytes) {v : Value} {n : Nat} {xs : List Value} (hown : W.ownsRow base e size v n xs) (hs : a.eval s = v)
    {u : Value} {m : Nat} {news : List Value} (hr : Row W size u m news) (hx : a.eval x = u) (h1 : ∀ u ∈ news, u.oneCell' = true) (hbytes : (n + m) * bytes ≤ 140737488355328) (h63 : n + m ≤ maxLen) (hbase : base ≤ W.heap.size)
    (h : ∀ A' c' w', w'.ownsRow base e size (.slice A' (n + m) c') (n + m) (xs ++ news) → W.grownBy w' v.ownBlock →
      ((Value.slice A' (n + m) c').ownBlock = v.ownBlock ∨ (Value.slice A' (n + m) c').ownBlock = some W.heap.size) → K (a.put o.dst (.slice A' (n + m) c')) w') :
    if Region.wanted o (yielded ops a.tmps) = true then Oper.wp P o a W K Q else E := by
  have hw : Region.wanted o (yielded ops a.tmps) = true := by simp [Region.wanted, hgd]
  rw [if_pos hw]
  obtain ⟨A', c', w', hrun, h2, h3, h4⟩ := run_app (ty := o.type) he hown hr h1 hbytes h63 hbase
  unfold Oper.wp execOp
  simp only [ho, resolve, invoke, builtin, Sem.run_bind, Sem.run_pure, Result.andThen_ok, List.map_toArray, List.map_cons, List.map_nil, hs, hx, hrun]
  exact h A' c' w' h2 h3 h4
theorem below_alloc' {a w : World} (h : Below a.heap.size a w) (o : Obj) : Below a.heap.size a (w.alloc o) := h.alloc h.size o
theorem Blk.below' {w w' : World} {g : Nat} {e : TypeId} {cs : List Value} (h : Blk w g e cs) (hb : Below w.heap.size w w') : Blk w' g e cs := h.below hb h.lt
theorem Blk.drew' {w : World} {g : Nat} {e : TypeId} {cs : List Value} (h : Blk w g e cs) : Blk w.drew g e cs := h
theorem own_alloc' {w : World} {B : Nat} {e : TypeId} {k : Nat} {v : Value} {n : Nat} {xs : List Value} (h : w.ownsRow B e k v n xs) (o : Obj) : (w.alloc o).ownsRow B e k v n xs := own_below h ((Below.refl _ _).alloc (Nat.le_refl _) _)
theorem drew_heap (w : World) : w.drew.heap = w.heap := rfl
theorem blk_at {w : World} {g : Nat} {cs : List Value} {e : TypeId} (hg : g = w.heap.size) : Blk (w.alloc (.cells cs.toArray e)) g e cs := by rw [hg]; exact blk_new w cs e
theorem apR_of {V X w5 Y w6 W : World} {v1 v2 : Value} {g10 n m : Nat} {xs ys : List Value} (hX : Below V.heap.size V X) (h5 : Below X.heap.size X w5) (hY : Below w5.heap.size w5 Y) (h6 : Below Y.heap.size Y w6) (hW : Below w6.heap.size w6 W)
    (o5 : w5.ownsRow X.heap.size 40 12 v1 n xs) (o6 : w6.ownsRow Y.heap.size 57 6 v2 m ys)
    (hb : Blk W g10 31 [.slice none 0 0, .slice none 0 0]) (hg : (V.heap.size ≤ g10 ∧ g10 < X.heap.size) ∨ (w5.heap.size ≤ g10 ∧ g10 < Y.heap.size) ∨ w6.heap.size ≤ g10) :
    ApR V ((W.setCell ⟨g10, 0, none⟩ v1).setCell ⟨g10, 1, none⟩ v2) g10 v1 v2 n m xs ys := by
  have b5 := below_next hX h5
  have h56 := below_next hY h6
  have b6 := below_next b5 h56
  have bW := below_next b6 hW
  have l1 := o5.lt
  have l2 := o6.lt
  have s1 := hX.size
  have s2 := h5.size
  have s3 := hY.size
  have s4 := h6.size
  have s5 := hW.size
  have n1 : v1.ownBlock ≠ some g10 := fun e => by have := l1 _ e; omega
  have n2 : v2.ownBlock ≠ some g10 := fun e => by have := l2 _ e; omega
  have hle : V.heap.size ≤ g10 := by omega
  refine ⟨(bW.setCell (p := ⟨g10, 0, none⟩) hle _).setCell (p := ⟨g10, 1, none⟩) hle _, hle, (hb.set_ 0 v1).set_ 1 v2, ?_, ?_, n1, n2, ?_⟩
  · exact own_mono (own_setCell (own_setCell (own_below (own_below o5 h56) hW) (p := ⟨g10, 0, none⟩) n1 _) (p := ⟨g10, 1, none⟩) n1 _) s1
  · exact own_mono (own_setCell (own_setCell (own_below o6 hW) (p := ⟨g10, 0, none⟩) n2 _) (p := ⟨g10, 1, none⟩) n2 _) (by omega)
  · intro x e1 e2
    have := l1 _ e1
    have := l2 _ e2
    omega

theorem apR_of2 {V X w5 Y w6 : World} {v1 v2 : Value} {n m : Nat} {xs ys : List Value} (hX : Below V.heap.size V X) (h5 : Below X.heap.size X w5) (hY : Below w5.heap.size w5 Y) (h6 : Below Y.heap.size Y w6)
    (o5 : w5.ownsRow X.heap.size 40 12 v1 n xs) (o6 : w6.ownsRow Y.heap.size 57 6 v2 m ys) :
    ApR V (w6.alloc (.cells #[v1, v2] 31)) w6.heap.size v1 v2 n m xs ys := by
  have b5 := below_next hX h5
  have h56 := below_next hY h6
  have b6 := below_next b5 h56
  have l1 := o5.lt
  have l2 := o6.lt
  have s1 := hX.size
  have s2 := h5.size
  have s3 := hY.size
  have s4 := h6.size
  refine ⟨below_alloc' b6 _, b6.size, blk_new w6 [v1, v2] _, own_mono (own_alloc' (own_below o5 h56) _) s1, own_mono (own_alloc' o6 _) (by omega), fun e => by have := l1 _ e; omega, fun e => by have := l2 _ e; omega, ?_⟩
  intro x e1 e2
  have := l1 _ e1
  have := l2 _ e2
  omega

/-- One more revision appended: X is the world ahead of the append, the element's block laid. -/
theorem ApR.push {V wr X w5 : World} {g10 : Nat} {v1 v2 v3 : Value} {n n' m : Nat} {xs xs' ys : List Value} (h : ApR V wr g10 v1 v2 n m xs ys) (hX : Below wr.heap.size wr X) (ho : w5.ownsRow V.heap.size 40 12 v3 n' xs') (hg : X.grownBy w5 v1.ownBlock) (hw : v3.ownBlock = v1.ownBlock ∨ v3.ownBlock = some X.heap.size) :
    ApR V (w5.setCell ⟨g10, 0, none⟩ v3) g10 v3 v2 n' m xs' ys := by
  have l1 := h.one.lt
  have l2 := h.two.lt
  have lb := h.box.lt
  have hs := hX.size
  have n3 : v3.ownBlock ≠ some g10 := fun e => by
    rcases hw with hw | hw
    · exact h.ne1 (hw ▸ e)
    · rw [hw] at e; injection e with e; omega
  have b5 : Below V.heap.size V w5 := (below_next h.bel hX).grown hg (by have := h.bel.size; omega) (fun k e => (l1 k e).1)
  refine ⟨b5.setCell (p := ⟨g10, 0, none⟩) h.le _, h.le, ?_, own_setCell ho (p := ⟨g10, 0, none⟩) n3 _, ?_, n3, h.ne2, ?_⟩
  · exact ((h.box.below hX lb).grown hg (fun e => h.ne1 e.symm)).set_ 0 v3
  · exact own_setCell (own_grown (own_below h.two hX) hg (fun x e e2 => h.ne12 x e2 e)) (p := ⟨g10, 0, none⟩) h.ne2 _
  · intro x e1 e2
    rcases hw with hw | hw
    · exact h.ne12 x (hw ▸ e1) e2
    · rw [hw] at e1; injection e1 with e1
      have := l2 _ e2; omega

theorem ApR.under {V wr X : World} {g10 : Nat} {v1 v2 : Value} {n m : Nat} {xs ys : List Value} (h : ApR V wr g10 v1 v2 n m xs ys) (hX : Below wr.heap.size wr X) : ApR V X g10 v1 v2 n m xs ys :=
  ⟨below_next h.bel hX, h.le, h.box.below hX h.box.lt, own_below h.one hX, own_below h.two hX, h.ne1, h.ne2, h.ne12⟩
/-- The operations of region n of a function's text. -/
def regAt (n : Nat) : Code → Option (Array Oper)
  | .region i ops _ => if i = n then some ops else none
  | .seq a b => (regAt n a).or (regAt n b)
  | .cond _ a b => (regAt n a).or (regAt n b)
  | .block _ a => regAt n a
  | .loop a => regAt n a
  | _ => none
end Go.Proofs.YtnblfaagchflaaaGreatDoor
