/- What all cards of this seat use: the world of the witness; opening the arguments. -/
import Derived.Test.YtfifalpacagacaaDoorCards
import Derived.Test.YtfifalpacagacaaDoorTie
import Derived.Test.YtfifalpacagacaaDoorAwake
import Derived.WalkKit
import Derived.ProofKit
import Derived.OpenShut
import Derived.Deep.DeepHandedRow
import Derived.Lib.LaidTab
import Derived.Lib.SmallJoins
namespace Go.Proofs.YtfifalpacagacaaDoor.cardBase
open Go.ChangeShapes Go.WideShapes Go.ChangeAt Go.RowKit
set_option linter.unusedVariables false

theorem own : ownKnob Tryd.prog.godebug = none := by kernel_rfl
theorem laidOut : laidOutB Tryd.prog = true := by kernel_rfl
theorem env_of {W : World} (h : W.ShapedOpen Tryd.prog) : Env W := Tryd.laysM143.s1_3 W h

def layFirst : Obj → Obj
  | .cells _ t frozen => .cells (Go.Pinned.utf8FirstZ.map fun (n : Nat) => Value.int .u8 (n : Int)).toArray t frozen
  | o => o
def layAccept : Obj → Obj
  | .cells _ t frozen => .cells #[.int .u8 128, .int .u8 191, .int .u8 160, .int .u8 191, .int .u8 128, .int .u8 159, .int .u8 144, .int .u8 191, .int .u8 128, .int .u8 143, .int .u8 0, .int .u8 0, .int .u8 0, .int .u8 0, .int .u8 0, .int .u8 0, .int .u8 0, .int .u8 0, .int .u8 0, .int .u8 0, .int .u8 0, .int .u8 0, .int .u8 0, .int .u8 0, .int .u8 0, .int .u8 0, .int .u8 0, .int .u8 0, .int .u8 0, .int .u8 0, .int .u8 0, .int .u8 0] t frozen
  | o => o
/-- A world for the witness: the settled one, the two tables holding what their initialisers lay. -/
noncomputable def laidWorld (os : Os) : World :=
  { World.holding Tryd.prog os ⟨#[], #[], []⟩ with heap := ((World.holding Tryd.prog os ⟨#[], #[], []⟩).heap.modify 1 layFirst).modify 2 layAccept }

section
variable {H : Type} {enc : TypeId × Value → H} {w : World} {base : Nat} {spare : Nat → Bool} {held : Bool}
set_option maxRecDepth 100000 in
theorem ty_open {r : Reach} {b0 : Nat} {v : Value} {d : DataW H} {p : List MemPlace} (hv : Value.okWide Tryd.prog w r b0 27 v) (h : DataW.Trod enc Tryd.prog w base spare held 27 v d p) :
    ∃ t : Ty, v = t.val ∧ d = .agg [.lit (.int .i64 t.base), .lit (.bool t.k), .lit (.bool t.l), .lit (.bool t.x)] ∧ p = [] ∧ (Lit.int .i64 t.base).wf = true := by
  obtain ⟨v0, v1, v2, v3, y0, y1, y2, y3, n, rfl, rfl, rfl, h0, h1, h2, h3⟩ := Joins.open_agg4 Tryd.underlying27 (by kernel_rfl) (by kernel_rfl) hv h
  obtain ⟨b, e0, rfl, w0⟩ := DataW.trod_int Tryd.underlying3 h0
  obtain ⟨k1, e1, rfl⟩ := DataW.trod_bool Tryd.underlying4 h1
  obtain ⟨k2, e2, rfl⟩ := DataW.trod_bool Tryd.underlying4 h2
  obtain ⟨k3, e3, rfl⟩ := DataW.trod_bool Tryd.underlying4 h3
  simp only [List.cons.injEq, and_true] at e0 e1 e2 e3
  subst e0 e1 e2 e3
  exact ⟨⟨b, k1, k2, k3⟩, rfl, rfl, rfl, w0⟩
set_option maxRecDepth 100000 in
theorem ty_shut (t : Ty) (hw : (Lit.int .i64 t.base).wf = true) : DataW.Trod enc Tryd.prog w base spare held 27 t.val (.agg [.lit (.int .i64 t.base), .lit (.bool t.k), .lit (.bool t.l), .lit (.bool t.x)]) [] :=
  Joins.shut_agg4 (y0 := (.lit (.int .i64 t.base), [])) (y1 := (.lit (.bool t.k), [])) (y2 := (.lit (.bool t.l), [])) (y3 := (.lit (.bool t.x), [])) Tryd.underlying27 (by kernel_rfl) (by kernel_rfl)
    (shut_int Tryd.underlying3 hw) (shut_bool Tryd.underlying4 _) (shut_bool Tryd.underlying4 _) (shut_bool Tryd.underlying4 _)
end

end Go.Proofs.YtfifalpacagacaaDoor.cardBase
