/- A pattern as an argument of a statement at a row. -/
import Derived.Test.YtnblfaagchflaaaGreatDoorMgw23
import Derived.Test.YtnblfaagchflaaaGreatDoorMgw17
import Derived.Test.YtnblfaagchflaaaGreatDoorMzLmW
namespace Go.Proofs.YtnblfaagchflaaaGreatDoor
open Go.RowKit Go.ChangeShapes Go.WideShapes Go.Deep
set_option linter.unusedVariables false

section
variable {H : Type} {enc : TypeId × Value → H}
theorem flat_strs : ∀ es : List ByteArray, es.flatMap (fun s : ByteArray => [Value.string s]) = es.map Value.string
  | [] => rfl
  | a :: l => by rw [List.flatMap_cons, List.map_cons, List.singleton_append, flat_strs l]
def PatRd (w : World) (q : Pat × Value) : Prop := Strs w q.2 q.1.parts ∧ (∃ A c, q.2 = .slice A q.1.parts.length c) ∧ ∀ x ∈ q.1.parts, x.size ≤ reachBytes
set_option maxRecDepth 100000 in
theorem rd_pat (w : World) (spare : Nat → Bool) (held : Bool) : Rd enc Tryz.prog w spare held 25 (fun q : Pat × Value => [q.2, .bool q.1.rest]) (PatRd w) := by
  intro n cs y h hw
  have hl : cs.length = 2 := (rd_len Tryz.underlying25 h).trans (by kernel_rfl)
  obtain ⟨n0, y0, h0, wh0⟩ := rd_field' (T := 23) (off := 0) (k := 1) Tryz.underlying25 h hw (i := 0) rfl rfl rfl (by kernel_rfl)
  obtain ⟨v0, es, e0, b0, s0, r0, p0⟩ := rd_slice (f := fun s : ByteArray => [.string s]) (k := 1) (fun _ => rfl) (by decide) Tryz.underlying23 (by kernel_rfl) (rd_string Tryz.underlying9) _ _ _ h0 wh0
  obtain ⟨n1, y1, h1, wh1⟩ := rd_field' (T := 4) (off := 1) (k := 1) Tryz.underlying25 h hw (i := 1) rfl rfl rfl (by kernel_rfl)
  obtain ⟨a1, e1, -⟩ := rd_bool Tryz.underlying4 _ _ _ h1 wh1
  clear h hw h0 h1 wh0 wh1
  match cs, hl with
  | [u0, u1], _ =>
    have e0' : [u0] = _ := e0
    have e1' : [u1] = _ := e1
    clear e0 e1
    simp only [List.cons.injEq, and_true] at e0' e1'
    subst e0' e1'
    refine ⟨(⟨es, a1⟩, u0), rfl, ?_, s0, p0⟩
    have e := flat_strs es
    unfold Strs
    rw [← e]
    exact r0
set_option maxRecDepth 100000 in
theorem pat_arg {w : World} {r : Reach} {b0 : Nat} {spare : Nat → Bool} {held : Bool} {v : Value} {d : DataW H} {p : List MemPlace} (hv : Value.okWide Tryz.prog w r b0 25 v) (h : DataW.Trod enc Tryz.prog w 0 spare held 25 v d p) (hw : Wt Tryz.prog 25 d) :
    ∃ (q : Pat) (A : Option Addr) (c : Nat), v = .agg #[.slice A q.parts.length c, .bool q.rest] ∧ Strs w (.slice A q.parts.length c) q.parts ∧ ∀ x ∈ q.parts, x.size ≤ maxLen := by
  obtain ⟨cs, rfl, -⟩ := okWide_struct Tryz.underlying25 hv
  obtain ⟨m, hm⟩ := h
  obtain ⟨⟨q, sv⟩, e, hs, ⟨A, c, hc⟩, hz⟩ := rd_pat w spare held _ _ _ hm hw
  change sv = .slice A q.parts.length c at hc
  subst hc
  have e' : cs.toList = [.slice A q.parts.length c, .bool q.rest] := e
  refine ⟨q, A, c, ?_, hs, fun x hx => ?_⟩
  · cases cs
    simp only at e'
    rw [e']
  · have := hz x hx
    have hb : reachBytes = 140737488351232 := by decide
    rw [hb] at this
    unfold maxLen; omega
end
end Go.Proofs.YtnblfaagchflaaaGreatDoor
/- The walk of HistoryListMeans at its arguments as the row reads them. -/
namespace Go.Proofs.YtnblfaagchflaaaGreatDoor
open Go.RowKit Go.ChangeShapes Go.WideShapes Go.Deep
set_option linter.unusedVariables false

theorem historyListMeans_walk (ps : List ChV) (v : Value) (p : Pat) (A : Option Addr) (c : Nat) (m : Int) (s : ByteArray) (w : World) (he : Env w) (h0 : ChgsRd w v ps) (hS : Strs w (.slice A p.parts.length c) p.parts) (hz : ∀ x ∈ p.parts, x.size ≤ maxLen) (hs : s.size ≤ maxLen) :
    Calls Tryz.prog 3 #[v, .agg #[.slice A p.parts.length c, .bool p.rest], .int .i64 m, .string s] w fun e w' => e = .returned (.bool true) ∧ Below w.heap.size w w' :=
  means_any ps p s m v A c w he h0.1 (rd_sizeOk' h0) (fun p hp => rd_last (h0.2.2 p hp)) hS hz
end Go.Proofs.YtnblfaagchflaaaGreatDoor
