/- Plain: the two directions, one behind the other. -/
import Derived.Test.YtfifalpacagacaaDoorTrans
import Derived.Test.YtfifalpacagacaaDoorLines
namespace Go.Proofs.YtfifalpacagacaaDoor
set_option linter.unusedVariables false
set_option linter.unusedSimpArgs false

theorem ready_any_bytes {b : Int} {k x : Bool} {l l' : List UInt8} {ending : Int} (hb : b ≠ 3) : readyE b k x l ending = readyE b k x l' ending := by
  unfold readyE
  simp [hb]
theorem ready_trans {b : Int} {k x : Bool} {l : List UInt8} {ending : Int} (o nw : List UInt8) (h : readyE b k x l ending = 0) : readyE b k x (transL b ending o nw l) ending = 0 := by
  unfold transL
  split
  · rename_i hc
    rw [ready_any_bytes (l' := l) (by omega)]; exact h
  · exact h
theorem ready_ending {b : Int} {k x : Bool} {l : List UInt8} {ending : Int} (h : readyE b k x l ending = 0) : ending = 1 ∨ ending = 2 := by
  unfold readyE at h
  split at h
  · omega
  · split at h
    · omega
    · omega
theorem trans_back (b ending : Int) (l : List UInt8) : transL b ending [13, 10] [10] (transL b ending [10] [13, 10] l) = l := by
  unfold transL
  split
  · rw [repl_crlf, repl_lf, back]
  · rfl
def sameB (b ending : Int) (l : List UInt8) : Bool := b != 1 || (ending == 1 || !lone false l)
theorem trans_forth {b ending : Int} {l : List UInt8} (he : ending = 1 ∨ ending = 2) : (transL b ending [10] [13, 10] (transL b ending [13, 10] [10] l) = l) ↔ sameB b ending l = true := by
  unfold transL sameB
  by_cases h : b = 1 ∧ ending = 2
  · obtain ⟨rfl, rfl⟩ := h
    rw [if_pos ⟨rfl, rfl⟩, if_pos ⟨rfl, rfl⟩, repl_crlf, repl_lf, forth]
    simp
  · rw [if_neg h, if_neg h]
    by_cases hb : b = 1
    · have : ending = 1 := by omega
      simp [this]
    · simp [hb]
theorem trans_len (b ending : Int) (l : List UInt8) : (transL b ending [13, 10] [10] l).length ≤ l.length ∧ l.length ≤ (transL b ending [10] [13, 10] l).length ∧ (transL b ending [10] [13, 10] l).length ≤ 2 * l.length := by
  unfold transL
  split
  · rw [repl_crlf, repl_lf]
    exact ⟨len_lf l, (len_crlf l).1, (len_crlf l).2⟩
  · omega
theorem trans_rest (b ending : Int) (l : List UInt8) : restL (transL b ending [13, 10] [10] l) = restL l ∧ restL (transL b ending [10] [13, 10] l) = restL l := by
  unfold transL
  split
  · rw [repl_crlf, repl_lf]
    exact ⟨rest_lf l [], rest_crlf l []⟩
  · exact ⟨rfl, rfl⟩

def last13 (p : Bool) : List UInt8 → Bool
  | [] => p
  | c :: l => last13 (c == 13) l
theorem lone_snoc (l : List UInt8) (c : UInt8) : ∀ p, lone p (l ++ [c]) = (lone p l || (c == 10 && !last13 p l)) := by
  induction l with
  | nil => intro p; simp [lone, last13]
  | cons d l ih => intro p; simp only [List.cons_append, lone, last13, ih, Bool.or_assoc]
theorem last13_snoc (l : List UInt8) (c : UInt8) : ∀ p, last13 p (l ++ [c]) = (c == 13) := by
  induction l with
  | nil => intro p; rfl
  | cons d l ih => intro p; exact ih _
theorem lone_step {l : List UInt8} {k : Nat} (h : k < l.length) : lone false (l.take (k + 1)) = (lone false (l.take k) || (l[k] == 10 && !last13 false (l.take k))) := by
  rw [List.take_succ_eq_append_getElem h, lone_snoc]
theorem last13_take {l : List UInt8} {k : Nat} (h : k < l.length) : last13 false (l.take (k + 1)) = (l[k] == 13) := by
  rw [List.take_succ_eq_append_getElem h, last13_snoc]
end Go.Proofs.YtfifalpacagacaaDoor
