/- The reference's search for an occurrence, and that it finds what the program finds: lists and numbers alone. -/
import Derived.Test.YtajlckioogalbaaScan2
import Derived.Test.YtajlckioogalbaaTable
namespace Go.Proofs.Ytajlckioogalbaa

def one (s nm : List UInt8) : Nat :=
  if (36 :: nm).isPrefixOf s then
    if s[nm.length + 1]? = some 36 then nm.length + 2
    else if s[nm.length + 1]? = some 58 then
      (if (s.drop (nm.length + 1))[((s.drop (nm.length + 1)).takeWhile (fun c => c.toNat != 36 && c.toNat != 10)).length]? = some 36 then 1 + nm.length + ((s.drop (nm.length + 1)).takeWhile (fun c => c.toNat != 36 && c.toNat != 10)).length + 1 else 0)
    else 0
  else 0
def begL (s : List UInt8) : List (List UInt8) → Nat → Nat × Nat
  | [], _ => (0, 0)
  | nm :: ns, k => if one s nm = 0 then begL s ns (k + 1) else (one s nm, k)

theorem takeWhile_pre {α : Type} {p : α → Bool} {l r : List α} (hl : ∀ x ∈ l, p x = true) (hc : ∀ c, r[0]? = some c → p c = false) : (l ++ r).takeWhile p = l := by
  induction l with
  | nil =>
    cases r with
    | nil => rfl
    | cons c r => simp [hc c rfl]
  | cons y l ih =>
    simp only [List.cons_append, List.takeWhile_cons, hl y (by simp), if_true]
    rw [ih (fun x hx => hl x (by simp [hx]))]

theorem nameAt_pre (b : List UInt8) (k : Nat) : nameAt b k <+: b.drop (k + 1) := by unfold nameAt; exact List.take_prefix _ _

theorem one_step (b nm : List UInt8) (k : Nat) (hk : k < b.length) (hn : ∀ c ∈ nm, letterB c.toNat = true) :
    one (b.drop k) nm = if b[k]? = some 36 ∧ nameAt b k = nm ∧ occOk b (endNameL b (k + 1)) = true then occAt b (endNameL b (k + 1)) + 1 - k else 0 := by
  have hcons : b.drop k = b[k] :: b.drop (k + 1) := List.drop_eq_getElem_cons hk
  have hbk : b[k]? = some b[k] := List.getElem?_eq_getElem hk
  have hlen := nameAt_length b k hk
  obtain ⟨hle1, hle2⟩ := nameAt_le b k hk
  by_cases hp : (36 :: nm).isPrefixOf (b.drop k) = true
  · rw [one, if_pos hp]
    rw [List.isPrefixOf_iff_prefix] at hp
    obtain ⟨r, hr⟩ := hp
    rw [hcons, List.cons_append, List.cons.injEq] at hr
    obtain ⟨h36, hr⟩ := hr
    have hb36 : b[k]? = some 36 := by rw [hbk, ← h36]
    have hat : ∀ j, b[k + 1 + nm.length + j]? = r[j]? := by
      intro j
      have : b[k + 1 + nm.length + j]? = (b.drop (k + 1))[nm.length + j]? := by rw [List.getElem?_drop]; congr 1; omega
      rw [this, ← hr, List.getElem?_append_right (by omega)]; congr 1; omega
    have hs : (b.drop k)[nm.length + 1]? = r[0]? := by
      rw [List.getElem?_drop, ← hat 0]; congr 1; omega
    have hd : (b.drop k).drop (nm.length + 1) = r := by
      rw [List.drop_drop, show k + (nm.length + 1) = (k + 1) + nm.length by omega, ← List.drop_drop, ← hr, List.drop_left]
    rw [hs, hd]
    by_cases hc : r[0]? = some 36 ∨ r[0]? = some 58
    · have hpre : (b.drop (k + 1)).takeWhile (fun c => letterB c.toNat) = nm := by
        rw [← hr]
        refine takeWhile_pre hn ?_
        intro c hc'
        rcases hc with hc | hc <;> rw [hc] at hc' <;> injection hc' with hc' <;> subst hc' <;> decide
      have hname : nameAt b k = nm := by unfold nameAt; rw [endNameL_take]; exact hpre
      have hend : endNameL b (k + 1) = k + 1 + nm.length := by unfold endNameL; rw [hpre]
      have hbe : b[k + 1 + nm.length]? = r[0]? := hat 0
      rw [hname, hend, hb36]
      rcases hc with hc | hc
      · have hocc : occAt b (k + 1 + nm.length) = k + 1 + nm.length := by unfold occAt; rw [hbe, hc]; simp
        have hok : occOk b (k + 1 + nm.length) = true := by unfold occOk; rw [hocc, hbe, hc]; rfl
        rw [if_pos hc, hok, hocc]
        simp
        omega
      · rw [hc, if_neg (by simp), if_pos rfl]
        obtain ⟨t, ht⟩ : ∃ t, r = 58 :: t := by cases r with
          | nil => simp at hc
          | cons c t => simp at hc; exact ⟨t, by rw [hc]⟩
        have hocc : occAt b (k + 1 + nm.length) = skipL b (k + 1 + nm.length + 1) := by unfold occAt; rw [hbe, hc, if_pos rfl]
        have hdt : b.drop (k + 1 + nm.length + 1) = t := by
          rw [← List.drop_drop, ← List.drop_drop, ← hr, List.drop_left, ht]; rfl
        have hsk : skipL b (k + 1 + nm.length + 1) = k + 1 + nm.length + 1 + (t.takeWhile (fun c => c.toNat != 36 && c.toNat != 10)).length := by unfold skipL; rw [hdt]
        have htw : (r.takeWhile (fun c => c.toNat != 36 && c.toNat != 10)).length = 1 + (t.takeWhile (fun c => c.toNat != 36 && c.toNat != 10)).length := by
          rw [ht, List.takeWhile_cons, if_pos (by decide), List.length_cons]; omega
        have hri : r[1 + (t.takeWhile (fun c => c.toNat != 36 && c.toNat != 10)).length]? = b[skipL b (k + 1 + nm.length + 1)]? := by
          rw [← hat, hsk]; congr 1; omega
        have hok : occOk b (k + 1 + nm.length) = (b[skipL b (k + 1 + nm.length + 1)]? == some 36) := by unfold occOk; rw [hocc]
        rw [htw, hri, hok, hocc]
        by_cases hq : b[skipL b (k + 1 + nm.length + 1)]? = some 36
        · rw [if_pos hq, hq]; simp; omega
        · rw [if_neg hq, if_neg]; simp [hq]
    · rw [if_neg (fun h => hc (.inl h)), if_neg (fun h => hc (.inr h)), if_neg]
      rintro ⟨_, hname, hok⟩
      have hend : endNameL b (k + 1) = k + 1 + nm.length := by rw [hname] at hlen; omega
      have hbe : b[k + 1 + nm.length]? = r[0]? := hat 0
      rw [hend] at hok
      have hocc : occAt b (k + 1 + nm.length) = k + 1 + nm.length := by unfold occAt; rw [hbe, if_neg (fun h => hc (.inr h))]
      unfold occOk at hok
      rw [hocc, hbe] at hok
      exact hc (.inl (eq_of_beq hok))
  · rw [one, if_neg hp, if_neg]
    rintro ⟨h36, hname, _⟩
    apply hp
    rw [List.isPrefixOf_iff_prefix, hcons]
    rw [hbk] at h36
    injection h36 with h36
    rw [h36]
    obtain ⟨t, ht⟩ := nameAt_pre b k
    rw [hname] at ht
    exact ⟨t, by rw [List.cons_append, ht]⟩

theorem begL_step (b : List UInt8) (k : Nat) (hk : k < b.length) : ∀ (names : List (List UInt8)) (k0 : Nat), (∀ nm ∈ names, ∀ c ∈ nm, letterB c.toNat = true) →
    begL (b.drop k) names k0 = if b[k]? = some 36 then (match stepAt names b k with | some e => (e - k, k0 + names.idxOf (nameAt b k)) | none => (0, 0)) else (0, 0)
  | [], k0, _ => by
    unfold begL stepAt
    simp
  | nm :: ns, k0, h => by
    have ho := one_step b nm k hk (h nm (by simp))
    have ih := begL_step b k hk ns (k0 + 1) (fun m hm => h m (by simp [hm]))
    have hge := occAt_ge b (endNameL b (k + 1))
    have hge2 := endNameL_ge b (k + 1)
    by_cases h36 : b[k]? = some 36
    · by_cases hok : occOk b (endNameL b (k + 1)) = true
      · by_cases hname : nameAt b k = nm
        · rw [if_pos ⟨h36, hname, hok⟩] at ho
          rw [begL, ho, if_neg (by omega), if_pos h36]
          unfold stepAt
          rw [if_pos ⟨by rw [hname]; simp, hok⟩]
          simp [hname]
        · rw [if_neg (fun h => hname h.2.1)] at ho
          rw [begL, ho, if_pos rfl, ih, if_pos h36, if_pos h36]
          have hmem : (nameAt b k ∈ nm :: ns) ↔ nameAt b k ∈ ns := by simp [hname]
          unfold stepAt
          by_cases hin : nameAt b k ∈ ns
          · rw [if_pos ⟨hin, hok⟩, if_pos ⟨hmem.2 hin, hok⟩]
            have : (nm == nameAt b k) = false := by simpa using fun h => hname h.symm
            simp only [List.idxOf_cons, this, cond_false]
            congr 1
            omega
          · rw [if_neg (fun h => hin h.1), if_neg (fun h => hin (hmem.1 h.1))]
      · rw [if_neg (fun h => hok h.2.2)] at ho
        rw [begL, ho, if_pos rfl, ih, if_pos h36, if_pos h36]
        unfold stepAt
        rw [if_neg (fun h => hok h.2), if_neg (fun h => hok h.2)]
    · rw [if_neg (fun h => h36 h.1)] at ho
      rw [begL, ho, if_pos rfl, ih, if_neg h36, if_neg h36]

end Go.Proofs.Ytajlckioogalbaa
