/- Equality of trusts and configurations. -/
import Derived.Test.YtfjcndlhpfbcgaaGreatZ16Sets
namespace Go.Proofs.YtfjcndlhpfbcgaaGreat
open Go Go.Ab
theorem qir {α : Type} {a b : List α} {i : Nat} (h1 : i < a.length) (h2 : i < b.length) : a.drop i = b.drop i ↔ a[i] = b[i] ∧ a.drop (i + 1) = b.drop (i + 1) := by
  rw [List.drop_eq_getElem_cons h1, List.drop_eq_getElem_cons h2, List.cons.injEq]
theorem qds {a b : List Int} (hl : a.length < 1152921504606846976) (hab : a.length = b.length) : ∀ (n i : Nat), i + n = a.length →
    ∃ r, z4c a b ((a.length : Nat) : Int) (i : Int) = some r ∧ (r = true ↔ a.drop i = b.drop i)
  | 0, i, h => by
    refine ⟨true, ?_, by simp [List.drop_eq_nil_of_le (show a.length ≤ i by omega), List.drop_eq_nil_of_le (show b.length ≤ i by omega)]⟩
    apply qth
    rw [q02 (by omega)]
    rfl
  | n + 1, i, h => by
    have h1 : i < a.length := by omega
    have h2 : i < b.length := by omega
    obtain ⟨r, e1, e2⟩ := qds hl hab n (i + 1) (by omega)
    rw [qir h1 h2]
    by_cases hx : a[i] = b[i]
    · refine ⟨r, ?_, by rw [e2]; simp [hx]⟩
      apply qth
      rw [q05 (by omega), q10 (by omega) (show a[((i : Nat) : Int).toNat]? = some a[i] by simp), q10 (by omega) (show b[((i : Nat) : Int).toNat]? = some b[i] by simp), hx, q0h, q04 (by omega)]
      simp only [cond_true, cond_false]
      exact e1
    · refine ⟨false, ?_, by simp [hx]⟩
      apply qth
      rw [q05 (by omega), q10 (by omega) (show a[((i : Nat) : Int).toNat]? = some a[i] by simp), q10 (by omega) (show b[((i : Nat) : Int).toNat]? = some b[i] by simp), q18 hx]
      rfl
theorem qtk {a b : List Int} (hl : a.length < 1152921504606846976) : ∃ r, z6o a b = some r ∧ (r = true ↔ a = b) := by
  by_cases hab : a.length = b.length
  · obtain ⟨r, e1, e2⟩ := qds hl hab a.length 0 (by omega)
    refine ⟨r, ?_, by simpa using e2⟩
    apply qy4
    rw [← hab, q0h]
    exact e1
  · refine ⟨false, ?_, by simp; rintro rfl; exact hab rfl⟩
    apply qy4
    rw [q18 (by omega)]
    rfl
theorem y0u : ∀ a : Trust, Small a → ∀ b : Trust, ∃ r, z58 a b = some r ∧ (r = true ↔ a = b) := by
  apply Trust.ind
  intro a ih ha b
  have hn := ha.nodes
  have hi := ha.inner
  obtain ⟨ta, na, ia⟩ := a
  obtain ⟨tb, nb, ib⟩ := b
  simp only at hn hi ih
  by_cases ht : ta = tb
  · obtain ⟨r1, e1, e2⟩ := qtk (b := nb) (show na.length < 1152921504606846976 by omega)
    cases r1 with
    | false =>
      have : na ≠ nb := fun e => by have := e2.2 e; cases this
      refine ⟨false, ?_, by simp [this]⟩
      apply qoa
      simp only [ht, q0h, cond_false, e1, Option.bind_some, Bool.not_false, cond_true]
    | true =>
      have hnn : na = nb := e2.1 rfl
      by_cases hl : ia.length = ib.length
      · have l1 : ∀ (n i : Nat), i + n = ia.length → ∃ r, z3g ((ia.length : Nat) : Int) (i : Int) ta na ia tb nb ib = some r ∧ (r = true ↔ ia.drop i = ib.drop i) := by
          intro n
          induction n with
          | zero =>
            intro i h
            refine ⟨true, ?_, by simp [List.drop_eq_nil_of_le (show ia.length ≤ i by omega), List.drop_eq_nil_of_le (show ib.length ≤ i by omega)]⟩
            apply qzl
            rw [q02 (by omega)]
            rfl
          | succ n ihn =>
            intro i h
            have h1 : i < ia.length := by omega
            have h2 : i < ib.length := by omega
            obtain ⟨r, g1, g2⟩ := ihn (i + 1) (by omega)
            obtain ⟨q, g3, g4⟩ := ih ia[i] (List.getElem_mem h1) (ha.mem (List.getElem_mem h1)) ib[i]
            rw [qir h1 h2]
            have step : ∀ res, (bif (!q) then some false else z3g ((ia.length : Nat) : Int) ((i + 1 : Nat) : Int) ta na ia tb nb ib) = some res → z3g ((ia.length : Nat) : Int) (i : Int) ta na ia tb nb ib = some res := by
              intro res hres
              apply qzl
              rw [q05 (by omega), q10 (by omega) (show ia[((i : Nat) : Int).toNat]? = some ia[i] by simp), q10 (by omega) (show ib[((i : Nat) : Int).toNat]? = some ib[i] by simp), g3, q04 (by omega)]
              exact hres
            cases q with
            | true =>
              have he := g4.1 rfl
              exact ⟨r, step r g1, by rw [g2]; simp [he]⟩
            | false =>
              have he : ia[i] ≠ ib[i] := fun e => by have := g4.2 e; cases this
              exact ⟨false, step false rfl, by simp [he]⟩
        obtain ⟨r, g1, g2⟩ := l1 ia.length 0 (by omega)
        refine ⟨r, ?_, by rw [g2]; simp [ht, hnn]⟩
        apply qoa
        subst ht
        simp only [q0h, cond_false, e1, Option.bind_some, Bool.not_true, ← hl]
        exact g1
      · refine ⟨false, ?_, by simp; intro _ _ e; exact hl (by rw [e])⟩
        apply qoa
        simp only [ht, q0h, cond_false, e1, Option.bind_some, Bool.not_true]
        rw [q18 (by omega)]
        rfl
  · refine ⟨false, ?_, by simp [ht]⟩
    apply qoa
    simp only [q18 ht, cond_true]
end Go.Proofs.YtfjcndlhpfbcgaaGreat
