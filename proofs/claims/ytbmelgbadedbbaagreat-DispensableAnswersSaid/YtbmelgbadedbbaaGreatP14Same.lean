/- Equality of trusts and configurations. -/
import Derived.Test.YtbmelgbadedbbaaGreatP14Sets
namespace Go.Proofs.YtbmelgbadedbbaaGreat
open Go Go.Ab
theorem qj6 {α : Type} {a b : List α} {i : Nat} (h1 : i < a.length) (h2 : i < b.length) : a.drop i = b.drop i ↔ a[i] = b[i] ∧ a.drop (i + 1) = b.drop (i + 1) := by
 rw [List.drop_eq_getElem_cons h1, List.drop_eq_getElem_cons h2, List.cons.injEq]
theorem qdz {a b : List Int} (hl : a.length < 1152921504606846976) (hab : a.length = b.length) : ∀ (n i : Nat), i + n = a.length →
  ∃ r, z4a a b ((a.length : Nat) : Int) (i : Int) = some r ∧ (r = true ↔ a.drop i = b.drop i)
 | 0, i, h => by
  refine ⟨true, ?_, by simp [List.drop_eq_nil_of_le (show a.length ≤ i by omega), List.drop_eq_nil_of_le (show b.length ≤ i by omega)]⟩
  apply qvb;rw [q00 (by omega)]
  rfl
 | n + 1, i, h => by
  have h1 : i < a.length := by omega
  have h2 : i < b.length := by omega
  obtain ⟨r, e1, e2⟩ := qdz hl hab n (i + 1) (by omega)
  rw [qj6 h1 h2];by_cases hx : a[i] = b[i]
  ·refine ⟨r, ?_, by rw [e2]; simp [hx]⟩
   apply qvb;rw [q03 (by omega), q0v (by omega) (show a[((i : Nat) : Int).toNat]? = some a[i] by simp), q0v (by omega) (show b[((i : Nat) : Int).toNat]? = some b[i] by simp), hx, q0d, q02 (by omega)]
   simp only [cond_true, cond_false];exact e1
  ·refine ⟨false, ?_, by simp [hx]⟩
   apply qvb;rw [q03 (by omega), q0v (by omega) (show a[((i : Nat) : Int).toNat]? = some a[i] by simp), q0v (by omega) (show b[((i : Nat) : Int).toNat]? = some b[i] by simp), q0s hx]
   rfl
theorem qwk {a b : List Int} (hl : a.length < 1152921504606846976) : ∃ r, z69 a b = some r ∧ (r = true ↔ a = b) := by
 by_cases hab : a.length = b.length
 ·obtain ⟨r, e1, e2⟩ := qdz hl hab a.length 0 (by omega)
  refine ⟨r, ?_, by simpa using e2⟩
  apply y0i;rw [← hab, q0d];exact e1
 ·refine ⟨false, ?_, by simp; rintro rfl; exact hab rfl⟩
  apply y0i;rw [q0s (by omega)]
  rfl
theorem y23 : ∀ a : Trust, Small a → ∀ b : Trust, ∃ r, z4x a b = some r ∧ (r = true ↔ a = b) := by
 apply Trust.ind;intro a ih ha b;have hn := ha.nodes;have hi := ha.inner;obtain ⟨ta, na, ia⟩ := a;obtain ⟨tb, nb, ib⟩ := b;simp only at hn hi ih;by_cases ht : ta = tb
 ·obtain ⟨r1, e1, e2⟩ := qwk (b := nb) (show na.length < 1152921504606846976 by omega)
  cases r1 with
  | false =>
   have : na ≠ nb := fun e => by have := e2.2 e; cases this
   refine ⟨false, ?_, by simp [this]⟩
   apply qrg;simp only [ht, q0d, cond_false, e1, Option.bind_some, Bool.not_false, cond_true]
  | true =>
   have hnn : na = nb := e2.1 rfl;by_cases hl : ia.length = ib.length
   ·have l1 : ∀ (n i : Nat), i + n = ia.length → ∃ r, z3b ((ia.length : Nat) : Int) (i : Int) ta na ia tb nb ib = some r ∧ (r = true ↔ ia.drop i = ib.drop i) := by
     intro n;induction n with
     | zero =>
      intro i h;refine ⟨true, ?_, by simp [List.drop_eq_nil_of_le (show ia.length ≤ i by omega), List.drop_eq_nil_of_le (show ib.length ≤ i by omega)]⟩
      apply qz9;rw [q00 (by omega)]
      rfl
     | succ n ihn =>
      intro i h;have h1 : i < ia.length := by omega
      have h2 : i < ib.length := by omega
      obtain ⟨r, g1, g2⟩ := ihn (i + 1) (by omega)
      obtain ⟨q, g3, g4⟩ := ih ia[i] (List.getElem_mem h1) (ha.mem (List.getElem_mem h1)) ib[i];rw [qj6 h1 h2];have step : ∀ res, (bif (!q) then some false else z3b ((ia.length : Nat) : Int) ((i + 1 : Nat) : Int) ta na ia tb nb ib) = some res → z3b ((ia.length : Nat) : Int) (i : Int) ta na ia tb nb ib = some res := by
       intro res hres;apply qz9;rw [q03 (by omega), q0v (by omega) (show ia[((i : Nat) : Int).toNat]? = some ia[i] by simp), q0v (by omega) (show ib[((i : Nat) : Int).toNat]? = some ib[i] by simp), g3, q02 (by omega)]
       exact hres
      cases q with
      | true =>
       have he := g4.1 rfl;exact ⟨r, step r g1, by rw [g2]; simp [he]⟩
      | false =>
       have he : ia[i] ≠ ib[i] := fun e => by have := g4.2 e; cases this
       exact ⟨false, step false rfl, by simp [he]⟩
    obtain ⟨r, g1, g2⟩ := l1 ia.length 0 (by omega)
    refine ⟨r, ?_, by rw [g2]; simp [ht, hnn]⟩
    apply qrg;subst ht;simp only [q0d, cond_false, e1, Option.bind_some, Bool.not_true, ← hl];exact g1
   ·refine ⟨false, ?_, by simp; intro _ _ e; exact hl (by rw [e])⟩
    apply qrg;simp only [ht, q0d, cond_false, e1, Option.bind_some, Bool.not_true];rw [q0s (by omega)]
    rfl
 ·refine ⟨false, ?_, by simp [ht]⟩
  apply qrg;simp only [q0s ht, cond_true]
end Go.Proofs.YtbmelgbadedbbaaGreat
