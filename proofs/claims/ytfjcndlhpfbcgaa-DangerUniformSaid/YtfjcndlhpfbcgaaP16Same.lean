/- Equality of trusts and configurations. -/
import Derived.Test.YtfjcndlhpfbcgaaP16Sets
namespace Go.Proofs.Ytfjcndlhpfbcgaa
open Go Go.Ab
theorem drop_iff {α : Type} {a b : List α} {i : Nat} (h1 : i < a.length) (h2 : i < b.length) : a.drop i = b.drop i ↔ a[i] = b[i] ∧ a.drop (i + 1) = b.drop (i + 1) := by
  rw [List.drop_eq_getElem_cons h1, List.drop_eq_getElem_cons h2, List.cons.injEq]
end Go.Proofs.Ytfjcndlhpfbcgaa
