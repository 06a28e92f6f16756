/- The tape, drawn trusts, deletion: walks and plain facts. -/
import Derived.Test.YtfjcndlhpfbcgaaP16Spec
namespace Go.Proofs.Ytfjcndlhpfbcgaa
open Go Go.Ab
theorem size_mk (thr : Int) (a : List Int) (b : List Trust) : size (Trust.mk thr a b) = a.length + b.length + sizes b := by simp only [size]
mutual
def below (m : Int) : Trust → Bool
  | ⟨_, nodes, inner⟩ => nodes.all (fun k => decide (0 ≤ k) && decide (k < m)) && belows m inner
def belows (m : Int) : List Trust → Bool
  | [] => true
  | x :: r => below m x && belows m r
end
theorem below_eq (m : Int) (t : Trust) : below m t = (t.Nodes.all (fun k => decide (0 ≤ k) && decide (k < m)) && belows m t.Inner) := by cases t; simp only [below]
theorem all_below {m : Int} {l : List Int} (h : ∀ x ∈ l, 0 ≤ x ∧ x < m) : l.all (fun k => decide (0 ≤ k) && decide (k < m)) = true := by
  rw [List.all_eq_true]; intro x hx; have := h x hx; simp [this.1, this.2]
theorem below_mk {m thr : Int} {a : List Int} {b : List Trust} (ha : ∀ x ∈ a, 0 ≤ x ∧ x < m) (hb : belows m b = true) : below m ⟨thr, a, b⟩ = true := by
  simp only [below, all_below ha, hb, Bool.and_self]
theorem has_zero (k : Int) : has 0 k = false := by simp [has]
theorem valid_one {v : Int} (h : inR v = true) : valid (Trust.mk 1 [v] []) = true := by
  simp [valid, depth, depths, size, sizes, good, goods, fresh, h, has_zero]
end Go.Proofs.Ytfjcndlhpfbcgaa
