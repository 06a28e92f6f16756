/- Slices of a trust, sets that meet a list, the least sets that block. -/
import Derived.Test.YtflmdbdigoeclaaP10Errs
import Derived.Test.YtflmdbdigoeclaaP10Block
import Derived.Test.YtflmdbdigoeclaaP10Least
namespace Go.Proofs.Ytflmdbdigoeclaa
open Go Go.Ab Go.Sort
def pick (p : Nat → Bool) (n : Nat) : List Nat := (List.range n).filter p
theorem pick_succ (p : Nat → Bool) (n : Nat) : pick p (n + 1) = if p n = true then pick p n ++ [n] else pick p n := by
  unfold pick
  rw [List.range_succ, List.filter_append]
  by_cases h : p n = true <;> simp [h]
theorem mem_pick {p : Nat → Bool} {n s : Nat} : s ∈ pick p n ↔ s < n ∧ p s = true := by simp [pick]
theorem pick_len (p : Nat → Bool) (n : Nat) : (pick p n).length ≤ n := by
  have := List.length_filter_le p (List.range n)
  simpa [pick] using this
theorem neB_nat (a : Nat) : neB (a : Int) 0 = (a != 0) := by
  by_cases h : a = 0
  · subst h; rfl
  · rw [neB_ne (by omega)]; simp [h]
theorem eqB_nat (a : Nat) : eqB (a : Int) 0 = (a == 0) := by
  by_cases h : a = 0
  · subst h; rfl
  · rw [eqB_ne (by omega)]; simp [h]
theorem map_drop_cons {l : List Nat} {i k : Nat} {suf : List Nat} (h : l.drop i = k :: suf) : (l.map Int.ofNat).drop i = (k : Int) :: suf.map Int.ofNat := by
  rw [← List.map_drop, h]; rfl
theorem drop_pre {pre suf l : List Nat} (h : l = pre ++ suf) : l.drop pre.length = suf := by rw [h]; simp
theorem sub_le {a b : Nat} (h : Sub a b) : a ≤ b := by
  rw [← sub_iff.1 h]; exact Nat.and_le_right
theorem LeastOf.of {l l' out : List Nat} (h : LeastOf l out) (hm : ∀ s, Mins l s ↔ Mins l' s) : LeastOf l' out := ⟨h.1, fun s => by rw [h.2, hm]⟩
end Go.Proofs.Ytflmdbdigoeclaa
