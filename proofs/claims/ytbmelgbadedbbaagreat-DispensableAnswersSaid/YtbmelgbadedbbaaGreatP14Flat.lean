/- A flat trust: so many of the first nodes; numbers of nodes. -/
import Derived.Test.YtbmelgbadedbbaaGreatP14Uni
namespace Go.Proofs.YtbmelgbadedbbaaGreat
open Go Go.Ab Go.Sort
def ints' (n : Nat) : List Int := (List.range n).map Int.ofNat
def flat (n k : Nat) : Trust := ⟨(k : Int), ints' n, []⟩
theorem qlx {a b : Nat} (ha : a < 1024) (hb : b < 1024) (h : Sub a b) (he : pc a = pc b) : a = b := by
 obtain ⟨_, h2⟩ := qct h 10 0;apply Nat.eq_of_testBit_eq;intro i;by_cases hi : i < 10
 ·exact h2 he i (by omega) (by omega)
 ·have : ∀ z : Nat, z < 1024 → z.testBit i = false := fun z hz => by
   cases hbz : z.testBit i with
   | false => rfl
   | true => exact absurd (q5p hz hbz) hi
  rw [this a ha, this b hb]
theorem qux {a b : Nat} (h : Sub a b) : pc a ≤ pc b := (qct h 10 0).1
end Go.Proofs.YtbmelgbadedbbaaGreat
