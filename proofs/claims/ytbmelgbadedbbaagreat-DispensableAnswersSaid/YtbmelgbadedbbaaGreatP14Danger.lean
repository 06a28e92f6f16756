/- Danger: what splits and what halts, in both texts; the least such sets; what is tolerated. -/
import Derived.Test.YtbmelgbadedbbaaGreatP14Inter
namespace Go.Proofs.YtbmelgbadedbbaaGreat
open Go Go.Ab Go.Sort
def q89 (c : Config) (s : Nat) : Bool := twoB (delC s c)
theorem ValidC.cerr {c : Config} (h : ValidC c) : cerr c = 0 := q1g.2 h
theorem q2l {n s : Nat} (hn : n ≤ 10) (hs : s < 2 ^ n) : s < 1024 := by have := pow10 hn; omega
def askE (c : Config) (z : Int) : Int := if cerr c ≠ 0 then cerr c else if z < 0 then 1 else if ((2 ^ c.Members.length - 1 : Nat) : Int) < z then 1 else 0
theorem q8r {c : Config} {z : Int} (h : askE c z = 0) : ValidC c ∧ ∃ s : Nat, z = (s : Int) ∧ s < 2 ^ c.Members.length := by
 unfold askE at h;have hp1 := Nat.two_pow_pos c.Members.length;split at h
 ·rename_i h1; exact absurd h h1
 ·rename_i h1;refine ⟨q1g.1 (Classical.not_not.1 h1), z.toNat, ?_, ?_⟩
  ·split at h
   ·omega
   ·omega
  ·split at h
   ·omega
   ·split at h <;> omega
theorem qjw {c : Config} (hv : ValidC c) {s : Nat} (hs : s < 2 ^ c.Members.length) : askE c (s : Int) = 0 := by
 unfold askE;rw [hv.cerr, if_neg (by simp), if_neg (by omega), if_neg (by omega)]
end Go.Proofs.YtbmelgbadedbbaaGreat
