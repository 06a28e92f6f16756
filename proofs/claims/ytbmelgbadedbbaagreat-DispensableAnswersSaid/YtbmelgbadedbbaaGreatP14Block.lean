/- Who blocks a member; the qwo: what both texts compute, and what it means. -/
import Derived.Test.YtbmelgbadedbbaaGreatP14Quor
import Derived.Test.YtbmelgbadedbbaaGreatP14Prog
namespace Go.Proofs.YtbmelgbadedbbaaGreat
open Go Go.Ab
theorem q6y {a b : Nat} (ha : a < 1024) : ndiff a b < 1024 := qrq (n := 10) ha
theorem y22 {a b : Nat} (ha : a < 1024) : a &&& b < 1024 := Nat.lt_of_le_of_lt Nat.and_le_left ha
theorem y36 {k : Nat} (h : k < 10) : 2 ^ k < 1024 := Nat.pow_lt_pow_right (a := 2) (by decide) h
theorem qn6 {i : Nat} : (1023 : Nat).testBit i = decide (i < 10) := by
 rw [show (1023 : Nat) = 2 ^ 10 - 1 from rfl, Nat.testBit_two_pow_sub_one]
theorem qf6 {k i : Nat} : (2 ^ k).testBit i = decide (k = i) := Nat.testBit_two_pow ..
theorem Sub.or {a b c : Nat} (h : Sub a c) (h' : Sub b c) : Sub (a ||| b) c := fun i hi => by
 rw [Nat.testBit_or, Bool.or_eq_true] at hi;exact hi.elim (h i) (h' i)
theorem Sub.left {a b : Nat} : Sub a (a ||| b) := fun i hi => by simp [Nat.testBit_or, hi]
theorem Sub.right {a b : Nat} : Sub b (a ||| b) := fun i hi => by simp [Nat.testBit_or, hi]
theorem qmi {s : Nat} {k : Int} (h : has s k = true) : ∃ n : Nat, k = (n : Int) ∧ n < 10 ∧ s.testBit n = true := by
 simp only [has, Bool.and_eq_true, decide_eq_true_eq] at h;exact ⟨k.toNat, by omega, by omega, h.2.2⟩
def blk (c : Config) (v s : Nat) : Bool := (decl c).testBit v && !sat (ndiff 1023 s ||| 2 ^ v) (tr c v)
def nextv (c : Config) (s : Nat) : Option Nat := (nodes (ndiff (decl c) s)).find? fun k => blk c k s
def casc (c : Config) : Nat → Nat → List Nat × Nat
 | 0, s => ([], s)
 | n + 1, s => match nextv c s with
  | none => ([], s)
  | some k => (k :: (casc c n (s ||| 2 ^ k)).1, (casc c n (s ||| 2 ^ k)).2)
def qwo (c : Config) (s : Nat) : List Nat × Nat := casc c (1024 - s) s
end Go.Proofs.YtbmelgbadedbbaaGreat
