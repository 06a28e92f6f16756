/- Who blocks a member; the y03: what both texts compute, and what it means. -/
import Derived.Test.YtfjcndlhpfbcgaaGreatZ16Quor
import Derived.Test.YtfjcndlhpfbcgaaGreatZ16Prog
namespace Go.Proofs.YtfjcndlhpfbcgaaGreat
open Go Go.Ab
theorem or_lt {a b : Nat} (ha : a < 1024) (hb : b < 1024) : a ||| b < 1024 := Nat.or_lt_two_pow (n := 10) ha hb
theorem q2k {a b : Nat} (ha : a < 1024) : ndiff a b < 1024 := qpi (n := 10) ha
theorem y0s {a b : Nat} (ha : a < 1024) : a &&& b < 1024 := Nat.lt_of_le_of_lt Nat.and_le_left ha
theorem y0j {k : Nat} (h : k < 10) : 2 ^ k < 1024 := Nat.pow_lt_pow_right (a := 2) (by decide) h
theorem qf4 {k i : Nat} : (2 ^ k).testBit i = decide (k = i) := Nat.testBit_two_pow ..
theorem Sub.or {a b c : Nat} (h : Sub a c) (h' : Sub b c) : Sub (a ||| b) c := fun i hi => by
  rw [Nat.testBit_or, Bool.or_eq_true] at hi
  exact hi.elim (h i) (h' i)
theorem Sub.left {a b : Nat} : Sub a (a ||| b) := fun i hi => by simp [Nat.testBit_or, hi]
theorem Sub.right {a b : Nat} : Sub b (a ||| b) := fun i hi => by simp [Nat.testBit_or, hi]
theorem Sub.pow {k b : Nat} (h : b.testBit k = true) : Sub (2 ^ k) b := fun i hi => by
  rw [qf4, decide_eq_true_eq] at hi; subst hi; exact h
def blk (c : Config) (v s : Nat) : Bool := (decl c).testBit v && !sat (ndiff 1023 s ||| 2 ^ v) (tr c v)
def nextv (c : Config) (s : Nat) : Option Nat := (nodes (ndiff (decl c) s)).find? fun k => blk c k s
def casc (c : Config) : Nat → Nat → List Nat × Nat
  | 0, s => ([], s)
  | n + 1, s => match nextv c s with
    | none => ([], s)
    | some k => (k :: (casc c n (s ||| 2 ^ k)).1, (casc c n (s ||| 2 ^ k)).2)
def y03 (c : Config) (s : Nat) : List Nat × Nat := casc c (1024 - s) s
end Go.Proofs.YtfjcndlhpfbcgaaGreat
