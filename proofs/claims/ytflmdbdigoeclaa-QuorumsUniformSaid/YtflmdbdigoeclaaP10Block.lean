/- Who blocks a member; the cascade: what both texts compute, and what it means. -/
import Derived.Test.YtflmdbdigoeclaaP10Quor
import Derived.Test.YtflmdbdigoeclaaP10Prog
namespace Go.Proofs.Ytflmdbdigoeclaa
open Go Go.Ab
theorem or_lt {a b : Nat} (ha : a < 1024) (hb : b < 1024) : a ||| b < 1024 := Nat.or_lt_two_pow (n := 10) ha hb
theorem pow_lt' {k : Nat} (h : k < 10) : 2 ^ k < 1024 := Nat.pow_lt_pow_right (a := 2) (by decide) h
theorem testBit_pow {k i : Nat} : (2 ^ k).testBit i = decide (k = i) := Nat.testBit_two_pow ..
theorem Sub.left {a b : Nat} : Sub a (a ||| b) := fun i hi => by simp [Nat.testBit_or, hi]
theorem Sub.right {a b : Nat} : Sub b (a ||| b) := fun i hi => by simp [Nat.testBit_or, hi]
def blk (c : Config) (v s : Nat) : Bool := (decl c).testBit v && !sat (ndiff 1023 s ||| 2 ^ v) (tr c v)
def nextv (c : Config) (s : Nat) : Option Nat := (nodes (ndiff (decl c) s)).find? fun k => blk c k s
def casc (c : Config) : Nat → Nat → List Nat × Nat
  | 0, s => ([], s)
  | n + 1, s => match nextv c s with
    | none => ([], s)
    | some k => (k :: (casc c n (s ||| 2 ^ k)).1, (casc c n (s ||| 2 ^ k)).2)
def cascade (c : Config) (s : Nat) : List Nat × Nat := casc c (1024 - s) s
end Go.Proofs.Ytflmdbdigoeclaa
