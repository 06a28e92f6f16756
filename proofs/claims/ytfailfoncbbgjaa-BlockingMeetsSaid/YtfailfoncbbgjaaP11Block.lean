/- Who blocks a member; the cascade: what both texts compute, and what it means. -/
import Derived.Test.YtfailfoncbbgjaaP11Quor
import Derived.Test.YtfailfoncbbgjaaP11Prog
namespace Go.Proofs.Ytfailfoncbbgjaa
open Go Go.Ab
theorem or_lt {a b : Nat} (ha : a < 1024) (hb : b < 1024) : a ||| b < 1024 := Nat.or_lt_two_pow (n := 10) ha hb
theorem ndiff_lt' {a b : Nat} (ha : a < 1024) : ndiff a b < 1024 := ndiff_lt (n := 10) ha
theorem pow_lt' {k : Nat} (h : k < 10) : 2 ^ k < 1024 := Nat.pow_lt_pow_right (a := 2) (by decide) h
theorem testBit_all {i : Nat} : (1023 : Nat).testBit i = decide (i < 10) := by
  rw [show (1023 : Nat) = 2 ^ 10 - 1 from rfl, Nat.testBit_two_pow_sub_one]
theorem testBit_pow {k i : Nat} : (2 ^ k).testBit i = decide (k = i) := Nat.testBit_two_pow ..
theorem Sub.left {a b : Nat} : Sub a (a ||| b) := fun i hi => by simp [Nat.testBit_or, hi]
theorem Sub.right {a b : Nat} : Sub b (a ||| b) := fun i hi => by simp [Nat.testBit_or, hi]
theorem has_of {s : Nat} {k : Int} (h : has s k = true) : ∃ n : Nat, k = (n : Int) ∧ n < 10 ∧ s.testBit n = true := by
  simp only [has, Bool.and_eq_true, decide_eq_true_eq] at h
  exact ⟨k.toNat, by omega, by omega, h.2.2⟩
def blk (c : Config) (v s : Nat) : Bool := (decl c).testBit v && !sat (ndiff 1023 s ||| 2 ^ v) (tr c v)
theorem blocks_ok {c : Config} (hc : SmallC c) {s : Nat} (hs : s < 1024) (v : Int) : blocking_Blocks c v s = some (decide (0 ≤ v) && blk c v.toNat s) := by
  apply blocking_Blocks_le
  rw [nodeset_Valid_ok hs]
  simp only [Option.bind_some, Bool.not_true, cond_false]
  rw [pdeclared_ok c hc.1]
  simp only [Option.bind_some]
  rw [nodeset_Has_ok (decl_lt c)]
  simp only [Option.bind_some]
  by_cases hh : has (decl c) v = true
  · obtain ⟨n, rfl, hn, hb⟩ := has_of hh
    obtain ⟨m, h1, h2, _⟩ := member_of hb
    have h3 : ndiff 1023 s ||| 2 ^ n < 1024 := or_lt (ndiff_lt' (by decide)) (pow_lt' hn)
    have hp := pow_lt' hn
    rw [hh, chk_true (by omega), nth_get (by omega) (by simpa using h1), shl1 (by omega) (by omega)]
    simp only [Bool.not_true, cond_false, Int.toNat_natCast]
    have e1 : andNotI .i64 1023 (s : Int) = ((ndiff 1023 s : Nat) : Int) := andNotI_nat (a := 1023) (by decide) (by omega)
    rw [e1, orI_nat (by have := ndiff_lt' (a := 1023) (b := s) (by decide); omega) (by omega), psatisfied_ok h3 m.Trust (hc.2 m (List.mem_of_getElem? h1))]
    simp [blk, hb, h2]
  · have hf : has (decl c) v = false := by simpa using hh
    rw [hf]
    simp only [Bool.not_false, cond_true]
    symm
    congr 1
    by_cases h0 : 0 ≤ v
    · have : (decl c).testBit v.toNat = false := by
        by_cases h1 : v < 10
        · simpa [has, h0, h1] using hf
        · cases hb : (decl c).testBit v.toNat with
          | false => rfl
          | true => have := bit_lt_of (decl_lt c) hb; omega
      simp [blk, this]
    · simp [h0]
theorem blocks_nat {c : Config} (hc : SmallC c) {s : Nat} (hs : s < 1024) (v : Nat) : blocking_Blocks c (v : Int) s = some (blk c v s) := by rw [blocks_ok hc hs]; simp
theorem blk_self {c : Config} {v s : Nat} : blk c v (s ||| 2 ^ v) = blk c v s := by
  simp only [blk]
  congr 3
  apply Nat.eq_of_testBit_eq
  intro i
  simp only [Nat.testBit_or, testBit_ndiff, testBit_pow]
  by_cases h : v = i <;> simp [h]
def nextv (c : Config) (s : Nat) : Option Nat := (nodes (ndiff (decl c) s)).find? fun k => blk c k s
def casc (c : Config) : Nat → Nat → List Nat × Nat
  | 0, s => ([], s)
  | n + 1, s => match nextv c s with
    | none => ([], s)
    | some k => (k :: (casc c n (s ||| 2 ^ k)).1, (casc c n (s ||| 2 ^ k)).2)
def cascade (c : Config) (s : Nat) : List Nat × Nat := casc c (1024 - s) s
end Go.Proofs.Ytfailfoncbbgjaa
