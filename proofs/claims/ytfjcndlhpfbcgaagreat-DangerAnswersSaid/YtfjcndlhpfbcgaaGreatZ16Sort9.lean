/- Sorting: the scan of partialInsertionSort. -/
import Derived.Test.YtfjcndlhpfbcgaaGreatZ16Sort8
namespace Go.Proofs.YtfjcndlhpfbcgaaGreat
open Go Go.Ab Go.Sort
section
variable {cmp : Int → Int → Int} (hc : ∀ x y, z08 x y = some (cmp x y))
include hc
theorem pi_l3 (a b s : Nat) (hs : s < 1000) (d : Array Int) (hab : a ≤ b) (hb : b ≤ d.size) (hd : Lim d) : ∀ (n i : Nat), b ≤ i + n → a + 1 ≤ i → i ≤ b →
    Le (let i2 := scanSorted (fun x y => ltB (cmp x y) 0) d b i
      if i2 = b then some (true, d.toList) else if b - a < 50 then some (false, d.toList) else
        bif (leB 2 (subI .i64 (i2 : Int) (a : Int))) then z07 (a : Int) (b : Int) (i2 : Int) (s : Int) ((i2 - 1 : Nat) : Int) (swp d i2 (i2 - 1)).toList
        else bif (leB 2 (subI .i64 (b : Int) (i2 : Int))) then z05 (a : Int) (b : Int) (i2 : Int) (s : Int) ((i2 + 1 : Nat) : Int) (swp d i2 (i2 - 1)).toList
        else z03 (a : Int) (b : Int) (i2 : Int) ((s + 1 : Nat) : Int) (swp d i2 (i2 - 1)).toList)
      (z0i (a : Int) (b : Int) (i : Int) (s : Int) d.toList)
  | n, i, hn, hi, hib => fun r hr => by
    have hd' : d.size < 1152921504606846976 := hd
    dsimp only at hr
    apply y23
    rw [scanSorted] at hr
    have eb : subI .i64 (b : Int) (a : Int) = ((b - a : Nat) : Int) := subN hab (by omega)
    by_cases h : i < b
    · obtain ⟨n, rfl⟩ : ∃ m, n = m + 1 := ⟨n - 1, by omega⟩
      have bi : i < d.size := by omega
      have bp : i - 1 < d.size := by omega
      have e1 : subI .i64 (i : Int) 1 = ((i - 1 : Nat) : Int) := by rw [q1v (by omega) (by omega)]; omega
      simp only [q05 (show (i : Int) < (b : Int) by omega), cond_true, e1, eb, Int.toNat_natCast, nthA bi, nthA bp, nthNA bi, nthNA bp, hc, Option.bind_some, nthS _ bp, nthNS _ bp, q1b, q04 (show i < 4611686018427387904 by omega), q04 (show s < 4611686018427387904 by omega)]
      cases hl : ltB (cmp d[i]! d[i - 1]!) 0 with
      | false =>
        simp only [Bool.not_false, cond_true]
        refine pi_l3 a b s hs d hab hb hd n (i + 1) (by omega) (by omega) (by omega) r ?_
        simpa only [hl, h, decide_true, Bool.not_false, Bool.and_self, if_true] using hr
      | true =>
        simp only [Bool.not_true, cond_false, q0z (show (i : Int) ≠ (b : Int) by omega)]
        simp only [hl, Bool.not_true, Bool.and_false, Bool.false_eq_true, if_false, if_neg (show i ≠ b by omega)] at hr
        by_cases h50 : b - a < 50
        · rw [if_pos h50] at hr
          rw [q05 (show ((b - a : Nat) : Int) < 50 by omega)]
          exact hr
        · rw [if_neg h50] at hr
          rw [q02 (show (50 : Int) ≤ ((b - a : Nat) : Int) by omega)]
          exact hr
    · have hib' : i = b := by omega
      subst hib'
      rw [q02 (by omega)]
      simp only [cond_false, q0t, cond_true]
      simpa [h] using hr
theorem pi_l2 (a b s : Nat) (hs : s < 1000) (d : Array Int) (hab : a ≤ b) (hb : b ≤ d.size) (hd : Lim d) : ∀ (n i : Nat), b ≤ i + n → a + 1 ≤ i → i ≤ b →
    Le (let i2 := scanSorted (fun x y => ltB (cmp x y) 0) d b i
      if i2 = b then some (true, d.toList) else if b - a < 50 then some (false, d.toList) else
        bif (leB 2 (subI .i64 (i2 : Int) (a : Int))) then z07 (a : Int) (b : Int) (i2 : Int) (s : Int) ((i2 - 1 : Nat) : Int) (swp d i2 (i2 - 1)).toList
        else bif (leB 2 (subI .i64 (b : Int) (i2 : Int))) then z05 (a : Int) (b : Int) (i2 : Int) (s : Int) ((i2 + 1 : Nat) : Int) (swp d i2 (i2 - 1)).toList
        else z03 (a : Int) (b : Int) (i2 : Int) ((s + 1 : Nat) : Int) (swp d i2 (i2 - 1)).toList)
      (z0v (a : Int) (b : Int) (i : Int) (s : Int) true d.toList)
  | n, i, hn, hi, hib => fun r hr => by
    have hd' : d.size < 1152921504606846976 := hd
    dsimp only at hr
    apply y3z
    rw [scanSorted] at hr
    have eb : subI .i64 (b : Int) (a : Int) = ((b - a : Nat) : Int) := subN hab (by omega)
    by_cases h : i < b
    · obtain ⟨n, rfl⟩ : ∃ m, n = m + 1 := ⟨n - 1, by omega⟩
      have bi : i < d.size := by omega
      have bp : i - 1 < d.size := by omega
      have e1 : subI .i64 (i : Int) 1 = ((i - 1 : Nat) : Int) := by rw [q1v (by omega) (by omega)]; omega
      simp only [q05 (show (i : Int) < (b : Int) by omega), cond_true, e1, eb, Int.toNat_natCast, nthA bi, nthA bp, nthNA bi, nthNA bp, hc, Option.bind_some, nthS _ bp, nthNS _ bp, q1b, q04 (show i < 4611686018427387904 by omega), q04 (show s < 4611686018427387904 by omega)]
      cases hl : ltB (cmp d[i]! d[i - 1]!) 0 with
      | false =>
        simp only [Bool.not_false, cond_true]
        refine pi_l3 hc a b s hs d hab hb hd n (i + 1) (by omega) (by omega) (by omega) r ?_
        simpa only [hl, h, decide_true, Bool.not_false, Bool.and_self, if_true] using hr
      | true =>
        simp only [Bool.not_true, cond_false, q0z (show (i : Int) ≠ (b : Int) by omega)]
        simp only [hl, Bool.not_true, Bool.and_false, Bool.false_eq_true, if_false, if_neg (show i ≠ b by omega)] at hr
        by_cases h50 : b - a < 50
        · rw [if_pos h50] at hr
          rw [q05 (show ((b - a : Nat) : Int) < 50 by omega)]
          exact hr
        · rw [if_neg h50] at hr
          rw [q02 (show (50 : Int) ≤ ((b - a : Nat) : Int) by omega)]
          exact hr
    · have hib' : i = b := by omega
      subst hib'
      rw [q02 (by omega)]
      simp only [cond_false, q0t, cond_true]
      simpa [h] using hr
end
end Go.Proofs.YtfjcndlhpfbcgaaGreat
