/- Sorting: the shifts of partialInsertionSort. -/
import Derived.Test.YtfjcndlhpfbcgaaGreatZ16Sort7
namespace Go.Proofs.YtfjcndlhpfbcgaaGreat
open Go Go.Ab Go.Sort
section
variable {cmp : Int → Int → Int} (hc : ∀ x y, z08 x y = some (cmp x y))
include hc
theorem pi_l5 (a b i s : Nat) (hb : b < 1152921504606846976) (hs : s < 1000) : ∀ (n j : Nat) (d : Array Int), b ≤ j + n → 1 ≤ j → b ≤ d.size → Lim d →
    Le (z03 (a : Int) (b : Int) (i : Int) ((s + 1 : Nat) : Int) (shiftUp (fun x y => ltB (cmp x y) 0) b j d).toList) (z05 (a : Int) (b : Int) (i : Int) (s : Int) (j : Int) d.toList)
  | n, j, d, hn, hj, hbd, hd => fun r hr => by
    have hd' : d.size < 1152921504606846976 := hd
    apply y1t
    rw [shiftUp] at hr
    by_cases h : j < b
    · obtain ⟨n, rfl⟩ : ∃ m, n = m + 1 := ⟨n - 1, by omega⟩
      have bj : j < d.size := by omega
      have bp : j - 1 < d.size := by omega
      have e1 : subI .i64 (j : Int) 1 = ((j - 1 : Nat) : Int) := by rw [q1v (by omega) (by omega)]; omega
      simp only [q05 (show (j : Int) < (b : Int) by omega), cond_true, e1, Int.toNat_natCast, nthA bj, nthA bp, nthNA bj, nthNA bp, hc, Option.bind_some, nthS _ bp, nthNS _ bp, q1b, q04 (show j < 4611686018427387904 by omega), q04 (show s < 4611686018427387904 by omega)]
      cases hl : ltB (cmp d[j]! d[j - 1]!) 0 with
      | true =>
        simp only [Bool.not_true, cond_false]
        refine pi_l5 a b i s hb hs n (j + 1) (swp d j (j - 1)) (by omega) (by omega) (by rw [q0q]; exact hbd) (by unfold Lim; rw [q0q]; exact hd) r ?_
        simpa [h, hl] using hr
      | false =>
        simp only [Bool.not_false, cond_true]
        simpa [h, hl] using hr
    · rw [q02 (by omega), q04 (by omega)]
      simpa [h] using hr
theorem pi_l4 (a b i s : Nat) (hi : i < 1152921504606846976) (hs : s < 1000) : ∀ (j : Nat) (d : Array Int), j < d.size → Lim d →
    Le (bif (leB 2 (subI .i64 (b : Int) (i : Int))) then z05 (a : Int) (b : Int) (i : Int) (s : Int) ((i + 1 : Nat) : Int) (shiftDown (fun x y => ltB (cmp x y) 0) j d).toList
      else z03 (a : Int) (b : Int) (i : Int) ((s + 1 : Nat) : Int) (shiftDown (fun x y => ltB (cmp x y) 0) j d).toList) (z07 (a : Int) (b : Int) (i : Int) (s : Int) (j : Int) d.toList)
  | 0, d, hj, hd => fun r hr => by
    apply qyk
    rw [q0a (show ((0 : Nat) : Int) < 1 by omega), q04 (show i < 4611686018427387904 by omega), q04 (show s < 4611686018427387904 by omega)]
    exact hr
  | j + 1, d, hj, hd => fun r hr => by
    have hd' : d.size < 1152921504606846976 := hd
    have bp : j < d.size := by omega
    apply qyk
    rw [shiftDown] at hr
    simp only [q0f (show (1 : Int) ≤ ((j + 1 : Nat) : Int) by omega), cond_true, qd8 (show j < 4611686018427387904 by omega), Int.toNat_natCast, nthA hj, nthA bp, nthNA hj, nthNA bp, hc, Option.bind_some, nthS _ bp, nthNS _ bp, q1b, q04 (show i < 4611686018427387904 by omega), q04 (show s < 4611686018427387904 by omega)]
    cases hl : ltB (cmp d[j + 1]! d[j]!) 0 with
    | true =>
      simp only [Bool.not_true, cond_false]
      refine pi_l4 a b i s hi hs j (swp d (j + 1) j) (by rw [q0q]; omega) (by unfold Lim; rw [q0q]; exact hd) r ?_
      simpa only [hl, Bool.not_true, Bool.false_eq_true, if_false] using hr
    | false =>
      simp only [Bool.not_false, cond_true]
      simpa only [hl, Bool.not_false, if_true] using hr
end
end Go.Proofs.YtfjcndlhpfbcgaaGreat
