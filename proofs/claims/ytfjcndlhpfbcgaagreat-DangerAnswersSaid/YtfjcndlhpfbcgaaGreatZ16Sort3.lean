/- Sorting: heapSort. -/
import Derived.Test.YtfjcndlhpfbcgaaGreatZ16Sort2
namespace Go.Proofs.YtfjcndlhpfbcgaaGreat
open Go Go.Ab Go.Sort
section
variable {cmp : Int → Int → Int} (hc : ∀ x y, z08 x y = some (cmp x y))
include hc
theorem qum (first : Nat) : ∀ (k : Nat) (d : Array Int), first + k ≤ d.size → d.size < 1152921504606846976 →
    z0r (first : Int) 0 ((k : Int) - 1) d.toList = some (heapPop (fun x y => ltB (cmp x y) 0) first k d).toList
  | 0, d, hs, hd => by
    apply qyp
    rw [q0a (by omega)]
    rfl
  | k + 1, d, hs, hd => by
    apply qyp
    have e0 : ((k + 1 : Nat) : Int) - 1 = (k : Int) := by omega
    have e1 := addN (x := first) (y := k) (by omega)
    have b1 : first + k < d.size := by omega
    have b2 : first < d.size := by omega
    have e2 : subI .i64 (k : Int) 1 = (k : Int) - 1 := q1v (by omega) (by omega)
    have s1 := qsj hc 0 k first (swp d first (first + k)) (by omega) (by rw [q0q]; omega) (by rw [q0q]; exact hd)
    have ih := qum first k (siftDown (fun x y => ltB (cmp x y) 0) k first 0 (swp d first (first + k))) (by rw [q6w k _ _ _ _ (by omega), q0q]; omega) (by rw [q6w k _ _ _ _ (by omega), q0q]; exact hd)
    simp only [e0, q0f (show (0 : Int) ≤ (k : Int) by omega), cond_true, e1, Int.toNat_natCast, nthA b1, nthA b2, nthNA b1, nthNA b2, nthS _ b1, nthNS _ b1, q1b, e2]
    rw [show (0 : Int) = ((0 : Nat) : Int) from rfl, s1]
    simp only [Option.bind_some]
    rw [heapPop]
    exact ih
theorem qtq (first hi : Nat) : ∀ (k : Nat) (d : Array Int), k ≤ hi + 1 → first + hi ≤ d.size → d.size < 1152921504606846976 →
    z0q (first : Int) 0 (hi : Int) ((k : Int) - 1) d.toList = some (heapPop (fun x y => ltB (cmp x y) 0) first hi (heapBuild (fun x y => ltB (cmp x y) 0) hi first k d)).toList
  | 0, d, hk, hs, hd => by
    apply qxb
    have e : subI .i64 (hi : Int) 1 = (hi : Int) - 1 := q1v (by omega) (by omega)
    rw [q0a (by omega), cond_false, e]
    exact qum hc first hi d hs hd
  | k + 1, d, hk, hs, hd => by
    apply qxb
    have e0 : ((k + 1 : Nat) : Int) - 1 = (k : Int) := by omega
    have e2 : subI .i64 (k : Int) 1 = (k : Int) - 1 := q1v (by omega) (by omega)
    have s1 := qsj hc k hi first d (by omega) hs hd
    have ih := qtq first hi k (siftDown (fun x y => ltB (cmp x y) 0) hi first k d) (by omega) (by rw [q6w hi _ _ _ _ (by omega)]; exact hs) (by rw [q6w hi _ _ _ _ (by omega)]; exact hd)
    simp only [e0, q0f (show (0 : Int) ≤ (k : Int) by omega), cond_true, s1, Option.bind_some, e2]
    rw [heapBuild]
    exact ih
theorem y08 (a b : Nat) (d : Array Int) (hab : a ≤ b) (hbd : b ≤ d.size) (hd : d.size < 1152921504606846976) :
    z19 (a : Int) (b : Int) d.toList = some (heapSort (fun x y => ltB (cmp x y) 0) d a b).toList := by
  apply y2h
  have e1 := subN hab (show b < 4611686018427387904 by omega)
  have e2 : subI .i64 ((b - a : Nat) : Int) 1 = ((b - a : Nat) : Int) - 1 := q1v (by omega) (by omega)
  have e3 : quoI .i64 (((b - a : Nat) : Int) - 1) 2 = (((b - a - 1) / 2 + 1 : Nat) : Int) - 1 := by
    show IntKind.wrap .i64 ((((b - a : Nat) : Int) - 1).tdiv 2) = _
    have : (((b - a : Nat) : Int) - 1).tdiv 2 = (((b - a - 1) / 2 : Nat) : Int) := by
      by_cases h0 : b - a = 0
      · rw [h0]; rfl
      · rw [show (((b - a : Nat) : Int) - 1) = ((b - a - 1 : Nat) : Int) by omega]
        rfl
    rw [this, q4s (by omega) (by omega)]
    omega
  rw [e1, e2, e3]
  exact qtq hc a (b - a) _ d (by omega) (by omega) hd
end
end Go.Proofs.YtfjcndlhpfbcgaaGreat
