/- Sorting: siftDown, heapSort. -/
import Derived.Test.YtfjcndlhpfbcgaaGreatZ16Sort
namespace Go.Proofs.YtfjcndlhpfbcgaaGreat
open Go Go.Ab Go.Sort
theorem addN {x y : Nat} (h : x + y < 4611686018427387904) : addI .i64 (x : Int) (y : Int) = ((x + y : Nat) : Int) := by
  rw [q1k (by omega) (by omega)]; omega
theorem mul2N {x : Nat} (h : x < 1152921504606846976) : mulI .i64 2 (x : Int) = ((2 * x : Nat) : Int) := by
  show IntKind.wrap .i64 (2 * (x : Int)) = _
  rw [q4s (by omega) (by omega)]; omega
theorem subN {x y : Nat} (h : y ≤ x) (hx : x < 4611686018427387904) : subI .i64 (x : Int) (y : Int) = ((x - y : Nat) : Int) := by
  rw [q1v (by omega) (by omega)]; omega
theorem q6w {lt : Int → Int → Bool} : ∀ (n hi first root : Nat) (d : Array Int), hi - root ≤ n → (siftDown lt hi first root d).size = d.size
  | n, hi, first, root, d, hn => by
    rw [siftDown]
    split
    · rfl
    · obtain ⟨n, rfl⟩ : ∃ m, n = m + 1 := ⟨n - 1, by omega⟩
      split
      · split
        · rfl
        · split
          · rw [q6w n _ _ _ _ (by omega), q0q]
          · rfl
      · split
        · rfl
        · rw [q6w n _ _ _ _ (by omega), q0q]
section
variable {cmp : Int → Int → Int} (hc : ∀ x y, z08 x y = some (cmp x y))
include hc
theorem qnd (hi first : Nat) : ∀ (n root : Nat) (d : Array Int), hi - root ≤ n → root ≤ hi → first + hi ≤ d.size → d.size < 1152921504606846976 →
    z0c (hi : Int) (first : Int) (root : Int) d.toList = some (siftDown (fun x y => ltB (cmp x y) 0) hi first root d).toList
  | n, root, d, hn, hr, hs, hd => by
    have e1 := mul2N (x := root) (by omega)
    have e2 : addI .i64 ((2 * root : Nat) : Int) 1 = ((2 * root + 1 : Nat) : Int) := q04 (by omega)
    have e3 : addI .i64 ((2 * root + 1 : Nat) : Int) 1 = ((2 * root + 2 : Nat) : Int) := q04 (by omega)
    have e4 := addN (x := first) (y := root) (by omega)
    apply y2k
    rw [siftDown]
    by_cases h1 : 2 * root + 1 ≥ hi
    · simp only [e1, e2, q0f (show (hi : Int) ≤ ((2 * root + 1 : Nat) : Int) by omega), cond_true, dif_pos h1]
    · obtain ⟨n, rfl⟩ : ∃ m, n = m + 1 := ⟨n - 1, by omega⟩
      have e5 := addN (x := first) (y := 2 * root + 1) (by omega)
      have b1 : first + root < d.size := by omega
      have b2 : first + (2 * root + 1) < d.size := by omega
      have low : ∀ res, (bif (!(ltB (cmp d[first + root]! d[first + (2 * root + 1)]!) 0)) then some d.toList else z0c (hi : Int) (first : Int) ((2 * root + 1 : Nat) : Int) (swp d (first + root) (first + (2 * root + 1))).toList) = res →
          (if !(fun x y => ltB (cmp x y) 0) d[first + root]! d[first + (2 * root + 1)]! then d else siftDown (fun x y => ltB (cmp x y) 0) hi first (2 * root + 1) (swp d (first + root) (first + (2 * root + 1)))).toList = (res.getD []) ∧ res ≠ none := by
        intro res hres
        cases hlt : ltB (cmp d[first + root]! d[first + (2 * root + 1)]!) 0 with
        | true =>
          have ih := qnd hi first n (2 * root + 1) (swp d (first + root) (first + (2 * root + 1))) (by omega) (by omega) (by rw [q0q]; exact hs) (by rw [q0q]; exact hd)
          rw [hlt] at hres
          simp only [Bool.not_true, cond_false, ih] at hres
          subst hres
          simp [hlt]
        | false =>
          rw [hlt] at hres
          simp only [Bool.not_false, cond_true] at hres
          subst hres
          simp [hlt]
      have fin : ∀ {x : Option (List Int)} {l : List Int}, l = x.getD [] ∧ x ≠ none → x = some l := by
        rintro x l ⟨rfl, h⟩; cases x with
        | none => exact absurd rfl h
        | some y => rfl
      simp only [e1, e2, q0a (show ((2 * root + 1 : Nat) : Int) < (hi : Int) by omega), cond_false, dif_neg h1, e3, e4, e5, Int.toNat_natCast]
      by_cases h2 : 2 * root + 2 < hi
      · have e6 : addI .i64 ((first + (2 * root + 1) : Nat) : Int) 1 = ((first + (2 * root + 1) + 1 : Nat) : Int) := q04 (by omega)
        have e7 := addN (x := first) (y := 2 * root + 2) (by omega)
        have b3 : first + (2 * root + 1) + 1 < d.size := by omega
        have b4 : first + (2 * root + 2) < d.size := by omega
        simp only [q05 (show ((2 * root + 2 : Nat) : Int) < (hi : Int) by omega), cond_true, e6, e7, Int.toNat_natCast, nthA b1, nthA b2, nthA b3, nthA b4, nthNA b1, nthNA b2, nthNA b3, nthNA b4, hc, Option.bind_some, nthS _ b2, nthNS _ b2, nthS _ b4, nthNS _ b4, q1b]
        cases h3 : ltB (cmp d[first + (2 * root + 1)]! d[first + (2 * root + 1) + 1]!) 0 with
        | true =>
          have hcond : (decide (2 * root + 1 + 1 < hi) && true) = true := by simp; omega
          simp only [cond_true]
          rw [if_pos hcond]
          cases h4 : ltB (cmp d[first + root]! d[first + (2 * root + 2)]!) 0 with
          | true =>
            simp only [Bool.not_true, cond_false, Bool.false_eq_true, if_false, dif_pos h2]
            exact qnd hi first n (2 * root + 2) (swp d (first + root) (first + (2 * root + 2))) (by omega) (by omega) (by rw [q0q]; exact hs) (by rw [q0q]; exact hd)
          | false => simp only [Bool.not_false, cond_true, if_true]
        | false =>
          have hcond : ¬ (decide (2 * root + 1 + 1 < hi) && false) = true := by simp
          simp only [cond_false]
          rw [if_neg hcond]
          exact fin (low _ rfl)
      · have hcond : ¬ (decide (2 * root + 1 + 1 < hi) && ltB (cmp d[first + (2 * root + 1)]! d[first + (2 * root + 1) + 1]!) 0) = true := by simp; omega
        simp only [q02 (show (hi : Int) ≤ ((2 * root + 2 : Nat) : Int) by omega), cond_false, nthA b1, nthA b2, nthNA b1, nthNA b2, hc, Option.bind_some, nthS _ b2, nthNS _ b2, q1b]
        rw [if_neg hcond]
        exact fin (low _ rfl)
theorem qsj (lo hi first : Nat) (d : Array Int) (hl : lo ≤ hi) (hs : first + hi ≤ d.size) (hd : d.size < 1152921504606846976) :
    z13 (lo : Int) (hi : Int) (first : Int) d.toList = some (siftDown (fun x y => ltB (cmp x y) 0) hi first lo d).toList := by
  apply y3b
  exact qnd hc hi first hi lo d (by omega) hl hs hd
end
end Go.Proofs.YtfjcndlhpfbcgaaGreat
