/- Sorting: partition. -/
import Derived.Test.YtfjcndlhpfbcgaaGreatZ16Sort6
namespace Go.Proofs.YtfjcndlhpfbcgaaGreat
open Go Go.Ab Go.Sort
section
variable {cmp : Int → Int → Int} (hc : ∀ x y, z08 x y = some (cmp x y))
include hc
theorem pa_l1 (a j : Nat) (d : Array Int) (ha : a < d.size) (hj : j < d.size) (hd : Lim d) : ∀ (n i : Nat), j + 1 - i ≤ n →
    Le (z0m (a : Int) ((scanUp (fun x => ltB (cmp x d[a]!) 0) d j i : Nat) : Int) (j : Int) false d.toList) (z0y (a : Int) (i : Int) (j : Int) d.toList)
  | n, i, hn => fun r hr => by
    have hd' : d.size < 1152921504606846976 := hd
    apply y2f
    rw [scanUp] at hr
    by_cases h : i ≤ j
    · obtain ⟨n, rfl⟩ : ∃ m, n = m + 1 := ⟨n - 1, by omega⟩
      have bi : i < d.size := by omega
      simp only [q0f (show (i : Int) ≤ (j : Int) by omega), cond_true, Int.toNat_natCast, nthA ha, nthA bi, nthNA ha, nthNA bi, hc, Option.bind_some, q04 (show i < 4611686018427387904 by omega)]
      cases hl : ltB (cmp d[i]! d[a]!) 0 with
      | false =>
        simp only [cond_false]
        simpa [h, hl] using hr
      | true =>
        simp only [cond_true]
        refine pa_l1 a j d ha hj hd n (i + 1) (by omega) r ?_
        simpa [h, hl] using hr
    · rw [q0a (by omega)]
      simpa [h] using hr
theorem pa_l5 (a j : Nat) (d : Array Int) (ha : a < d.size) (hj : j < d.size) (hd : Lim d) : ∀ (n i : Nat), j + 1 - i ≤ n →
    Le (z0n (a : Int) ((scanUp (fun x => ltB (cmp x d[a]!) 0) d j i : Nat) : Int) (j : Int) false d.toList) (z10 (a : Int) (i : Int) (j : Int) d.toList)
  | n, i, hn => fun r hr => by
    have hd' : d.size < 1152921504606846976 := hd
    apply y3y
    rw [scanUp] at hr
    by_cases h : i ≤ j
    · obtain ⟨n, rfl⟩ : ∃ m, n = m + 1 := ⟨n - 1, by omega⟩
      have bi : i < d.size := by omega
      simp only [q0f (show (i : Int) ≤ (j : Int) by omega), cond_true, Int.toNat_natCast, nthA ha, nthA bi, nthNA ha, nthNA bi, hc, Option.bind_some, q04 (show i < 4611686018427387904 by omega)]
      cases hl : ltB (cmp d[i]! d[a]!) 0 with
      | false =>
        simp only [cond_false]
        simpa [h, hl] using hr
      | true =>
        simp only [cond_true]
        refine pa_l5 a j d ha hj hd n (i + 1) (by omega) r ?_
        simpa [h, hl] using hr
    · rw [q0a (by omega)]
      simpa [h] using hr
theorem pa_l3 (a i : Nat) (d : Array Int) (ha : a < d.size) (hi : 1 ≤ i) (hd : Lim d) : ∀ (j : Nat), j < d.size →
    Le (if scanDown (fun x => !ltB (cmp x d[a]!) 0) d i j < i then some (((scanDown (fun x => !ltB (cmp x d[a]!) 0) d i j : Nat) : Int), true, (swp d (scanDown (fun x => !ltB (cmp x d[a]!) 0) d i j) a).toList) else z06 (a : Int) ((i + 1 : Nat) : Int) ((scanDown (fun x => !ltB (cmp x d[a]!) 0) d i j - 1 : Nat) : Int) (swp d i (scanDown (fun x => !ltB (cmp x d[a]!) 0) d i j)).toList)
      (z0z (a : Int) (i : Int) (j : Int) d.toList)
  | j, hj => fun r hr => by
    have hd' : d.size < 1152921504606846976 := hd
    apply y5t
    by_cases h : i ≤ j
    · obtain ⟨j, rfl⟩ : ∃ m, j = m + 1 := ⟨j - 1, by omega⟩
      have bi : i < d.size := by omega
      simp only [q0f (show (i : Int) ≤ ((j + 1 : Nat) : Int) by omega), cond_true, Int.toNat_natCast, nthA ha, nthA hj, nthA bi, nthNA ha, nthNA hj, nthNA bi, hc, Option.bind_some, qd8 (show j < 4611686018427387904 by omega), nthS _ hj, nthNS _ hj, nthS _ ha, nthNS _ ha, q1b, q04 (show i < 4611686018427387904 by omega)]
      rw [scanDown] at hr
      cases hl : ltB (cmp d[j + 1]! d[a]!) 0 with
      | false =>
        simp only [Bool.not_false, cond_true]
        refine pa_l3 a i d ha hi hd j (by omega) r ?_
        simpa [h, hl] using hr
      | true =>
        simp only [Bool.not_true, cond_false, q02 (show (i : Int) ≤ ((j + 1 : Nat) : Int) by omega)]
        simp only [h, hl, decide_true, Bool.not_true, Bool.and_false, Bool.false_eq_true, if_false] at hr
        rw [if_neg (by omega)] at hr
        simpa using hr
    · have hs : scanDown (fun x => !ltB (cmp x d[a]!) 0) d i j = j := by
        cases j with
        | zero => rfl
        | succ j => rw [scanDown]; simp [h]
      rw [hs, if_pos (by omega)] at hr
      rw [q0a (by omega), q05 (by omega)]
      simp only [cond_false, cond_true, Int.toNat_natCast, nthA ha, nthA hj, nthNA ha, nthNA hj, nthS _ ha, nthNS _ ha, q1b]
      exact hr
theorem pa_l2 (a i : Nat) (d : Array Int) (ha : a < d.size) (hi : 1 ≤ i) (hd : Lim d) : ∀ (j : Nat), j < d.size →
    Le (if scanDown (fun x => !ltB (cmp x d[a]!) 0) d i j < i then some (((scanDown (fun x => !ltB (cmp x d[a]!) 0) d i j : Nat) : Int), true, (swp d (scanDown (fun x => !ltB (cmp x d[a]!) 0) d i j) a).toList) else z06 (a : Int) ((i + 1 : Nat) : Int) ((scanDown (fun x => !ltB (cmp x d[a]!) 0) d i j - 1 : Nat) : Int) (swp d i (scanDown (fun x => !ltB (cmp x d[a]!) 0) d i j)).toList)
      (z0m (a : Int) (i : Int) (j : Int) false d.toList)
  | j, hj => fun r hr => by
    have hd' : d.size < 1152921504606846976 := hd
    apply y3p
    by_cases h : i ≤ j
    · obtain ⟨j, rfl⟩ : ∃ m, j = m + 1 := ⟨j - 1, by omega⟩
      have bi : i < d.size := by omega
      simp only [q0f (show (i : Int) ≤ ((j + 1 : Nat) : Int) by omega), cond_true, Int.toNat_natCast, nthA ha, nthA hj, nthA bi, nthNA ha, nthNA hj, nthNA bi, hc, Option.bind_some, qd8 (show j < 4611686018427387904 by omega), nthS _ hj, nthNS _ hj, nthS _ ha, nthNS _ ha, q1b, q04 (show i < 4611686018427387904 by omega)]
      rw [scanDown] at hr
      cases hl : ltB (cmp d[j + 1]! d[a]!) 0 with
      | false =>
        simp only [Bool.not_false, cond_true]
        refine pa_l3 hc a i d ha hi hd j (by omega) r ?_
        simpa [h, hl] using hr
      | true =>
        simp only [Bool.not_true, cond_false, q02 (show (i : Int) ≤ ((j + 1 : Nat) : Int) by omega)]
        simp only [h, hl, decide_true, Bool.not_true, Bool.and_false, Bool.false_eq_true, if_false] at hr
        rw [if_neg (by omega)] at hr
        simpa using hr
    · have hs : scanDown (fun x => !ltB (cmp x d[a]!) 0) d i j = j := by
        cases j with
        | zero => rfl
        | succ j => rw [scanDown]; simp [h]
      rw [hs, if_pos (by omega)] at hr
      rw [q0a (by omega), q05 (by omega)]
      simp only [cond_false, cond_true, Int.toNat_natCast, nthA ha, nthA hj, nthNA ha, nthNA hj, nthS _ ha, nthNS _ ha, q1b]
      exact hr
theorem pa_l7 (a i : Nat) (d : Array Int) (ha : a < d.size) (hi : 1 ≤ i) (hd : Lim d) : ∀ (j : Nat), j < d.size →
    Le (if scanDown (fun x => !ltB (cmp x d[a]!) 0) d i j < i then some (((scanDown (fun x => !ltB (cmp x d[a]!) 0) d i j : Nat) : Int), false, (swp d (scanDown (fun x => !ltB (cmp x d[a]!) 0) d i j) a).toList) else z06 (a : Int) ((i + 1 : Nat) : Int) ((scanDown (fun x => !ltB (cmp x d[a]!) 0) d i j - 1 : Nat) : Int) (swp d i (scanDown (fun x => !ltB (cmp x d[a]!) 0) d i j)).toList)
      (z11 (a : Int) (i : Int) (j : Int) d.toList)
  | j, hj => fun r hr => by
    have hd' : d.size < 1152921504606846976 := hd
    apply y5w
    by_cases h : i ≤ j
    · obtain ⟨j, rfl⟩ : ∃ m, j = m + 1 := ⟨j - 1, by omega⟩
      have bi : i < d.size := by omega
      simp only [q0f (show (i : Int) ≤ ((j + 1 : Nat) : Int) by omega), cond_true, Int.toNat_natCast, nthA ha, nthA hj, nthA bi, nthNA ha, nthNA hj, nthNA bi, hc, Option.bind_some, qd8 (show j < 4611686018427387904 by omega), nthS _ hj, nthNS _ hj, nthS _ ha, nthNS _ ha, q1b, q04 (show i < 4611686018427387904 by omega)]
      rw [scanDown] at hr
      cases hl : ltB (cmp d[j + 1]! d[a]!) 0 with
      | false =>
        simp only [Bool.not_false, cond_true]
        refine pa_l7 a i d ha hi hd j (by omega) r ?_
        simpa [h, hl] using hr
      | true =>
        simp only [Bool.not_true, cond_false, q02 (show (i : Int) ≤ ((j + 1 : Nat) : Int) by omega)]
        simp only [h, hl, decide_true, Bool.not_true, Bool.and_false, Bool.false_eq_true, if_false] at hr
        rw [if_neg (by omega)] at hr
        simpa using hr
    · have hs : scanDown (fun x => !ltB (cmp x d[a]!) 0) d i j = j := by
        cases j with
        | zero => rfl
        | succ j => rw [scanDown]; simp [h]
      rw [hs, if_pos (by omega)] at hr
      rw [q0a (by omega), q05 (by omega)]
      simp only [cond_false, cond_true, Int.toNat_natCast, nthA ha, nthA hj, nthNA ha, nthNA hj, nthS _ ha, nthNS _ ha, q1b]
      exact hr
theorem pa_l6 (a i : Nat) (d : Array Int) (ha : a < d.size) (hi : 1 ≤ i) (hd : Lim d) : ∀ (j : Nat), j < d.size →
    Le (if scanDown (fun x => !ltB (cmp x d[a]!) 0) d i j < i then some (((scanDown (fun x => !ltB (cmp x d[a]!) 0) d i j : Nat) : Int), false, (swp d (scanDown (fun x => !ltB (cmp x d[a]!) 0) d i j) a).toList) else z06 (a : Int) ((i + 1 : Nat) : Int) ((scanDown (fun x => !ltB (cmp x d[a]!) 0) d i j - 1 : Nat) : Int) (swp d i (scanDown (fun x => !ltB (cmp x d[a]!) 0) d i j)).toList)
      (z0n (a : Int) (i : Int) (j : Int) false d.toList)
  | j, hj => fun r hr => by
    have hd' : d.size < 1152921504606846976 := hd
    apply y41
    by_cases h : i ≤ j
    · obtain ⟨j, rfl⟩ : ∃ m, j = m + 1 := ⟨j - 1, by omega⟩
      have bi : i < d.size := by omega
      simp only [q0f (show (i : Int) ≤ ((j + 1 : Nat) : Int) by omega), cond_true, Int.toNat_natCast, nthA ha, nthA hj, nthA bi, nthNA ha, nthNA hj, nthNA bi, hc, Option.bind_some, qd8 (show j < 4611686018427387904 by omega), nthS _ hj, nthNS _ hj, nthS _ ha, nthNS _ ha, q1b, q04 (show i < 4611686018427387904 by omega)]
      rw [scanDown] at hr
      cases hl : ltB (cmp d[j + 1]! d[a]!) 0 with
      | false =>
        simp only [Bool.not_false, cond_true]
        refine pa_l7 hc a i d ha hi hd j (by omega) r ?_
        simpa [h, hl] using hr
      | true =>
        simp only [Bool.not_true, cond_false, q02 (show (i : Int) ≤ ((j + 1 : Nat) : Int) by omega)]
        simp only [h, hl, decide_true, Bool.not_true, Bool.and_false, Bool.false_eq_true, if_false] at hr
        rw [if_neg (by omega)] at hr
        simpa using hr
    · have hs : scanDown (fun x => !ltB (cmp x d[a]!) 0) d i j = j := by
        cases j with
        | zero => rfl
        | succ j => rw [scanDown]; simp [h]
      rw [hs, if_pos (by omega)] at hr
      rw [q0a (by omega), q05 (by omega)]
      simp only [cond_false, cond_true, Int.toNat_natCast, nthA ha, nthA hj, nthNA ha, nthNA hj, nthS _ ha, nthNS _ ha, q1b]
      exact hr
theorem pa_l4 (a : Nat) : ∀ (n i j : Nat) (d : Array Int), j + 1 - i ≤ n → a < d.size → 1 ≤ i → j < d.size → Lim d →
    z06 (a : Int) (i : Int) (j : Int) d.toList = some (((partLoop (fun x y => ltB (cmp x y) 0) a i j d).1 : Int), false, (swp (partLoop (fun x y => ltB (cmp x y) 0) a i j d).2 (partLoop (fun x y => ltB (cmp x y) 0) a i j d).1 a).toList)
  | n, i, j, d, hn, ha, hi, hj, hd => by
    have hd' : d.size < 1152921504606846976 := hd
    have u := qbq (fun x => ltB (cmp x d[a]!) 0) d j (j + 1 - i) i (Nat.le_refl _)
    have v := q7m (fun x => !ltB (cmp x d[a]!) 0) d (scanUp (fun x => ltB (cmp x d[a]!) 0) d j i) j
    apply y25
    refine pa_l5 hc a j d ha hj hd (j + 1 - i) i (Nat.le_refl _) _ ?_
    refine pa_l6 hc a _ d ha (by omega) hd j hj _ ?_
    rw [partLoop]
    generalize scanUp (fun x => ltB (cmp x d[a]!) 0) d j i = i2 at u v ⊢
    generalize scanDown (fun x => !ltB (cmp x d[a]!) 0) d i2 j = j2 at v ⊢
    by_cases h : j2 < i2
    · rw [if_pos h, if_pos h]
    · have hg : (j2 - 1) + 1 - (i2 + 1) < j + 1 - i := by omega
      rw [if_neg h, if_neg h, dif_pos hg]
      obtain ⟨n, rfl⟩ : ∃ m, n = m + 1 := ⟨n - 1, by omega⟩
      exact pa_l4 a n (i2 + 1) (j2 - 1) (swp d i2 j2) (by omega) (by rw [q0q]; exact ha) (by omega) (by rw [q0q]; omega) (by unfold Lim; rw [q0q]; exact hd)
theorem y0n (a b p : Nat) (d : Array Int) (hap : a ≤ p) (hpb : p < b) (hb : b ≤ d.size) (hd : Lim d) :
    z02 (a : Int) (b : Int) (p : Int) d.toList = some (((Sort.partition (fun x y => ltB (cmp x y) 0) d a b p).1 : Int), (Sort.partition (fun x y => ltB (cmp x y) 0) d a b p).2.1, (Sort.partition (fun x y => ltB (cmp x y) 0) d a b p).2.2.toList) := by
  have hd' : d.size < 1152921504606846976 := hd
  have ba : a < d.size := by omega
  have bp : p < d.size := by omega
  apply y4b
  have e1 : subI .i64 (b : Int) 1 = ((b - 1 : Nat) : Int) := by rw [q1v (by omega) (by omega)]; omega
  simp only [Int.toNat_natCast, nthA ba, nthA bp, nthNA ba, nthNA bp, nthS _ bp, nthNS _ bp, q1b, q04 (show a < 4611686018427387904 by omega), e1]
  have hs : (swp d a p).size = d.size := q0q d a p
  unfold Sort.partition
  generalize swp d a p = d at hs ⊢
  dsimp only
  have hL : Lim d := by unfold Lim; omega
  have u := qbq (fun x => ltB (cmp x d[a]!) 0) d (b - 1) (b - 1 + 1 - (a + 1)) (a + 1) (Nat.le_refl _)
  have v := q7m (fun x => !ltB (cmp x d[a]!) 0) d (scanUp (fun x => ltB (cmp x d[a]!) 0) d (b - 1) (a + 1)) (b - 1)
  refine pa_l1 hc a (b - 1) d (by omega) (by omega) hL (b - 1 + 1 - (a + 1)) (a + 1) (Nat.le_refl _) _ ?_
  refine pa_l2 hc a _ d (by omega) (by omega) hL (b - 1) (by omega) _ ?_
  generalize scanUp (fun x => ltB (cmp x d[a]!) 0) d (b - 1) (a + 1) = i2 at u v ⊢
  generalize scanDown (fun x => !ltB (cmp x d[a]!) 0) d i2 (b - 1) = j2 at v ⊢
  by_cases h : j2 < i2
  · simp only [gt_iff_lt, if_pos h]
  · simp only [gt_iff_lt, if_neg h]
    exact pa_l4 hc a (j2 - 1 + 1 - (i2 + 1)) (i2 + 1) (j2 - 1) (swp d i2 j2) (Nat.le_refl _) (by rw [q0q]; omega) (by omega) (by rw [q0q]; omega) (by unfold Lim; rw [q0q]; exact hL)
end
end Go.Proofs.YtfjcndlhpfbcgaaGreat
