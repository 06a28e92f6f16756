/- Sorting: partitionEqual. -/
import Derived.Test.YtfjcndlhpfbcgaaGreatZ16Sort5
namespace Go.Proofs.YtfjcndlhpfbcgaaGreat
open Go Go.Ab Go.Sort
theorem qbq (p : Int → Bool) (d : Array Int) (j : Nat) : ∀ (n i : Nat), j + 1 - i ≤ n → i ≤ scanUp p d j i
  | n, i, h => by
    rw [scanUp]
    split
    · rename_i hc
      simp at hc
      obtain ⟨n, rfl⟩ : ∃ m, n = m + 1 := ⟨n - 1, by omega⟩
      have := qbq p d j n (i + 1) (by omega)
      omega
    · exact Nat.le_refl _
theorem q7m (p : Int → Bool) (d : Array Int) (i : Nat) : ∀ j, scanDown p d i j ≤ j
  | 0 => Nat.le_refl _
  | j + 1 => by
    rw [scanDown]
    split
    · have := q7m p d i j; omega
    · exact Nat.le_refl _
section
variable {cmp : Int → Int → Int} (hc : ∀ x y, z08 x y = some (cmp x y))
include hc
theorem pe_l2 (a j : Nat) (d : Array Int) (ha : a < d.size) (hj : j < d.size) (hd : Lim d) : ∀ (n i : Nat), j + 1 - i ≤ n →
    Le (z0g (a : Int) ((scanUp (fun x => !ltB (cmp d[a]! x) 0) d j i : Nat) : Int) (j : Int) false d.toList) (z0s (a : Int) (i : Int) (j : Int) d.toList)
  | n, i, hn => fun r hr => by
    have hd' : d.size < 1152921504606846976 := hd
    apply y4n
    rw [scanUp] at hr
    by_cases h : i ≤ j
    · obtain ⟨n, rfl⟩ : ∃ m, n = m + 1 := ⟨n - 1, by omega⟩
      have bi : i < d.size := by omega
      simp only [q0f (show (i : Int) ≤ (j : Int) by omega), cond_true, Int.toNat_natCast, nthA ha, nthA bi, nthNA ha, nthNA bi, hc, Option.bind_some, q04 (show i < 4611686018427387904 by omega)]
      cases hl : ltB (cmp d[a]! d[i]!) 0 with
      | true =>
        simp only [Bool.not_true, cond_false]
        simpa [h, hl] using hr
      | false =>
        simp only [Bool.not_false, cond_true]
        refine pe_l2 a j d ha hj hd n (i + 1) (by omega) r ?_
        simpa [h, hl] using hr
    · rw [q0a (by omega)]
      simpa [h] using hr
theorem pe_l4 (a i : Nat) (d : Array Int) (ha : a < d.size) (hi : 1 ≤ i) (hd : Lim d) : ∀ (j : Nat), j < d.size →
    Le (if scanDown (fun x => ltB (cmp d[a]! x) 0) d i j < i then some ((i : Int), d.toList) else z0a (a : Int) ((i + 1 : Nat) : Int) ((scanDown (fun x => ltB (cmp d[a]! x) 0) d i j - 1 : Nat) : Int) (swp d i (scanDown (fun x => ltB (cmp d[a]! x) 0) d i j)).toList)
      (z0t (a : Int) (i : Int) (j : Int) d.toList)
  | j, hj => fun r hr => by
    have hd' : d.size < 1152921504606846976 := hd
    apply y2u
    by_cases h : i ≤ j
    · obtain ⟨j, rfl⟩ : ∃ m, j = m + 1 := ⟨j - 1, by omega⟩
      have bi : i < d.size := by omega
      simp only [q0f (show (i : Int) ≤ ((j + 1 : Nat) : Int) by omega), cond_true, Int.toNat_natCast, nthA ha, nthA hj, nthA bi, nthNA ha, nthNA hj, nthNA bi, hc, Option.bind_some, qd8 (show j < 4611686018427387904 by omega), nthS _ hj, nthNS _ hj, q1b, q04 (show i < 4611686018427387904 by omega)]
      rw [scanDown] at hr
      cases hl : ltB (cmp d[a]! d[j + 1]!) 0 with
      | true =>
        simp only [cond_true]
        refine pe_l4 a i d ha hi hd j (by omega) r ?_
        simpa [h, hl] using hr
      | false =>
        simp only [cond_false, q02 (show (i : Int) ≤ ((j + 1 : Nat) : Int) by omega)]
        simp only [h, hl, decide_true, Bool.and_false, Bool.false_eq_true, if_false] at hr
        rw [if_neg (by omega)] at hr
        simpa using hr
    · have hs : scanDown (fun x => ltB (cmp d[a]! x) 0) d i j = j := by
        cases j with
        | zero => rfl
        | succ j => rw [scanDown]; simp [h]
      rw [hs, if_pos (by omega)] at hr
      rw [q0a (by omega), q05 (by omega)]
      exact hr
theorem pe_l3 (a i : Nat) (d : Array Int) (ha : a < d.size) (hi : 1 ≤ i) (hd : Lim d) : ∀ (j : Nat), j < d.size →
    Le (if scanDown (fun x => ltB (cmp d[a]! x) 0) d i j < i then some ((i : Int), d.toList) else z0a (a : Int) ((i + 1 : Nat) : Int) ((scanDown (fun x => ltB (cmp d[a]! x) 0) d i j - 1 : Nat) : Int) (swp d i (scanDown (fun x => ltB (cmp d[a]! x) 0) d i j)).toList)
      (z0g (a : Int) (i : Int) (j : Int) false d.toList)
  | j, hj => fun r hr => by
    have hd' : d.size < 1152921504606846976 := hd
    apply y4w
    by_cases h : i ≤ j
    · obtain ⟨j, rfl⟩ : ∃ m, j = m + 1 := ⟨j - 1, by omega⟩
      have bi : i < d.size := by omega
      simp only [q0f (show (i : Int) ≤ ((j + 1 : Nat) : Int) by omega), cond_true, Int.toNat_natCast, nthA ha, nthA hj, nthA bi, nthNA ha, nthNA hj, nthNA bi, hc, Option.bind_some, qd8 (show j < 4611686018427387904 by omega), nthS _ hj, nthNS _ hj, q1b, q04 (show i < 4611686018427387904 by omega)]
      rw [scanDown] at hr
      cases hl : ltB (cmp d[a]! d[j + 1]!) 0 with
      | true =>
        simp only [cond_true]
        refine pe_l4 hc a i d ha hi hd j (by omega) r ?_
        simpa [h, hl] using hr
      | false =>
        simp only [cond_false, q02 (show (i : Int) ≤ ((j + 1 : Nat) : Int) by omega)]
        simp only [h, hl, decide_true, Bool.and_false, Bool.false_eq_true, if_false] at hr
        rw [if_neg (by omega)] at hr
        simpa using hr
    · have hs : scanDown (fun x => ltB (cmp d[a]! x) 0) d i j = j := by
        cases j with
        | zero => rfl
        | succ j => rw [scanDown]; simp [h]
      rw [hs, if_pos (by omega)] at hr
      rw [q0a (by omega), q05 (by omega)]
      exact hr
theorem pe_l1 (a : Nat) : ∀ (n i j : Nat) (d : Array Int), j + 1 - i ≤ n → a < d.size → 1 ≤ i → j < d.size → Lim d →
    z0a (a : Int) (i : Int) (j : Int) d.toList = some (((partEqLoop (fun x y => ltB (cmp x y) 0) a i j d).1 : Int), (partEqLoop (fun x y => ltB (cmp x y) 0) a i j d).2.toList)
  | n, i, j, d, hn, ha, hi, hj, hd => by
    have hd' : d.size < 1152921504606846976 := hd
    have u := qbq (fun x => !ltB (cmp d[a]! x) 0) d j (j + 1 - i) i (Nat.le_refl _)
    have v := q7m (fun x => ltB (cmp d[a]! x) 0) d (scanUp (fun x => !ltB (cmp d[a]! x) 0) d j i) j
    apply y2t
    refine pe_l2 hc a j d ha hj hd (j + 1 - i) i (Nat.le_refl _) _ ?_
    refine pe_l3 hc a _ d ha (by omega) hd j hj _ ?_
    rw [partEqLoop]
    generalize scanUp (fun x => !ltB (cmp d[a]! x) 0) d j i = i2 at u v ⊢
    generalize scanDown (fun x => ltB (cmp d[a]! x) 0) d i2 j = j2 at v ⊢
    by_cases h : j2 < i2
    · rw [if_pos h, if_pos h]
    · have hg : (j2 - 1) + 1 - (i2 + 1) < j + 1 - i := by omega
      rw [if_neg h, if_neg h, dif_pos hg]
      obtain ⟨n, rfl⟩ : ∃ m, n = m + 1 := ⟨n - 1, by omega⟩
      exact pe_l1 a n (i2 + 1) (j2 - 1) (swp d i2 j2) (by omega) (by rw [q0q]; exact ha) (by omega) (by rw [q0q]; omega) (by unfold Lim; rw [q0q]; exact hd)
theorem qus (a b p : Nat) (d : Array Int) (hap : a ≤ p) (hpb : p < b) (hb : b ≤ d.size) (hd : Lim d) :
    z04 (a : Int) (b : Int) (p : Int) d.toList = some (((partitionEqual (fun x y => ltB (cmp x y) 0) d a b p).1 : Int), (partitionEqual (fun x y => ltB (cmp x y) 0) d a b p).2.toList) := by
  have hd' : d.size < 1152921504606846976 := hd
  have ba : a < d.size := by omega
  have bp : p < d.size := by omega
  apply y1q
  have e1 : subI .i64 (b : Int) 1 = ((b - 1 : Nat) : Int) := by rw [q1v (by omega) (by omega)]; omega
  simp only [Int.toNat_natCast, nthA ba, nthA bp, nthNA ba, nthNA bp, nthS _ bp, nthNS _ bp, q1b, q04 (show a < 4611686018427387904 by omega), e1]
  exact pe_l1 hc a (b - 1 + 1 - (a + 1)) (a + 1) (b - 1) (swp d a p) (by omega) (by rw [q0q]; exact ba) (by omega) (by rw [q0q]; omega) (by unfold Lim; rw [q0q]; exact hd)
end
end Go.Proofs.YtfjcndlhpfbcgaaGreat
