/- Sorting: partialInsertionSort. -/
import Derived.Test.YtfjcndlhpfbcgaaGreatZ16Sort9
namespace Go.Proofs.YtfjcndlhpfbcgaaGreat
open Go Go.Ab Go.Sort
theorem qc6 (lt : Int → Int → Bool) (d : Array Int) (b : Nat) : ∀ (n i : Nat), b ≤ i + n → i ≤ b → i ≤ scanSorted lt d b i ∧ scanSorted lt d b i ≤ b
  | n, i, h, hi => by
    rw [scanSorted]
    split
    · rename_i hc
      simp at hc
      obtain ⟨n, rfl⟩ : ∃ m, n = m + 1 := ⟨n - 1, by omega⟩
      have := qc6 lt d b n (i + 1) (by omega) (by omega)
      omega
    · exact ⟨Nat.le_refl _, hi⟩
theorem q65 {lt : Int → Int → Bool} : ∀ (j : Nat) (d : Array Int), (shiftDown lt j d).size = d.size
  | 0, d => rfl
  | j + 1, d => by
    rw [shiftDown]
    split
    · rfl
    · rw [q65 j, q0q]
theorem qdc {lt : Int → Int → Bool} (b : Nat) : ∀ (n j : Nat) (d : Array Int), b ≤ j + n → (shiftUp lt b j d).size = d.size
  | n, j, d, h => by
    rw [shiftUp]
    split
    · obtain ⟨n, rfl⟩ : ∃ m, n = m + 1 := ⟨n - 1, by omega⟩
      split
      · rfl
      · rw [qdc b n _ _ (by omega), q0q]
    · rfl
section
variable {cmp : Int → Int → Int} (hc : ∀ x y, z08 x y = some (cmp x y))
include hc
theorem pi_l1 (a b : Nat) (hab : a < b) : ∀ (k s i : Nat) (d : Array Int), s + k = 5 → a + 1 ≤ i → i ≤ b → b ≤ d.size → Lim d →
    z03 (a : Int) (b : Int) (i : Int) (s : Int) d.toList = some ((partialIns (fun x y => ltB (cmp x y) 0) a b k i d).2, (partialIns (fun x y => ltB (cmp x y) 0) a b k i d).1.toList)
  | 0, s, i, d, hs, hi, hib, hb, hd => by
    apply qyl
    rw [q02 (by omega)]
    rfl
  | k + 1, s, i, d, hs, hi, hib, hb, hd => by
    have hd' : d.size < 1152921504606846976 := hd
    apply qyl
    rw [q05 (by omega)]
    simp only [cond_true]
    refine pi_l2 hc a b s (by omega) d (by omega) hb hd b i (by omega) hi hib _ ?_
    obtain ⟨u, v⟩ := qc6 (fun x y => ltB (cmp x y) 0) d b b i (by omega) hib
    rw [partialIns]
    dsimp only
    generalize scanSorted (fun x y => ltB (cmp x y) 0) d b i = i2 at u v ⊢
    by_cases h1 : i2 = b
    · simp only [if_pos h1]
    · by_cases h2 : b - a < 50
      · simp only [if_neg h1, if_pos h2]
      · simp only [if_neg h1, if_neg h2]
        have e1 := subN (x := i2) (y := a) (by omega) (by omega)
        have e2 := subN (x := b) (y := i2) v (by omega)
        have sz : (swp d i2 (i2 - 1)).size = d.size := q0q _ _ _
        generalize swp d i2 (i2 - 1) = d1 at sz ⊢
        have up : ∀ d2 : Array Int, d2.size = d.size → ∀ r, z03 (a : Int) (b : Int) (i2 : Int) ((s + 1 : Nat) : Int) (if b - i2 ≥ 2 then shiftUp (fun x y => ltB (cmp x y) 0) b (i2 + 1) d2 else d2).toList = some r →
            (bif (leB 2 (subI .i64 (b : Int) (i2 : Int))) then z05 (a : Int) (b : Int) (i2 : Int) (s : Int) ((i2 + 1 : Nat) : Int) d2.toList
              else z03 (a : Int) (b : Int) (i2 : Int) ((s + 1 : Nat) : Int) d2.toList) = some r := by
          intro d2 h2s r hr
          rw [e2]
          by_cases h3 : b - i2 ≥ 2
          · rw [q0f (show (2 : Int) ≤ ((b - i2 : Nat) : Int) by omega)]
            rw [if_pos h3] at hr
            exact pi_l5 hc a b i2 s (by omega) (by omega) b (i2 + 1) d2 (by omega) (by omega) (by omega) (by unfold Lim; omega) r hr
          · rw [q0a (show ((b - i2 : Nat) : Int) < 2 by omega)]
            rw [if_neg h3] at hr
            exact hr
        have last : ∀ d2 : Array Int, d2.size = d.size → z03 (a : Int) (b : Int) (i2 : Int) ((s + 1 : Nat) : Int) (if b - i2 ≥ 2 then shiftUp (fun x y => ltB (cmp x y) 0) b (i2 + 1) d2 else d2).toList = some ((partialIns (fun x y => ltB (cmp x y) 0) a b k i2 (if b - i2 ≥ 2 then shiftUp (fun x y => ltB (cmp x y) 0) b (i2 + 1) d2 else d2)).2, (partialIns (fun x y => ltB (cmp x y) 0) a b k i2 (if b - i2 ≥ 2 then shiftUp (fun x y => ltB (cmp x y) 0) b (i2 + 1) d2 else d2)).1.toList) := by
          intro d2 h2s
          have hsz : (if b - i2 ≥ 2 then shiftUp (fun x y => ltB (cmp x y) 0) b (i2 + 1) d2 else d2).size = d.size := by
            split
            · rw [qdc b b _ _ (by omega), h2s]
            · exact h2s
          exact pi_l1 a b hab k (s + 1) i2 _ (by omega) (by omega) v (by omega) (by unfold Lim; omega)
        rw [e1]
        by_cases h4 : i2 - a ≥ 2
        · rw [q0f (show (2 : Int) ≤ ((i2 - a : Nat) : Int) by omega)]
          simp only [cond_true, if_pos h4]
          refine pi_l4 hc a b i2 s (by omega) (by omega) (i2 - 1) d1 (by omega) (by unfold Lim; omega) _ ?_
          exact up _ (by rw [q65, sz]) _ (last _ (by rw [q65, sz]))
        · rw [q0a (show ((i2 - a : Nat) : Int) < 2 by omega)]
          simp only [cond_false, if_neg h4]
          exact up _ sz _ (last _ sz)
end
end Go.Proofs.YtfjcndlhpfbcgaaGreat
