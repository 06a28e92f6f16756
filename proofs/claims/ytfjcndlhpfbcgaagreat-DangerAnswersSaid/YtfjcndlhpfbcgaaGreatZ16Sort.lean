/- Sorting: the printed functions are the kit's plain ones. -/
import Derived.Test.YtfjcndlhpfbcgaaGreatZ16Fn0
import Derived.Test.YtfjcndlhpfbcgaaGreatZ16Fn1
import Derived.Test.YtfjcndlhpfbcgaaGreatZ16Fn2
import Derived.Test.YtfjcndlhpfbcgaaGreatZ16Fn3
import Derived.Test.YtfjcndlhpfbcgaaGreatZ16Fn4
import Derived.Test.YtfjcndlhpfbcgaaGreatZ16Fn5
import Derived.Test.YtfjcndlhpfbcgaaGreatZ16Fn6
import Derived.Test.YtfjcndlhpfbcgaaGreatMachT
import Derived.Sort.Statements
namespace Go.Proofs.YtfjcndlhpfbcgaaGreat
open Go Go.Ab Go.Sort
section
variable {α β : Type} [Inhabited α]
theorem nthA {d : Array α} {i : Nat} (h : i < d.size) (k : α → Option β) : nth d.toList (i : Int) k = k d[i]! := by
  rw [q10 (by omega) (show d.toList[((i : Nat) : Int).toNat]? = some d[i]! by simp [h])]
theorem nthNA {d : Array α} {i : Nat} (h : i < d.size) (k : α → Option β) : nthN d.toList i k = k d[i]! := q39 (by simp [h]) k
theorem q1b (d : Array α) (i j : Nat) : List.set (List.set d.toList i d[j]!) j d[i]! = (swp d i j).toList := by simp [swp]
theorem q0q (d : Array α) (i j : Nat) : (swp d i j).size = d.size := by simp [swp]
end
theorem nthS {α β : Type} {d : Array α} {i j : Nat} (x : α) (h : j < d.size) (k : Option β) : (nth (List.set d.toList i x) (j : Int) fun _ => k) = k := by
  have hl : j < (List.set d.toList i x).length := by simpa using h
  rw [q10 (by omega) (show (List.set d.toList i x)[((j : Nat) : Int).toNat]? = some (List.set d.toList i x)[j] by simp [h])]
theorem nthNS {α β : Type} {d : Array α} {i j : Nat} (x : α) (h : j < d.size) (k : Option β) : (nthN (List.set d.toList i x) j fun _ => k) = k := by
  have hl : j < (List.set d.toList i x).length := by simpa using h
  rw [q39 (List.getElem?_eq_getElem hl)]
theorem qd8 {j : Nat} (h : j < 4611686018427387904) : subI .i64 ((j + 1 : Nat) : Int) 1 = (j : Int) := by
  rw [q1v (by omega) (by omega)]; omega
theorem q7c {lt : Int → Int → Bool} (a : Nat) : ∀ (j : Nat) (d : Array Int), (insInner lt a j d).size = d.size
  | 0, d => rfl
  | j + 1, d => by
    rw [insInner]
    split
    · rw [q7c a j, q0q]
    · rfl
section
variable {cmp : Int → Int → Int} (hc : ∀ x y, z08 x y = some (cmp x y))
include hc
theorem qxo (a b i : Nat) (hi : i < 4611686018427387904) : ∀ (j : Nat) (d : Array Int), j < d.size → d.size < 4611686018427387904 →
    Le (z0d (a : Int) (b : Int) ((i + 1 : Nat) : Int) (insInner (fun x y => ltB (cmp x y) 0) a j d).toList) (z0h (a : Int) (b : Int) (i : Int) (j : Int) d.toList)
  | 0, d, hj, hd => fun r hr => by
    apply qz8
    rw [q02 (by omega), q04 hi]
    simpa [insInner] using hr
  | j + 1, d, hj, hd => fun r hr => by
    apply qz8
    by_cases ha : a < j + 1
    · have h1 : ltB (a : Int) ((j + 1 : Nat) : Int) = true := q05 (by omega)
      simp only [h1, cond_true, qd8 (show j < 4611686018427387904 by omega), Int.toNat_natCast, nthA hj, nthA (show j < d.size by omega), nthNA hj, nthNA (show j < d.size by omega), hc, Option.bind_some]
      rw [insInner] at hr
      cases hlt : ltB (cmp d[j + 1]! d[j]!) 0 with
      | true =>
        simp only [cond_true, nthS _ (show j < d.size by omega), nthNS _ (show j < d.size by omega), q1b]
        refine qxo a b i hi j (swp d (j + 1) j) (by rw [q0q]; omega) (by rw [q0q]; exact hd) r ?_
        simpa [ha, hlt] using hr
      | false =>
        simp only [cond_false, q04 hi]
        simpa [ha, hlt] using hr
    · rw [q02 (by omega), q04 hi]
      simpa [insInner, ha] using hr
theorem qxy (a b : Nat) (hb : b < 4611686018427387904) : ∀ (n i : Nat) (d : Array Int), b ≤ i + n → b ≤ d.size → d.size < 4611686018427387904 →
    z0d (a : Int) (b : Int) (i : Int) d.toList = some (insOuter (fun x y => ltB (cmp x y) 0) a b i d).toList
  | n, i, d, hn, hbd, hd => by
    apply y3d
    rw [insOuter]
    by_cases h : i < b
    · obtain ⟨n, rfl⟩ : ∃ m, n = m + 1 := ⟨n - 1, by omega⟩
      rw [q05 (by omega), if_pos h]
      simp only [cond_true]
      refine qxo hc a b i (by omega) i d (by omega) hd _ ?_
      exact qxy a b hb n (i + 1) _ (by omega) (by rw [q7c]; exact hbd) (by rw [q7c]; exact hd)
    · rw [q02 (by omega), if_neg h]
      rfl
theorem y3j (a b : Nat) (d : Array Int) (hab : a ≤ b) (hbd : b ≤ d.size) (hd : d.size < 4611686018427387904) :
    z14 (a : Int) (b : Int) d.toList = some (insertionSort (fun x y => ltB (cmp x y) 0) d a b).toList := by
  apply y2j
  rw [q04 (by omega)]
  exact qxy hc a b (by omega) b (a + 1) d (by omega) hbd hd
end
end Go.Proofs.YtfjcndlhpfbcgaaGreat
