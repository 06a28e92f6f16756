/- Sorting. -/
import Derived.Test.YtbmelgbadedbbaaGreatP14Fn0
import Derived.Test.YtbmelgbadedbbaaGreatP14Fn1
import Derived.Test.YtbmelgbadedbbaaGreatP14Fn2
import Derived.Test.YtbmelgbadedbbaaGreatP14Fn3
import Derived.Test.YtbmelgbadedbbaaGreatP14Fn4
import Derived.Test.YtbmelgbadedbbaaGreatP14Fn5
import Derived.Test.YtbmelgbadedbbaaGreatP14Fn6
import Derived.Test.YtbmelgbadedbbaaGreatMachT
import Derived.Sort.Statements
import Derived.Sort.AssemblyPlain
namespace Go.Proofs.YtbmelgbadedbbaaGreat
open Go Go.Ab Go.Sort
section
variable {α β : Type} [Inhabited α]
theorem nthA {d : Array α} {i : Nat} (h : i < d.size) (k : α → Option β) : nth d.toList (i : Int) k = k d[i]! := by
 rw [q0v (by omega) (show d.toList[((i : Nat) : Int).toNat]? = some d[i]! by simp [h])]
theorem nthNA {d : Array α} {i : Nat} (h : i < d.size) (k : α → Option β) : nthN d.toList i k = k d[i]! := q39 (by simp [h]) k
theorem q1b (d : Array α) (i j : Nat) : List.set (List.set d.toList i d[j]!) j d[i]! = (swp d i j).toList := by simp [swp]
theorem q0o (d : Array α) (i j : Nat) : (swp d i j).size = d.size := by simp [swp]
end
theorem nthS {α β : Type} {d : Array α} {i j : Nat} (x : α) (h : j < d.size) (k : Option β) : (nth (List.set d.toList i x) (j : Int) fun _ => k) = k := by
 have hl : j < (List.set d.toList i x).length := by simpa using h
 rw [q0v (by omega) (show (List.set d.toList i x)[((j : Nat) : Int).toNat]? = some (List.set d.toList i x)[j] by simp [h])]
theorem nthNS {α β : Type} {d : Array α} {i j : Nat} (x : α) (h : j < d.size) (k : Option β) : (nthN (List.set d.toList i x) j fun _ => k) = k := by
 have hl : j < (List.set d.toList i x).length := by simpa using h
 rw [q39 (List.getElem?_eq_getElem hl)]
theorem qe0 {j : Nat} (h : j < 4611686018427387904) : subI .i64 ((j + 1 : Nat) : Int) 1 = (j : Int) := by
 rw [q22 (by omega) (by omega)]; omega
theorem q7h {lt : Int → Int → Bool} (a : Nat) : ∀ (j : Nat) (d : Array Int), (insInner lt a j d).size = d.size
 | 0, d => rfl
 | j + 1, d => by
  rw [insInner];split
  ·rw [q7h a j, q0o]
  ·rfl
section
variable {cmp : Int → Int → Int} (hc : ∀ x y, z08 x y = some (cmp x y))
include hc
theorem qyz (a b i : Nat) (hi : i < 4611686018427387904) : ∀ (j : Nat) (d : Array Int), j < d.size → d.size < 4611686018427387904 →
  Le (z0d (a : Int) (b : Int) ((i + 1 : Nat) : Int) (insInner (fun x y => ltB (cmp x y) 0) a j d).toList) (z0g (a : Int) (b : Int) (i : Int) (j : Int) d.toList)
 | 0, d, hj, hd => fun r hr => by
  apply qz0;rw [q00 (by omega), q02 hi]
  simpa [insInner] using hr
 | j + 1, d, hj, hd => fun r hr => by
  apply qz0;by_cases ha : a < j + 1
  ·have h1 : ltB (a : Int) ((j + 1 : Nat) : Int) = true := q03 (by omega)
   simp only [h1, cond_true, qe0 (show j < 4611686018427387904 by omega), Int.toNat_natCast, nthA hj, nthA (show j < d.size by omega), nthNA hj, nthNA (show j < d.size by omega), hc, Option.bind_some]
   rw [insInner] at hr;cases hlt : ltB (cmp d[j + 1]! d[j]!) 0 with
   | true =>
    simp only [cond_true, nthS _ (show j < d.size by omega), nthNS _ (show j < d.size by omega), q1b]
    refine qyz a b i hi j (swp d (j + 1) j) (by rw [q0o]; omega) (by rw [q0o]; exact hd) r ?_
    simpa [ha, hlt] using hr
   | false =>
    simp only [cond_false, q02 hi];simpa [ha, hlt] using hr
  ·rw [q00 (by omega), q02 hi]
   simpa [insInner, ha] using hr
theorem y1p (a b : Nat) (hb : b < 4611686018427387904) : ∀ (n i : Nat) (d : Array Int), b ≤ i + n → b ≤ d.size → d.size < 4611686018427387904 →
  z0d (a : Int) (b : Int) (i : Int) d.toList = some (insOuter (fun x y => ltB (cmp x y) 0) a b i d).toList
 | n, i, d, hn, hbd, hd => by
  apply y85;rw [insOuter];by_cases h : i < b
  ·obtain ⟨n, rfl⟩ : ∃ m, n = m + 1 := ⟨n - 1, by omega⟩
   rw [q03 (by omega), if_pos h]
   simp only [cond_true];refine qyz hc a b i (by omega) i d (by omega) hd _ ?_
   exact y1p a b hb n (i + 1) _ (by omega) (by rw [q7h]; exact hbd) (by rw [q7h]; exact hd)
  ·rw [q00 (by omega), if_neg h]
   rfl
theorem y7f (a b : Nat) (d : Array Int) (hab : a ≤ b) (hbd : b ≤ d.size) (hd : d.size < 4611686018427387904) :
  z12 (a : Int) (b : Int) d.toList = some (insertionSort (fun x y => ltB (cmp x y) 0) d a b).toList := by
 apply y4q;rw [q02 (by omega)]
 exact y1p hc a b (by omega) b (a + 1) d (by omega) hbd hd
end
end Go.Proofs.YtbmelgbadedbbaaGreat

namespace Go.Proofs.YtbmelgbadedbbaaGreat
open Go Go.Ab Go.Sort
theorem addN {x y : Nat} (h : x + y < 4611686018427387904) : addI .i64 (x : Int) (y : Int) = ((x + y : Nat) : Int) := by
 rw [q1n (by omega) (by omega)]; omega
theorem mul2N {x : Nat} (h : x < 1152921504606846976) : mulI .i64 2 (x : Int) = ((2 * x : Nat) : Int) := by
 show IntKind.wrap .i64 (2 * (x : Int)) = _;rw [q4x (by omega) (by omega)]; omega
theorem subN {x y : Nat} (h : y ≤ x) (hx : x < 4611686018427387904) : subI .i64 (x : Int) (y : Int) = ((x - y : Nat) : Int) := by
 rw [q22 (by omega) (by omega)]; omega
theorem q6p {lt : Int → Int → Bool} : ∀ (n hi first root : Nat) (d : Array Int), hi - root ≤ n → (siftDown lt hi first root d).size = d.size
 | n, hi, first, root, d, hn => by
  rw [siftDown];split
  ·rfl
  ·obtain ⟨n, rfl⟩ : ∃ m, n = m + 1 := ⟨n - 1, by omega⟩
   split
   ·split
    ·rfl
    ·split
     ·rw [q6p n _ _ _ _ (by omega), q0o]
     ·rfl
   ·split
    ·rfl
    ·rw [q6p n _ _ _ _ (by omega), q0o]
section
variable {cmp : Int → Int → Int} (hc : ∀ x y, z08 x y = some (cmp x y))
include hc
theorem qng (hi first : Nat) : ∀ (n root : Nat) (d : Array Int), hi - root ≤ n → root ≤ hi → first + hi ≤ d.size → d.size < 1152921504606846976 →
  z0c (hi : Int) (first : Int) (root : Int) d.toList = some (siftDown (fun x y => ltB (cmp x y) 0) hi first root d).toList
 | n, root, d, hn, hr, hs, hd => by
  have e1 := mul2N (x := root) (by omega)
  have e2 : addI .i64 ((2 * root : Nat) : Int) 1 = ((2 * root + 1 : Nat) : Int) := q02 (by omega)
  have e3 : addI .i64 ((2 * root + 1 : Nat) : Int) 1 = ((2 * root + 2 : Nat) : Int) := q02 (by omega)
  have e4 := addN (x := first) (y := root) (by omega)
  apply y4w;rw [siftDown];by_cases h1 : 2 * root + 1 ≥ hi
  ·simp only [e1, e2, q0e (show (hi : Int) ≤ ((2 * root + 1 : Nat) : Int) by omega), cond_true, dif_pos h1]
  ·obtain ⟨n, rfl⟩ : ∃ m, n = m + 1 := ⟨n - 1, by omega⟩
   have e5 := addN (x := first) (y := 2 * root + 1) (by omega)
   have b1 : first + root < d.size := by omega
   have b2 : first + (2 * root + 1) < d.size := by omega
   have low : ∀ res, (bif (!(ltB (cmp d[first + root]! d[first + (2 * root + 1)]!) 0)) then some d.toList else z0c (hi : Int) (first : Int) ((2 * root + 1 : Nat) : Int) (swp d (first + root) (first + (2 * root + 1))).toList) = res →
     (if !(fun x y => ltB (cmp x y) 0) d[first + root]! d[first + (2 * root + 1)]! then d else siftDown (fun x y => ltB (cmp x y) 0) hi first (2 * root + 1) (swp d (first + root) (first + (2 * root + 1)))).toList = (res.getD []) ∧ res ≠ none := by
    intro res hres;cases hlt : ltB (cmp d[first + root]! d[first + (2 * root + 1)]!) 0 with
    | true =>
     have ih := qng hi first n (2 * root + 1) (swp d (first + root) (first + (2 * root + 1))) (by omega) (by omega) (by rw [q0o]; exact hs) (by rw [q0o]; exact hd)
     rw [hlt] at hres;simp only [Bool.not_true, cond_false, ih] at hres;subst hres;simp [hlt]
    | false =>
     rw [hlt] at hres;simp only [Bool.not_false, cond_true] at hres;subst hres;simp [hlt]
   have fin : ∀ {x : Option (List Int)} {l : List Int}, l = x.getD [] ∧ x ≠ none → x = some l := by
    rintro x l ⟨rfl, h⟩; cases x with
    | none => exact absurd rfl h
    | some y => rfl
   simp only [e1, e2, q09 (show ((2 * root + 1 : Nat) : Int) < (hi : Int) by omega), cond_false, dif_neg h1, e3, e4, e5, Int.toNat_natCast]
   by_cases h2 : 2 * root + 2 < hi
   ·have e6 : addI .i64 ((first + (2 * root + 1) : Nat) : Int) 1 = ((first + (2 * root + 1) + 1 : Nat) : Int) := q02 (by omega)
    have e7 := addN (x := first) (y := 2 * root + 2) (by omega)
    have b3 : first + (2 * root + 1) + 1 < d.size := by omega
    have b4 : first + (2 * root + 2) < d.size := by omega
    simp only [q03 (show ((2 * root + 2 : Nat) : Int) < (hi : Int) by omega), cond_true, e6, e7, Int.toNat_natCast, nthA b1, nthA b2, nthA b3, nthA b4, nthNA b1, nthNA b2, nthNA b3, nthNA b4, hc, Option.bind_some, nthS _ b2, nthNS _ b2, nthS _ b4, nthNS _ b4, q1b]
    cases h3 : ltB (cmp d[first + (2 * root + 1)]! d[first + (2 * root + 1) + 1]!) 0 with
    | true =>
     have hcond : (decide (2 * root + 1 + 1 < hi) && true) = true := by simp; omega
     simp only [cond_true];rw [if_pos hcond];cases h4 : ltB (cmp d[first + root]! d[first + (2 * root + 2)]!) 0 with
     | true =>
      simp only [Bool.not_true, cond_false, Bool.false_eq_true, if_false, dif_pos h2];exact qng hi first n (2 * root + 2) (swp d (first + root) (first + (2 * root + 2))) (by omega) (by omega) (by rw [q0o]; exact hs) (by rw [q0o]; exact hd)
     | false => simp only [Bool.not_false, cond_true, if_true]
    | false =>
     have hcond : ¬ (decide (2 * root + 1 + 1 < hi) && false) = true := by simp
     simp only [cond_false];rw [if_neg hcond];exact fin (low _ rfl)
   ·have hcond : ¬ (decide (2 * root + 1 + 1 < hi) && ltB (cmp d[first + (2 * root + 1)]! d[first + (2 * root + 1) + 1]!) 0) = true := by simp; omega
    simp only [q00 (show (hi : Int) ≤ ((2 * root + 2 : Nat) : Int) by omega), cond_false, nthA b1, nthA b2, nthNA b1, nthNA b2, hc, Option.bind_some, nthS _ b2, nthNS _ b2, q1b]
    rw [if_neg hcond];exact fin (low _ rfl)
theorem quh (lo hi first : Nat) (d : Array Int) (hl : lo ≤ hi) (hs : first + hi ≤ d.size) (hd : d.size < 1152921504606846976) :
  z10 (lo : Int) (hi : Int) (first : Int) d.toList = some (siftDown (fun x y => ltB (cmp x y) 0) hi first lo d).toList := by
 apply y54;exact qng hc hi first hi lo d (by omega) hl hs hd
end
end Go.Proofs.YtbmelgbadedbbaaGreat

namespace Go.Proofs.YtbmelgbadedbbaaGreat
open Go Go.Ab Go.Sort
section
variable {cmp : Int → Int → Int} (hc : ∀ x y, z08 x y = some (cmp x y))
include hc
theorem qvz (first : Nat) : ∀ (k : Nat) (d : Array Int), first + k ≤ d.size → d.size < 1152921504606846976 →
  z0p (first : Int) 0 ((k : Int) - 1) d.toList = some (heapPop (fun x y => ltB (cmp x y) 0) first k d).toList
 | 0, d, hs, hd => by
  apply qzk;rw [q09 (by omega)]
  rfl
 | k + 1, d, hs, hd => by
  apply qzk;have e0 : ((k + 1 : Nat) : Int) - 1 = (k : Int) := by omega
  have e1 := addN (x := first) (y := k) (by omega)
  have b1 : first + k < d.size := by omega
  have b2 : first < d.size := by omega
  have e2 : subI .i64 (k : Int) 1 = (k : Int) - 1 := q22 (by omega) (by omega)
  have s1 := quh hc 0 k first (swp d first (first + k)) (by omega) (by rw [q0o]; omega) (by rw [q0o]; exact hd)
  have ih := qvz first k (siftDown (fun x y => ltB (cmp x y) 0) k first 0 (swp d first (first + k))) (by rw [q6p k _ _ _ _ (by omega), q0o]; omega) (by rw [q6p k _ _ _ _ (by omega), q0o]; exact hd)
  simp only [e0, q0e (show (0 : Int) ≤ (k : Int) by omega), cond_true, e1, Int.toNat_natCast, nthA b1, nthA b2, nthNA b1, nthNA b2, nthS _ b1, nthNS _ b1, q1b, e2]
  rw [show (0 : Int) = ((0 : Nat) : Int) from rfl, s1]
  simp only [Option.bind_some];rw [heapPop];exact ih
theorem qut (first hi : Nat) : ∀ (k : Nat) (d : Array Int), k ≤ hi + 1 → first + hi ≤ d.size → d.size < 1152921504606846976 →
  z0o (first : Int) 0 (hi : Int) ((k : Int) - 1) d.toList = some (heapPop (fun x y => ltB (cmp x y) 0) first hi (heapBuild (fun x y => ltB (cmp x y) 0) hi first k d)).toList
 | 0, d, hk, hs, hd => by
  apply qzy;have e : subI .i64 (hi : Int) 1 = (hi : Int) - 1 := q22 (by omega) (by omega)
  rw [q09 (by omega), cond_false, e]
  exact qvz hc first hi d hs hd
 | k + 1, d, hk, hs, hd => by
  apply qzy;have e0 : ((k + 1 : Nat) : Int) - 1 = (k : Int) := by omega
  have e2 : subI .i64 (k : Int) 1 = (k : Int) - 1 := q22 (by omega) (by omega)
  have s1 := quh hc k hi first d (by omega) hs hd
  have ih := qut first hi k (siftDown (fun x y => ltB (cmp x y) 0) hi first k d) (by omega) (by rw [q6p hi _ _ _ _ (by omega)]; exact hs) (by rw [q6p hi _ _ _ _ (by omega)]; exact hd)
  simp only [e0, q0e (show (0 : Int) ≤ (k : Int) by omega), cond_true, s1, Option.bind_some, e2]
  rw [heapBuild];exact ih
theorem y28 (a b : Nat) (d : Array Int) (hab : a ≤ b) (hbd : b ≤ d.size) (hd : d.size < 1152921504606846976) :
  z17 (a : Int) (b : Int) d.toList = some (heapSort (fun x y => ltB (cmp x y) 0) d a b).toList := by
 apply y4n;have e1 := subN hab (show b < 4611686018427387904 by omega)
 have e2 : subI .i64 ((b - a : Nat) : Int) 1 = ((b - a : Nat) : Int) - 1 := q22 (by omega) (by omega)
 have e3 : quoI .i64 (((b - a : Nat) : Int) - 1) 2 = (((b - a - 1) / 2 + 1 : Nat) : Int) - 1 := by
  show IntKind.wrap .i64 ((((b - a : Nat) : Int) - 1).tdiv 2) = _;have : (((b - a : Nat) : Int) - 1).tdiv 2 = (((b - a - 1) / 2 : Nat) : Int) := by
   by_cases h0 : b - a = 0
   ·rw [h0]; rfl
   ·rw [show (((b - a : Nat) : Int) - 1) = ((b - a - 1 : Nat) : Int) by omega]
    rfl
  rw [this, q4x (by omega) (by omega)]
  omega
 rw [e1, e2, e3];exact qut hc a (b - a) _ d (by omega) (by omega) hd
end
end Go.Proofs.YtbmelgbadedbbaaGreat

namespace Go.Proofs.YtbmelgbadedbbaaGreat
open Go Go.Ab Go.Sort
def Lim (d : Array Int) : Prop := d.size < 1152921504606846976
theorem y07 : ∀ (n i j : Nat) (d : Array Int), j ≤ i + n → j < d.size → Lim d → z0s (i : Int) (j : Int) d.toList = some (reverseLoop i j d).toList
 | n, i, j, d, hn, hj, hd => by
  have hd' : d.size < 1152921504606846976 := hd;apply y6i;rw [reverseLoop];by_cases h : i < j
  ·obtain ⟨n, rfl⟩ : ∃ m, n = m + 1 := ⟨n - 1, by omega⟩
   have bi : i < d.size := by omega
   have e2 : subI .i64 (j : Int) 1 = ((j - 1 : Nat) : Int) := by rw [q22 (by omega) (by omega)]; omega
   simp only [q03 (show (i : Int) < (j : Int) by omega), cond_true, Int.toNat_natCast, nthA bi, nthA hj, nthNA bi, nthNA hj, nthS _ hj, nthNS _ hj, q1b, q02 (show i < 4611686018427387904 by omega), e2, if_pos h]
   exact y07 n (i + 1) (j - 1) (swp d i j) (by omega) (by rw [q0o]; omega) (by unfold Lim; rw [q0o]; exact hd)
  ·rw [q00 (by omega), if_neg h]
   rfl
theorem y43 (a b : Nat) (d : Array Int) (_hab : a ≤ b) (h0 : 0 < b) (hbd : b ≤ d.size) (hd : Lim d) : z0k (a : Int) (b : Int) d.toList = some (reverseRange d a b).toList := by
 have hd' : d.size < 1152921504606846976 := hd;apply y71;rw [show subI .i64 (b : Int) 1 = ((b - 1 : Nat) : Int) by rw [q22 (by omega) (by omega)]; omega]
 exact y07 (b - 1) a (b - 1) d (by omega) (by omega) hd
section
variable {cmp : Int → Int → Int} (hc : ∀ x y, z08 x y = some (cmp x y))
include hc
theorem qgq (d : Array Int) (a b s : Nat) (ha : a < d.size) (hb : b < d.size) (hs : s < 1000) :
  z0v (a : Int) (b : Int) d.toList (s : Int) = some (((order2 (fun x y => ltB (cmp x y) 0) d a b s).1 : Int), ((order2 (fun x y => ltB (cmp x y) 0) d a b s).2.1 : Int), d.toList, ((order2 (fun x y => ltB (cmp x y) 0) d a b s).2.2 : Int)) := by
 apply y45;simp only [nthA ha, nthA hb, nthNA ha, nthNA hb, Int.toNat_natCast, hc, Option.bind_some, q02 (show s < 4611686018427387904 by omega)]
 unfold order2;cases h : ltB (cmp d[b]! d[a]!) 0 <;> simp [h]
omit hc in
theorem q8x {lt : Int → Int → Bool} (d : Array Int) (a b s : Nat) (ha : a < d.size) (hb : b < d.size) :
  (order2 lt d a b s).1 < d.size ∧ (order2 lt d a b s).2.1 < d.size ∧ (order2 lt d a b s).2.2 ≤ s + 1 := by
 unfold order2; split <;> exact ⟨by assumption, by assumption, by simp⟩
theorem qfo (d : Array Int) (a b c s : Nat) (ha : a < d.size) (hb : b < d.size) (hcs : c < d.size) (hs : s < 900) :
  z0u (a : Int) (b : Int) (c : Int) d.toList (s : Int) = some (((median (fun x y => ltB (cmp x y) 0) d a b c s).1 : Int), d.toList, ((median (fun x y => ltB (cmp x y) 0) d a b c s).2 : Int)) := by
 apply y5k;obtain ⟨i1, i2, i3⟩ := q8x (lt := fun x y => ltB (cmp x y) 0) d a b s ha hb
 rw [qgq hc d a b s ha hb (by omega)]
 simp only [Option.bind_some];generalize hr1 : order2 (fun x y => ltB (cmp x y) 0) d a b s = r1 at i1 i2 i3
 obtain ⟨j1, j2, j3⟩ := q8x (lt := fun x y => ltB (cmp x y) 0) d r1.2.1 c r1.2.2 i2 hcs
 rw [qgq hc d r1.2.1 c r1.2.2 i2 hcs (by omega)]
 simp only [Option.bind_some];generalize hr2 : order2 (fun x y => ltB (cmp x y) 0) d r1.2.1 c r1.2.2 = r2 at j1 j2 j3
 rw [qgq hc d r1.1 r2.1 r2.2.2 i1 j1 (by omega)]
 simp only [Option.bind_some];unfold median;simp only [hr1, hr2]
end
end Go.Proofs.YtbmelgbadedbbaaGreat

namespace Go.Proofs.YtbmelgbadedbbaaGreat
open Go Go.Ab Go.Sort
def hintI : Hint → Int
 | .unknown => 0 | .increasing => 1 | .decreasing => 2
theorem quo4 {x : Nat} (h : x < 4611686018427387904) : quoI .i64 (x : Int) 4 = ((x / 4 : Nat) : Int) := by
 show IntKind.wrap .i64 ((x : Int).tdiv 4) = _;rw [show (x : Int).tdiv 4 = ((x / 4 : Nat) : Int) from rfl, q4x (by omega) (by omega)]
theorem mulN {x k : Nat} (h : x * k < 4611686018427387904) : mulI .i64 (x : Int) (k : Int) = ((x * k : Nat) : Int) := by
 show IntKind.wrap .i64 ((x : Int) * (k : Int)) = _;rw [← Int.natCast_mul, q4x (by omega) (by omega)]
theorem q8f {lt : Int → Int → Bool} (d : Array Int) (a b c s : Nat) (ha : a < d.size) (hb : b < d.size) (hc : c < d.size) : (median lt d a b c s).1 < d.size ∧ (median lt d a b c s).2 ≤ s + 3 := by
 unfold median;obtain ⟨i1, i2, i3⟩ := q8x (lt := lt) d a b s ha hb;obtain ⟨j1, j2, j3⟩ := q8x (lt := lt) d _ c (order2 lt d a b s).2.2 i2 hc;obtain ⟨k1, k2, k3⟩ := q8x (lt := lt) d _ _ (order2 lt d (order2 lt d a b s).2.1 c (order2 lt d a b s).2.2).2.2 i1 j1;exact ⟨k2, by simp only; omega⟩
section
variable {cmp : Int → Int → Int} (hc : ∀ x y, z08 x y = some (cmp x y))
include hc
theorem q8m (d : Array Int) (a s : Nat) (h0 : 1 ≤ a) (ha : a + 1 < d.size) (hd : Lim d) (hs : s < 900) :
  z0i (a : Int) d.toList (s : Int) = some (((medianAdjacent (fun x y => ltB (cmp x y) 0) d a s).1 : Int), d.toList, ((medianAdjacent (fun x y => ltB (cmp x y) 0) d a s).2 : Int)) := by
 have hd' : d.size < 1152921504606846976 := hd;apply y4g;rw [show subI .i64 (a : Int) 1 = ((a - 1 : Nat) : Int) by rw [q22 (by omega) (by omega)]; omega, q02 (by omega), qfo hc d (a - 1) a (a + 1) s (by omega) (by omega) ha hs]
 rfl
theorem y35 (d : Array Int) (a b : Nat) (hab : a < b) (hbd : b ≤ d.size) (hd : Lim d) :
  z0n (a : Int) (b : Int) d.toList = some (((choosePivot (fun x y => ltB (cmp x y) 0) d a b).1 : Int), hintI (choosePivot (fun x y => ltB (cmp x y) 0) d a b).2, d.toList) := by
 have hd' : d.size < 1152921504606846976 := hd;apply y7o;have el := subN (x := b) (y := a) (by omega) (by omega)
 have eq := quo4 (x := b - a) (by omega)
 have m1 : mulI .i64 (((b - a) / 4 : Nat) : Int) 1 = (((b - a) / 4 * 1 : Nat) : Int) := mulN (k := 1) (by omega)
 have m2 : mulI .i64 (((b - a) / 4 : Nat) : Int) 2 = (((b - a) / 4 * 2 : Nat) : Int) := mulN (k := 2) (by omega)
 have m3 : mulI .i64 (((b - a) / 4 : Nat) : Int) 3 = (((b - a) / 4 * 3 : Nat) : Int) := mulN (k := 3) (by omega)
 have a1 := addN (x := a) (y := (b - a) / 4 * 1) (by omega)
 have a2 := addN (x := a) (y := (b - a) / 4 * 2) (by omega)
 have a3 := addN (x := a) (y := (b - a) / 4 * 3) (by omega)
 simp only [el, eq, m1, m2, m3, a1, a2, a3];have tail : ∀ (p : Nat × Nat), p.2 ≤ 900 → (bif (eqB (p.2 : Int) 0) then some ((p.1 : Int), (1 : Int), d.toList) else bif (eqB (p.2 : Int) 12) then some ((p.1 : Int), 2, d.toList) else some ((p.1 : Int), 0, d.toList)) =
   some ((p.1 : Int), hintI (if p.2 = 0 then .increasing else if p.2 = 12 then .decreasing else .unknown), d.toList) := by
  intro p _;by_cases h0 : p.2 = 0
  ·simp [h0, eqB, hintI]
  ·by_cases h12 : p.2 = 12
   ·simp [h12, eqB, hintI]
   ·rw [q0t (by omega), q0t (by omega)]
    simp [h0, h12, hintI]
 unfold choosePivot;by_cases h8 : b - a ≥ 8
 ·rw [q0e (show (8 : Int) ≤ ((b - a : Nat) : Int) by omega)]
  simp only [cond_true, if_pos h8];by_cases h50 : b - a ≥ 50
  ·rw [q0e (show (50 : Int) ≤ ((b - a : Nat) : Int) by omega)]
   simp only [cond_true, if_pos h50];have q1 := q8m hc d (a + (b - a) / 4 * 1) 0 (by omega) (by omega) hd (by omega)
   have i1 := q8f (lt := fun x y => ltB (cmp x y) 0) d (a + (b - a) / 4 * 1 - 1) (a + (b - a) / 4 * 1) (a + (b - a) / 4 * 1 + 1) 0 (by omega) (by omega) (by omega)
   rw [show (0 : Int) = ((0 : Nat) : Int) from rfl, q1]
   simp only [Option.bind_some];change (medianAdjacent (fun x y => ltB (cmp x y) 0) d (a + (b - a) / 4 * 1) 0).1 < d.size ∧ (medianAdjacent (fun x y => ltB (cmp x y) 0) d (a + (b - a) / 4 * 1) 0).2 ≤ 0 + 3 at i1
   generalize medianAdjacent (fun x y => ltB (cmp x y) 0) d (a + (b - a) / 4 * 1) 0 = r1 at i1
   have q2 := q8m hc d (a + (b - a) / 4 * 2) r1.2 (by omega) (by omega) hd (by omega)
   have i2 := q8f (lt := fun x y => ltB (cmp x y) 0) d (a + (b - a) / 4 * 2 - 1) (a + (b - a) / 4 * 2) (a + (b - a) / 4 * 2 + 1) r1.2 (by omega) (by omega) (by omega)
   rw [q2];simp only [Option.bind_some];change (medianAdjacent (fun x y => ltB (cmp x y) 0) d (a + (b - a) / 4 * 2) r1.2).1 < d.size ∧ (medianAdjacent (fun x y => ltB (cmp x y) 0) d (a + (b - a) / 4 * 2) r1.2).2 ≤ r1.2 + 3 at i2
   generalize medianAdjacent (fun x y => ltB (cmp x y) 0) d (a + (b - a) / 4 * 2) r1.2 = r2 at i2
   have q3 := q8m hc d (a + (b - a) / 4 * 3) r2.2 (by omega) (by omega) hd (by omega)
   have i3 := q8f (lt := fun x y => ltB (cmp x y) 0) d (a + (b - a) / 4 * 3 - 1) (a + (b - a) / 4 * 3) (a + (b - a) / 4 * 3 + 1) r2.2 (by omega) (by omega) (by omega)
   rw [q3];simp only [Option.bind_some];change (medianAdjacent (fun x y => ltB (cmp x y) 0) d (a + (b - a) / 4 * 3) r2.2).1 < d.size ∧ (medianAdjacent (fun x y => ltB (cmp x y) 0) d (a + (b - a) / 4 * 3) r2.2).2 ≤ r2.2 + 3 at i3
   generalize medianAdjacent (fun x y => ltB (cmp x y) 0) d (a + (b - a) / 4 * 3) r2.2 = r3 at i3
   have i4 := q8f (lt := fun x y => ltB (cmp x y) 0) d r1.1 r2.1 r3.1 r3.2 i1.1 i2.1 i3.1
   rw [qfo hc d r1.1 r2.1 r3.1 r3.2 i1.1 i2.1 i3.1 (by omega)]
   simp only [Option.bind_some];exact tail _ (by omega)
  ·rw [q09 (show ((b - a : Nat) : Int) < 50 by omega)]
   simp only [cond_false, if_neg h50];have i4 := q8f (lt := fun x y => ltB (cmp x y) 0) d (a + (b - a) / 4 * 1) (a + (b - a) / 4 * 2) (a + (b - a) / 4 * 3) 0 (by omega) (by omega) (by omega)
   rw [show (0 : Int) = ((0 : Nat) : Int) from rfl, qfo hc d _ _ _ 0 (by omega) (by omega) (by omega) (by omega)]
   simp only [Option.bind_some];exact tail _ (by omega)
 ·rw [q09 (show ((b - a : Nat) : Int) < 8 by omega)]
  simp only [cond_false, if_neg h8, if_true];rfl
end
end Go.Proofs.YtbmelgbadedbbaaGreat

namespace Go.Proofs.YtbmelgbadedbbaaGreat
open Go Go.Ab Go.Sort
theorem qc3 (p : Int → Bool) (d : Array Int) (j : Nat) : ∀ (n i : Nat), j + 1 - i ≤ n → i ≤ scanUp p d j i
 | n, i, h => by
  rw [scanUp];split
  ·rename_i hc;simp at hc;obtain ⟨n, rfl⟩ : ∃ m, n = m + 1 := ⟨n - 1, by omega⟩
   have := qc3 p d j n (i + 1) (by omega)
   omega
  ·exact Nat.le_refl _
theorem q79 (p : Int → Bool) (d : Array Int) (i : Nat) : ∀ j, scanDown p d i j ≤ j
 | 0 => Nat.le_refl _
 | j + 1 => by
  rw [scanDown];split
  ·have := q79 p d i j; omega
  ·exact Nat.le_refl _
section
variable {cmp : Int → Int → Int} (hc : ∀ x y, z08 x y = some (cmp x y))
include hc
theorem pe_l2 (a j : Nat) (d : Array Int) (ha : a < d.size) (hj : j < d.size) (hd : Lim d) : ∀ (n i : Nat), j + 1 - i ≤ n →
  Le (z0f (a : Int) ((scanUp (fun x => !ltB (cmp d[a]! x) 0) d j i : Nat) : Int) (j : Int) false d.toList) (z0q (a : Int) (i : Int) (j : Int) d.toList)
 | n, i, hn => fun r hr => by
  have hd' : d.size < 1152921504606846976 := hd;apply y7z;rw [scanUp] at hr;by_cases h : i ≤ j
  ·obtain ⟨n, rfl⟩ : ∃ m, n = m + 1 := ⟨n - 1, by omega⟩
   have bi : i < d.size := by omega
   simp only [q0e (show (i : Int) ≤ (j : Int) by omega), cond_true, Int.toNat_natCast, nthA ha, nthA bi, nthNA ha, nthNA bi, hc, Option.bind_some, q02 (show i < 4611686018427387904 by omega)]
   cases hl : ltB (cmp d[a]! d[i]!) 0 with
   | true =>
    simp only [Bool.not_true, cond_false];simpa [h, hl] using hr
   | false =>
    simp only [Bool.not_false, cond_true];refine pe_l2 a j d ha hj hd n (i + 1) (by omega) r ?_
    simpa [h, hl] using hr
  ·rw [q09 (by omega)]
   simpa [h] using hr
theorem pe_l4 (a i : Nat) (d : Array Int) (ha : a < d.size) (hi : 1 ≤ i) (hd : Lim d) : ∀ (j : Nat), j < d.size →
  Le (if scanDown (fun x => ltB (cmp d[a]! x) 0) d i j < i then some ((i : Int), d.toList) else z0a (a : Int) ((i + 1 : Nat) : Int) ((scanDown (fun x => ltB (cmp d[a]! x) 0) d i j - 1 : Nat) : Int) (swp d i (scanDown (fun x => ltB (cmp d[a]! x) 0) d i j)).toList)
   (z0r (a : Int) (i : Int) (j : Int) d.toList)
 | j, hj => fun r hr => by
  have hd' : d.size < 1152921504606846976 := hd;apply y7p;by_cases h : i ≤ j
  ·obtain ⟨j, rfl⟩ : ∃ m, j = m + 1 := ⟨j - 1, by omega⟩
   have bi : i < d.size := by omega
   simp only [q0e (show (i : Int) ≤ ((j + 1 : Nat) : Int) by omega), cond_true, Int.toNat_natCast, nthA ha, nthA hj, nthA bi, nthNA ha, nthNA hj, nthNA bi, hc, Option.bind_some, qe0 (show j < 4611686018427387904 by omega), nthS _ hj, nthNS _ hj, q1b, q02 (show i < 4611686018427387904 by omega)]
   rw [scanDown] at hr;cases hl : ltB (cmp d[a]! d[j + 1]!) 0 with
   | true =>
    simp only [cond_true];refine pe_l4 a i d ha hi hd j (by omega) r ?_
    simpa [h, hl] using hr
   | false =>
    simp only [cond_false, q00 (show (i : Int) ≤ ((j + 1 : Nat) : Int) by omega)]
    simp only [h, hl, decide_true, Bool.and_false, Bool.false_eq_true, if_false] at hr;rw [if_neg (by omega)] at hr
    simpa using hr
  ·have hs : scanDown (fun x => ltB (cmp d[a]! x) 0) d i j = j := by
    cases j with
    | zero => rfl
    | succ j => rw [scanDown]; simp [h]
   rw [hs, if_pos (by omega)] at hr
   rw [q09 (by omega), q03 (by omega)]
   exact hr
theorem pe_l3 (a i : Nat) (d : Array Int) (ha : a < d.size) (hi : 1 ≤ i) (hd : Lim d) : ∀ (j : Nat), j < d.size →
  Le (if scanDown (fun x => ltB (cmp d[a]! x) 0) d i j < i then some ((i : Int), d.toList) else z0a (a : Int) ((i + 1 : Nat) : Int) ((scanDown (fun x => ltB (cmp d[a]! x) 0) d i j - 1 : Nat) : Int) (swp d i (scanDown (fun x => ltB (cmp d[a]! x) 0) d i j)).toList)
   (z0f (a : Int) (i : Int) (j : Int) false d.toList)
 | j, hj => fun r hr => by
  have hd' : d.size < 1152921504606846976 := hd;apply y5u;by_cases h : i ≤ j
  ·obtain ⟨j, rfl⟩ : ∃ m, j = m + 1 := ⟨j - 1, by omega⟩
   have bi : i < d.size := by omega
   simp only [q0e (show (i : Int) ≤ ((j + 1 : Nat) : Int) by omega), cond_true, Int.toNat_natCast, nthA ha, nthA hj, nthA bi, nthNA ha, nthNA hj, nthNA bi, hc, Option.bind_some, qe0 (show j < 4611686018427387904 by omega), nthS _ hj, nthNS _ hj, q1b, q02 (show i < 4611686018427387904 by omega)]
   rw [scanDown] at hr;cases hl : ltB (cmp d[a]! d[j + 1]!) 0 with
   | true =>
    simp only [cond_true];refine pe_l4 hc a i d ha hi hd j (by omega) r ?_
    simpa [h, hl] using hr
   | false =>
    simp only [cond_false, q00 (show (i : Int) ≤ ((j + 1 : Nat) : Int) by omega)]
    simp only [h, hl, decide_true, Bool.and_false, Bool.false_eq_true, if_false] at hr;rw [if_neg (by omega)] at hr
    simpa using hr
  ·have hs : scanDown (fun x => ltB (cmp d[a]! x) 0) d i j = j := by
    cases j with
    | zero => rfl
    | succ j => rw [scanDown]; simp [h]
   rw [hs, if_pos (by omega)] at hr
   rw [q09 (by omega), q03 (by omega)]
   exact hr
theorem pe_l1 (a : Nat) : ∀ (n i j : Nat) (d : Array Int), j + 1 - i ≤ n → a < d.size → 1 ≤ i → j < d.size → Lim d →
  z0a (a : Int) (i : Int) (j : Int) d.toList = some (((partEqLoop (fun x y => ltB (cmp x y) 0) a i j d).1 : Int), (partEqLoop (fun x y => ltB (cmp x y) 0) a i j d).2.toList)
 | n, i, j, d, hn, ha, hi, hj, hd => by
  have hd' : d.size < 1152921504606846976 := hd;have u := qc3 (fun x => !ltB (cmp d[a]! x) 0) d j (j + 1 - i) i (Nat.le_refl _)
  have v := q79 (fun x => ltB (cmp d[a]! x) 0) d (scanUp (fun x => !ltB (cmp d[a]! x) 0) d j i) j
  apply y7y;refine pe_l2 hc a j d ha hj hd (j + 1 - i) i (Nat.le_refl _) _ ?_;refine pe_l3 hc a _ d ha (by omega) hd j hj _ ?_
  rw [partEqLoop];generalize scanUp (fun x => !ltB (cmp d[a]! x) 0) d j i = i2 at u v ⊢
  generalize scanDown (fun x => ltB (cmp d[a]! x) 0) d i2 j = j2 at v ⊢
  by_cases h : j2 < i2
  ·rw [if_pos h, if_pos h]
  ·have hg : (j2 - 1) + 1 - (i2 + 1) < j + 1 - i := by omega
   rw [if_neg h, if_neg h, dif_pos hg];obtain ⟨n, rfl⟩ : ∃ m, n = m + 1 := ⟨n - 1, by omega⟩
   exact pe_l1 a n (i2 + 1) (j2 - 1) (swp d i2 j2) (by omega) (by rw [q0o]; exact ha) (by omega) (by rw [q0o]; omega) (by unfold Lim; rw [q0o]; exact hd)
theorem qw1 (a b p : Nat) (d : Array Int) (hap : a ≤ p) (hpb : p < b) (hb : b ≤ d.size) (hd : Lim d) :
  z04 (a : Int) (b : Int) (p : Int) d.toList = some (((partitionEqual (fun x y => ltB (cmp x y) 0) d a b p).1 : Int), (partitionEqual (fun x y => ltB (cmp x y) 0) d a b p).2.toList) := by
 have hd' : d.size < 1152921504606846976 := hd;have ba : a < d.size := by omega
 have bp : p < d.size := by omega
 apply y6d;have e1 : subI .i64 (b : Int) 1 = ((b - 1 : Nat) : Int) := by rw [q22 (by omega) (by omega)]; omega
 simp only [Int.toNat_natCast, nthA ba, nthA bp, nthNA ba, nthNA bp, nthS _ bp, nthNS _ bp, q1b, q02 (show a < 4611686018427387904 by omega), e1]
 exact pe_l1 hc a (b - 1 + 1 - (a + 1)) (a + 1) (b - 1) (swp d a p) (by omega) (by rw [q0o]; exact ba) (by omega) (by rw [q0o]; omega) (by unfold Lim; rw [q0o]; exact hd)
end
end Go.Proofs.YtbmelgbadedbbaaGreat

namespace Go.Proofs.YtbmelgbadedbbaaGreat
open Go Go.Ab Go.Sort
section
variable {cmp : Int → Int → Int} (hc : ∀ x y, z08 x y = some (cmp x y))
include hc
theorem pa_l1 (a j : Nat) (d : Array Int) (ha : a < d.size) (hj : j < d.size) (hd : Lim d) : ∀ (n i : Nat), j + 1 - i ≤ n →
  Le (z0l (a : Int) ((scanUp (fun x => ltB (cmp x d[a]!) 0) d j i : Nat) : Int) (j : Int) false d.toList) (z0w (a : Int) (i : Int) (j : Int) d.toList)
 | n, i, hn => fun r hr => by
  have hd' : d.size < 1152921504606846976 := hd;apply y6q;rw [scanUp] at hr;by_cases h : i ≤ j
  ·obtain ⟨n, rfl⟩ : ∃ m, n = m + 1 := ⟨n - 1, by omega⟩
   have bi : i < d.size := by omega
   simp only [q0e (show (i : Int) ≤ (j : Int) by omega), cond_true, Int.toNat_natCast, nthA ha, nthA bi, nthNA ha, nthNA bi, hc, Option.bind_some, q02 (show i < 4611686018427387904 by omega)]
   cases hl : ltB (cmp d[i]! d[a]!) 0 with
   | false =>
    simp only [cond_false];simpa [h, hl] using hr
   | true =>
    simp only [cond_true];refine pa_l1 a j d ha hj hd n (i + 1) (by omega) r ?_
    simpa [h, hl] using hr
  ·rw [q09 (by omega)]
   simpa [h] using hr
theorem pa_l5 (a j : Nat) (d : Array Int) (ha : a < d.size) (hj : j < d.size) (hd : Lim d) : ∀ (n i : Nat), j + 1 - i ≤ n →
  Le (z0m (a : Int) ((scanUp (fun x => ltB (cmp x d[a]!) 0) d j i : Nat) : Int) (j : Int) false d.toList) (z0y (a : Int) (i : Int) (j : Int) d.toList)
 | n, i, hn => fun r hr => by
  have hd' : d.size < 1152921504606846976 := hd;apply y4o;rw [scanUp] at hr;by_cases h : i ≤ j
  ·obtain ⟨n, rfl⟩ : ∃ m, n = m + 1 := ⟨n - 1, by omega⟩
   have bi : i < d.size := by omega
   simp only [q0e (show (i : Int) ≤ (j : Int) by omega), cond_true, Int.toNat_natCast, nthA ha, nthA bi, nthNA ha, nthNA bi, hc, Option.bind_some, q02 (show i < 4611686018427387904 by omega)]
   cases hl : ltB (cmp d[i]! d[a]!) 0 with
   | false =>
    simp only [cond_false];simpa [h, hl] using hr
   | true =>
    simp only [cond_true];refine pa_l5 a j d ha hj hd n (i + 1) (by omega) r ?_
    simpa [h, hl] using hr
  ·rw [q09 (by omega)]
   simpa [h] using hr
theorem pa_l3 (a i : Nat) (d : Array Int) (ha : a < d.size) (hi : 1 ≤ i) (hd : Lim d) : ∀ (j : Nat), j < d.size →
  Le (if scanDown (fun x => !ltB (cmp x d[a]!) 0) d i j < i then some (((scanDown (fun x => !ltB (cmp x d[a]!) 0) d i j : Nat) : Int), true, (swp d (scanDown (fun x => !ltB (cmp x d[a]!) 0) d i j) a).toList) else z06 (a : Int) ((i + 1 : Nat) : Int) ((scanDown (fun x => !ltB (cmp x d[a]!) 0) d i j - 1 : Nat) : Int) (swp d i (scanDown (fun x => !ltB (cmp x d[a]!) 0) d i j)).toList)
   (z0x (a : Int) (i : Int) (j : Int) d.toList)
 | j, hj => fun r hr => by
  have hd' : d.size < 1152921504606846976 := hd;apply y7k;by_cases h : i ≤ j
  ·obtain ⟨j, rfl⟩ : ∃ m, j = m + 1 := ⟨j - 1, by omega⟩
   have bi : i < d.size := by omega
   simp only [q0e (show (i : Int) ≤ ((j + 1 : Nat) : Int) by omega), cond_true, Int.toNat_natCast, nthA ha, nthA hj, nthA bi, nthNA ha, nthNA hj, nthNA bi, hc, Option.bind_some, qe0 (show j < 4611686018427387904 by omega), nthS _ hj, nthNS _ hj, nthS _ ha, nthNS _ ha, q1b, q02 (show i < 4611686018427387904 by omega)]
   rw [scanDown] at hr;cases hl : ltB (cmp d[j + 1]! d[a]!) 0 with
   | false =>
    simp only [Bool.not_false, cond_true];refine pa_l3 a i d ha hi hd j (by omega) r ?_
    simpa [h, hl] using hr
   | true =>
    simp only [Bool.not_true, cond_false, q00 (show (i : Int) ≤ ((j + 1 : Nat) : Int) by omega)]
    simp only [h, hl, decide_true, Bool.not_true, Bool.and_false, Bool.false_eq_true, if_false] at hr;rw [if_neg (by omega)] at hr
    simpa using hr
  ·have hs : scanDown (fun x => !ltB (cmp x d[a]!) 0) d i j = j := by
    cases j with
    | zero => rfl
    | succ j => rw [scanDown]; simp [h]
   rw [hs, if_pos (by omega)] at hr
   rw [q09 (by omega), q03 (by omega)]
   simp only [cond_false, cond_true, Int.toNat_natCast, nthA ha, nthA hj, nthNA ha, nthNA hj, nthS _ ha, nthNS _ ha, q1b];exact hr
theorem pa_l2 (a i : Nat) (d : Array Int) (ha : a < d.size) (hi : 1 ≤ i) (hd : Lim d) : ∀ (j : Nat), j < d.size →
  Le (if scanDown (fun x => !ltB (cmp x d[a]!) 0) d i j < i then some (((scanDown (fun x => !ltB (cmp x d[a]!) 0) d i j : Nat) : Int), true, (swp d (scanDown (fun x => !ltB (cmp x d[a]!) 0) d i j) a).toList) else z06 (a : Int) ((i + 1 : Nat) : Int) ((scanDown (fun x => !ltB (cmp x d[a]!) 0) d i j - 1 : Nat) : Int) (swp d i (scanDown (fun x => !ltB (cmp x d[a]!) 0) d i j)).toList)
   (z0l (a : Int) (i : Int) (j : Int) false d.toList)
 | j, hj => fun r hr => by
  have hd' : d.size < 1152921504606846976 := hd;apply y8a;by_cases h : i ≤ j
  ·obtain ⟨j, rfl⟩ : ∃ m, j = m + 1 := ⟨j - 1, by omega⟩
   have bi : i < d.size := by omega
   simp only [q0e (show (i : Int) ≤ ((j + 1 : Nat) : Int) by omega), cond_true, Int.toNat_natCast, nthA ha, nthA hj, nthA bi, nthNA ha, nthNA hj, nthNA bi, hc, Option.bind_some, qe0 (show j < 4611686018427387904 by omega), nthS _ hj, nthNS _ hj, nthS _ ha, nthNS _ ha, q1b, q02 (show i < 4611686018427387904 by omega)]
   rw [scanDown] at hr;cases hl : ltB (cmp d[j + 1]! d[a]!) 0 with
   | false =>
    simp only [Bool.not_false, cond_true];refine pa_l3 hc a i d ha hi hd j (by omega) r ?_
    simpa [h, hl] using hr
   | true =>
    simp only [Bool.not_true, cond_false, q00 (show (i : Int) ≤ ((j + 1 : Nat) : Int) by omega)]
    simp only [h, hl, decide_true, Bool.not_true, Bool.and_false, Bool.false_eq_true, if_false] at hr;rw [if_neg (by omega)] at hr
    simpa using hr
  ·have hs : scanDown (fun x => !ltB (cmp x d[a]!) 0) d i j = j := by
    cases j with
    | zero => rfl
    | succ j => rw [scanDown]; simp [h]
   rw [hs, if_pos (by omega)] at hr
   rw [q09 (by omega), q03 (by omega)]
   simp only [cond_false, cond_true, Int.toNat_natCast, nthA ha, nthA hj, nthNA ha, nthNA hj, nthS _ ha, nthNS _ ha, q1b];exact hr
theorem pa_l7 (a i : Nat) (d : Array Int) (ha : a < d.size) (hi : 1 ≤ i) (hd : Lim d) : ∀ (j : Nat), j < d.size →
  Le (if scanDown (fun x => !ltB (cmp x d[a]!) 0) d i j < i then some (((scanDown (fun x => !ltB (cmp x d[a]!) 0) d i j : Nat) : Int), false, (swp d (scanDown (fun x => !ltB (cmp x d[a]!) 0) d i j) a).toList) else z06 (a : Int) ((i + 1 : Nat) : Int) ((scanDown (fun x => !ltB (cmp x d[a]!) 0) d i j - 1 : Nat) : Int) (swp d i (scanDown (fun x => !ltB (cmp x d[a]!) 0) d i j)).toList)
   (z0z (a : Int) (i : Int) (j : Int) d.toList)
 | j, hj => fun r hr => by
  have hd' : d.size < 1152921504606846976 := hd;apply y52;by_cases h : i ≤ j
  ·obtain ⟨j, rfl⟩ : ∃ m, j = m + 1 := ⟨j - 1, by omega⟩
   have bi : i < d.size := by omega
   simp only [q0e (show (i : Int) ≤ ((j + 1 : Nat) : Int) by omega), cond_true, Int.toNat_natCast, nthA ha, nthA hj, nthA bi, nthNA ha, nthNA hj, nthNA bi, hc, Option.bind_some, qe0 (show j < 4611686018427387904 by omega), nthS _ hj, nthNS _ hj, nthS _ ha, nthNS _ ha, q1b, q02 (show i < 4611686018427387904 by omega)]
   rw [scanDown] at hr;cases hl : ltB (cmp d[j + 1]! d[a]!) 0 with
   | false =>
    simp only [Bool.not_false, cond_true];refine pa_l7 a i d ha hi hd j (by omega) r ?_
    simpa [h, hl] using hr
   | true =>
    simp only [Bool.not_true, cond_false, q00 (show (i : Int) ≤ ((j + 1 : Nat) : Int) by omega)]
    simp only [h, hl, decide_true, Bool.not_true, Bool.and_false, Bool.false_eq_true, if_false] at hr;rw [if_neg (by omega)] at hr
    simpa using hr
  ·have hs : scanDown (fun x => !ltB (cmp x d[a]!) 0) d i j = j := by
    cases j with
    | zero => rfl
    | succ j => rw [scanDown]; simp [h]
   rw [hs, if_pos (by omega)] at hr
   rw [q09 (by omega), q03 (by omega)]
   simp only [cond_false, cond_true, Int.toNat_natCast, nthA ha, nthA hj, nthNA ha, nthNA hj, nthS _ ha, nthNS _ ha, q1b];exact hr
theorem pa_l6 (a i : Nat) (d : Array Int) (ha : a < d.size) (hi : 1 ≤ i) (hd : Lim d) : ∀ (j : Nat), j < d.size →
  Le (if scanDown (fun x => !ltB (cmp x d[a]!) 0) d i j < i then some (((scanDown (fun x => !ltB (cmp x d[a]!) 0) d i j : Nat) : Int), false, (swp d (scanDown (fun x => !ltB (cmp x d[a]!) 0) d i j) a).toList) else z06 (a : Int) ((i + 1 : Nat) : Int) ((scanDown (fun x => !ltB (cmp x d[a]!) 0) d i j - 1 : Nat) : Int) (swp d i (scanDown (fun x => !ltB (cmp x d[a]!) 0) d i j)).toList)
   (z0m (a : Int) (i : Int) (j : Int) false d.toList)
 | j, hj => fun r hr => by
  have hd' : d.size < 1152921504606846976 := hd;apply y88;by_cases h : i ≤ j
  ·obtain ⟨j, rfl⟩ : ∃ m, j = m + 1 := ⟨j - 1, by omega⟩
   have bi : i < d.size := by omega
   simp only [q0e (show (i : Int) ≤ ((j + 1 : Nat) : Int) by omega), cond_true, Int.toNat_natCast, nthA ha, nthA hj, nthA bi, nthNA ha, nthNA hj, nthNA bi, hc, Option.bind_some, qe0 (show j < 4611686018427387904 by omega), nthS _ hj, nthNS _ hj, nthS _ ha, nthNS _ ha, q1b, q02 (show i < 4611686018427387904 by omega)]
   rw [scanDown] at hr;cases hl : ltB (cmp d[j + 1]! d[a]!) 0 with
   | false =>
    simp only [Bool.not_false, cond_true];refine pa_l7 hc a i d ha hi hd j (by omega) r ?_
    simpa [h, hl] using hr
   | true =>
    simp only [Bool.not_true, cond_false, q00 (show (i : Int) ≤ ((j + 1 : Nat) : Int) by omega)]
    simp only [h, hl, decide_true, Bool.not_true, Bool.and_false, Bool.false_eq_true, if_false] at hr;rw [if_neg (by omega)] at hr
    simpa using hr
  ·have hs : scanDown (fun x => !ltB (cmp x d[a]!) 0) d i j = j := by
    cases j with
    | zero => rfl
    | succ j => rw [scanDown]; simp [h]
   rw [hs, if_pos (by omega)] at hr
   rw [q09 (by omega), q03 (by omega)]
   simp only [cond_false, cond_true, Int.toNat_natCast, nthA ha, nthA hj, nthNA ha, nthNA hj, nthS _ ha, nthNS _ ha, q1b];exact hr
theorem pa_l4 (a : Nat) : ∀ (n i j : Nat) (d : Array Int), j + 1 - i ≤ n → a < d.size → 1 ≤ i → j < d.size → Lim d →
  z06 (a : Int) (i : Int) (j : Int) d.toList = some (((partLoop (fun x y => ltB (cmp x y) 0) a i j d).1 : Int), false, (swp (partLoop (fun x y => ltB (cmp x y) 0) a i j d).2 (partLoop (fun x y => ltB (cmp x y) 0) a i j d).1 a).toList)
 | n, i, j, d, hn, ha, hi, hj, hd => by
  have hd' : d.size < 1152921504606846976 := hd;have u := qc3 (fun x => ltB (cmp x d[a]!) 0) d j (j + 1 - i) i (Nat.le_refl _)
  have v := q79 (fun x => !ltB (cmp x d[a]!) 0) d (scanUp (fun x => ltB (cmp x d[a]!) 0) d j i) j
  apply y7l;refine pa_l5 hc a j d ha hj hd (j + 1 - i) i (Nat.le_refl _) _ ?_;refine pa_l6 hc a _ d ha (by omega) hd j hj _ ?_
  rw [partLoop];generalize scanUp (fun x => ltB (cmp x d[a]!) 0) d j i = i2 at u v ⊢
  generalize scanDown (fun x => !ltB (cmp x d[a]!) 0) d i2 j = j2 at v ⊢
  by_cases h : j2 < i2
  ·rw [if_pos h, if_pos h]
  ·have hg : (j2 - 1) + 1 - (i2 + 1) < j + 1 - i := by omega
   rw [if_neg h, if_neg h, dif_pos hg];obtain ⟨n, rfl⟩ : ∃ m, n = m + 1 := ⟨n - 1, by omega⟩
   exact pa_l4 a n (i2 + 1) (j2 - 1) (swp d i2 j2) (by omega) (by rw [q0o]; exact ha) (by omega) (by rw [q0o]; omega) (by unfold Lim; rw [q0o]; exact hd)
theorem y3k (a b p : Nat) (d : Array Int) (hap : a ≤ p) (hpb : p < b) (hb : b ≤ d.size) (hd : Lim d) :
  z02 (a : Int) (b : Int) (p : Int) d.toList = some (((Sort.partition (fun x y => ltB (cmp x y) 0) d a b p).1 : Int), (Sort.partition (fun x y => ltB (cmp x y) 0) d a b p).2.1, (Sort.partition (fun x y => ltB (cmp x y) 0) d a b p).2.2.toList) := by
 have hd' : d.size < 1152921504606846976 := hd;have ba : a < d.size := by omega
 have bp : p < d.size := by omega
 apply y6x;have e1 : subI .i64 (b : Int) 1 = ((b - 1 : Nat) : Int) := by rw [q22 (by omega) (by omega)]; omega
 simp only [Int.toNat_natCast, nthA ba, nthA bp, nthNA ba, nthNA bp, nthS _ bp, nthNS _ bp, q1b, q02 (show a < 4611686018427387904 by omega), e1]
 have hs : (swp d a p).size = d.size := q0o d a p;unfold Sort.partition;generalize swp d a p = d at hs ⊢
 dsimp only
 have hL : Lim d := by unfold Lim; omega
 have u := qc3 (fun x => ltB (cmp x d[a]!) 0) d (b - 1) (b - 1 + 1 - (a + 1)) (a + 1) (Nat.le_refl _)
 have v := q79 (fun x => !ltB (cmp x d[a]!) 0) d (scanUp (fun x => ltB (cmp x d[a]!) 0) d (b - 1) (a + 1)) (b - 1)
 refine pa_l1 hc a (b - 1) d (by omega) (by omega) hL (b - 1 + 1 - (a + 1)) (a + 1) (Nat.le_refl _) _ ?_
 refine pa_l2 hc a _ d (by omega) (by omega) hL (b - 1) (by omega) _ ?_
 generalize scanUp (fun x => ltB (cmp x d[a]!) 0) d (b - 1) (a + 1) = i2 at u v ⊢
 generalize scanDown (fun x => !ltB (cmp x d[a]!) 0) d i2 (b - 1) = j2 at v ⊢
 by_cases h : j2 < i2
 ·simp only [gt_iff_lt, if_pos h]
 ·simp only [gt_iff_lt, if_neg h];exact pa_l4 hc a (j2 - 1 + 1 - (i2 + 1)) (i2 + 1) (j2 - 1) (swp d i2 j2) (Nat.le_refl _) (by rw [q0o]; omega) (by omega) (by rw [q0o]; omega) (by unfold Lim; rw [q0o]; exact hL)
end
end Go.Proofs.YtbmelgbadedbbaaGreat

namespace Go.Proofs.YtbmelgbadedbbaaGreat
open Go Go.Ab Go.Sort
section
variable {cmp : Int → Int → Int} (hc : ∀ x y, z08 x y = some (cmp x y))
include hc
theorem pi_l5 (a b i s : Nat) (hb : b < 1152921504606846976) (hs : s < 1000) : ∀ (n j : Nat) (d : Array Int), b ≤ j + n → 1 ≤ j → b ≤ d.size → Lim d →
  Le (z03 (a : Int) (b : Int) (i : Int) ((s + 1 : Nat) : Int) (shiftUp (fun x y => ltB (cmp x y) 0) b j d).toList) (z05 (a : Int) (b : Int) (i : Int) (s : Int) (j : Int) d.toList)
 | n, j, d, hn, hj, hbd, hd => fun r hr => by
  have hd' : d.size < 1152921504606846976 := hd;apply y62;rw [shiftUp] at hr;by_cases h : j < b
  ·obtain ⟨n, rfl⟩ : ∃ m, n = m + 1 := ⟨n - 1, by omega⟩
   have bj : j < d.size := by omega
   have bp : j - 1 < d.size := by omega
   have e1 : subI .i64 (j : Int) 1 = ((j - 1 : Nat) : Int) := by rw [q22 (by omega) (by omega)]; omega
   simp only [q03 (show (j : Int) < (b : Int) by omega), cond_true, e1, Int.toNat_natCast, nthA bj, nthA bp, nthNA bj, nthNA bp, hc, Option.bind_some, nthS _ bp, nthNS _ bp, q1b, q02 (show j < 4611686018427387904 by omega), q02 (show s < 4611686018427387904 by omega)]
   cases hl : ltB (cmp d[j]! d[j - 1]!) 0 with
   | true =>
    simp only [Bool.not_true, cond_false];refine pi_l5 a b i s hb hs n (j + 1) (swp d j (j - 1)) (by omega) (by omega) (by rw [q0o]; exact hbd) (by unfold Lim; rw [q0o]; exact hd) r ?_
    simpa [h, hl] using hr
   | false =>
    simp only [Bool.not_false, cond_true];simpa [h, hl] using hr
  ·rw [q00 (by omega), q02 (by omega)]
   simpa [h] using hr
theorem pi_l4 (a b i s : Nat) (hi : i < 1152921504606846976) (hs : s < 1000) : ∀ (j : Nat) (d : Array Int), j < d.size → Lim d →
  Le (bif (leB 2 (subI .i64 (b : Int) (i : Int))) then z05 (a : Int) (b : Int) (i : Int) (s : Int) ((i + 1 : Nat) : Int) (shiftDown (fun x y => ltB (cmp x y) 0) j d).toList
   else z03 (a : Int) (b : Int) (i : Int) ((s + 1 : Nat) : Int) (shiftDown (fun x y => ltB (cmp x y) 0) j d).toList) (z07 (a : Int) (b : Int) (i : Int) (s : Int) (j : Int) d.toList)
 | 0, d, hj, hd => fun r hr => by
  apply y0g;rw [q09 (show ((0 : Nat) : Int) < 1 by omega), q02 (show i < 4611686018427387904 by omega), q02 (show s < 4611686018427387904 by omega)]
  exact hr
 | j + 1, d, hj, hd => fun r hr => by
  have hd' : d.size < 1152921504606846976 := hd;have bp : j < d.size := by omega
  apply y0g;rw [shiftDown] at hr;simp only [q0e (show (1 : Int) ≤ ((j + 1 : Nat) : Int) by omega), cond_true, qe0 (show j < 4611686018427387904 by omega), Int.toNat_natCast, nthA hj, nthA bp, nthNA hj, nthNA bp, hc, Option.bind_some, nthS _ bp, nthNS _ bp, q1b, q02 (show i < 4611686018427387904 by omega), q02 (show s < 4611686018427387904 by omega)]
  cases hl : ltB (cmp d[j + 1]! d[j]!) 0 with
  | true =>
   simp only [Bool.not_true, cond_false];refine pi_l4 a b i s hi hs j (swp d (j + 1) j) (by rw [q0o]; omega) (by unfold Lim; rw [q0o]; exact hd) r ?_
   simpa only [hl, Bool.not_true, Bool.false_eq_true, if_false] using hr
  | false =>
   simp only [Bool.not_false, cond_true];simpa only [hl, Bool.not_false, if_true] using hr
end
end Go.Proofs.YtbmelgbadedbbaaGreat

namespace Go.Proofs.YtbmelgbadedbbaaGreat
open Go Go.Ab Go.Sort
section
variable {cmp : Int → Int → Int} (hc : ∀ x y, z08 x y = some (cmp x y))
include hc
theorem pi_l3 (a b s : Nat) (hs : s < 1000) (d : Array Int) (hab : a ≤ b) (hb : b ≤ d.size) (hd : Lim d) : ∀ (n i : Nat), b ≤ i + n → a + 1 ≤ i → i ≤ b →
  Le (let i2 := scanSorted (fun x y => ltB (cmp x y) 0) d b i
   if i2 = b then some (true, d.toList) else if b - a < 50 then some (false, d.toList) else
    bif (leB 2 (subI .i64 (i2 : Int) (a : Int))) then z07 (a : Int) (b : Int) (i2 : Int) (s : Int) ((i2 - 1 : Nat) : Int) (swp d i2 (i2 - 1)).toList
    else bif (leB 2 (subI .i64 (b : Int) (i2 : Int))) then z05 (a : Int) (b : Int) (i2 : Int) (s : Int) ((i2 + 1 : Nat) : Int) (swp d i2 (i2 - 1)).toList
    else z03 (a : Int) (b : Int) (i2 : Int) ((s + 1 : Nat) : Int) (swp d i2 (i2 - 1)).toList)
   (z0h (a : Int) (b : Int) (i : Int) (s : Int) d.toList)
 | n, i, hn, hi, hib => fun r hr => by
  have hd' : d.size < 1152921504606846976 := hd
  dsimp only at hr
  apply y7w;rw [scanSorted] at hr;have eb : subI .i64 (b : Int) (a : Int) = ((b - a : Nat) : Int) := subN hab (by omega)
  by_cases h : i < b
  ·obtain ⟨n, rfl⟩ : ∃ m, n = m + 1 := ⟨n - 1, by omega⟩
   have bi : i < d.size := by omega
   have bp : i - 1 < d.size := by omega
   have e1 : subI .i64 (i : Int) 1 = ((i - 1 : Nat) : Int) := by rw [q22 (by omega) (by omega)]; omega
   simp only [q03 (show (i : Int) < (b : Int) by omega), cond_true, e1, eb, Int.toNat_natCast, nthA bi, nthA bp, nthNA bi, nthNA bp, hc, Option.bind_some, nthS _ bp, nthNS _ bp, q1b, q02 (show i < 4611686018427387904 by omega), q02 (show s < 4611686018427387904 by omega)]
   cases hl : ltB (cmp d[i]! d[i - 1]!) 0 with
   | false =>
    simp only [Bool.not_false, cond_true];refine pi_l3 a b s hs d hab hb hd n (i + 1) (by omega) (by omega) (by omega) r ?_
    simpa only [hl, h, decide_true, Bool.not_false, Bool.and_self, if_true] using hr
   | true =>
    simp only [Bool.not_true, cond_false, q0t (show (i : Int) ≠ (b : Int) by omega)]
    simp only [hl, Bool.not_true, Bool.and_false, Bool.false_eq_true, if_false, if_neg (show i ≠ b by omega)] at hr
    by_cases h50 : b - a < 50
    ·rw [if_pos h50] at hr;rw [q03 (show ((b - a : Nat) : Int) < 50 by omega)]
     exact hr
    ·rw [if_neg h50] at hr;rw [q00 (show (50 : Int) ≤ ((b - a : Nat) : Int) by omega)]
     exact hr
  ·have hib' : i = b := by omega
   subst hib';rw [q00 (by omega)]
   simp only [cond_false, q0p, cond_true];simpa [h] using hr
theorem pi_l2 (a b s : Nat) (hs : s < 1000) (d : Array Int) (hab : a ≤ b) (hb : b ≤ d.size) (hd : Lim d) : ∀ (n i : Nat), b ≤ i + n → a + 1 ≤ i → i ≤ b →
  Le (let i2 := scanSorted (fun x y => ltB (cmp x y) 0) d b i
   if i2 = b then some (true, d.toList) else if b - a < 50 then some (false, d.toList) else
    bif (leB 2 (subI .i64 (i2 : Int) (a : Int))) then z07 (a : Int) (b : Int) (i2 : Int) (s : Int) ((i2 - 1 : Nat) : Int) (swp d i2 (i2 - 1)).toList
    else bif (leB 2 (subI .i64 (b : Int) (i2 : Int))) then z05 (a : Int) (b : Int) (i2 : Int) (s : Int) ((i2 + 1 : Nat) : Int) (swp d i2 (i2 - 1)).toList
    else z03 (a : Int) (b : Int) (i2 : Int) ((s + 1 : Nat) : Int) (swp d i2 (i2 - 1)).toList)
   (z0t (a : Int) (b : Int) (i : Int) (s : Int) true d.toList)
 | n, i, hn, hi, hib => fun r hr => by
  have hd' : d.size < 1152921504606846976 := hd
  dsimp only at hr
  apply y7b;rw [scanSorted] at hr;have eb : subI .i64 (b : Int) (a : Int) = ((b - a : Nat) : Int) := subN hab (by omega)
  by_cases h : i < b
  ·obtain ⟨n, rfl⟩ : ∃ m, n = m + 1 := ⟨n - 1, by omega⟩
   have bi : i < d.size := by omega
   have bp : i - 1 < d.size := by omega
   have e1 : subI .i64 (i : Int) 1 = ((i - 1 : Nat) : Int) := by rw [q22 (by omega) (by omega)]; omega
   simp only [q03 (show (i : Int) < (b : Int) by omega), cond_true, e1, eb, Int.toNat_natCast, nthA bi, nthA bp, nthNA bi, nthNA bp, hc, Option.bind_some, nthS _ bp, nthNS _ bp, q1b, q02 (show i < 4611686018427387904 by omega), q02 (show s < 4611686018427387904 by omega)]
   cases hl : ltB (cmp d[i]! d[i - 1]!) 0 with
   | false =>
    simp only [Bool.not_false, cond_true];refine pi_l3 hc a b s hs d hab hb hd n (i + 1) (by omega) (by omega) (by omega) r ?_
    simpa only [hl, h, decide_true, Bool.not_false, Bool.and_self, if_true] using hr
   | true =>
    simp only [Bool.not_true, cond_false, q0t (show (i : Int) ≠ (b : Int) by omega)]
    simp only [hl, Bool.not_true, Bool.and_false, Bool.false_eq_true, if_false, if_neg (show i ≠ b by omega)] at hr
    by_cases h50 : b - a < 50
    ·rw [if_pos h50] at hr;rw [q03 (show ((b - a : Nat) : Int) < 50 by omega)]
     exact hr
    ·rw [if_neg h50] at hr;rw [q00 (show (50 : Int) ≤ ((b - a : Nat) : Int) by omega)]
     exact hr
  ·have hib' : i = b := by omega
   subst hib';rw [q00 (by omega)]
   simp only [cond_false, q0p, cond_true];simpa [h] using hr
end
end Go.Proofs.YtbmelgbadedbbaaGreat

namespace Go.Proofs.YtbmelgbadedbbaaGreat
open Go Go.Ab Go.Sort
theorem qbi (lt : Int → Int → Bool) (d : Array Int) (b : Nat) : ∀ (n i : Nat), b ≤ i + n → i ≤ b → i ≤ scanSorted lt d b i ∧ scanSorted lt d b i ≤ b
 | n, i, h, hi => by
  rw [scanSorted];split
  ·rename_i hc;simp at hc;obtain ⟨n, rfl⟩ : ∃ m, n = m + 1 := ⟨n - 1, by omega⟩
   have := qbi lt d b n (i + 1) (by omega) (by omega)
   omega
  ·exact ⟨Nat.le_refl _, hi⟩
theorem q65 {lt : Int → Int → Bool} : ∀ (j : Nat) (d : Array Int), (shiftDown lt j d).size = d.size
 | 0, d => rfl
 | j + 1, d => by
  rw [shiftDown];split
  ·rfl
  ·rw [q65 j, q0o]
theorem qe2 {lt : Int → Int → Bool} (b : Nat) : ∀ (n j : Nat) (d : Array Int), b ≤ j + n → (shiftUp lt b j d).size = d.size
 | n, j, d, h => by
  rw [shiftUp];split
  ·obtain ⟨n, rfl⟩ : ∃ m, n = m + 1 := ⟨n - 1, by omega⟩
   split
   ·rfl
   ·rw [qe2 b n _ _ (by omega), q0o]
  ·rfl
section
variable {cmp : Int → Int → Int} (hc : ∀ x y, z08 x y = some (cmp x y))
include hc
theorem pi_l1 (a b : Nat) (hab : a < b) : ∀ (k s i : Nat) (d : Array Int), s + k = 5 → a + 1 ≤ i → i ≤ b → b ≤ d.size → Lim d →
  z03 (a : Int) (b : Int) (i : Int) (s : Int) d.toList = some ((partialIns (fun x y => ltB (cmp x y) 0) a b k i d).2, (partialIns (fun x y => ltB (cmp x y) 0) a b k i d).1.toList)
 | 0, s, i, d, hs, hi, hib, hb, hd => by
  apply y0n;rw [q00 (by omega)]
  rfl
 | k + 1, s, i, d, hs, hi, hib, hb, hd => by
  have hd' : d.size < 1152921504606846976 := hd;apply y0n;rw [q03 (by omega)]
  simp only [cond_true];refine pi_l2 hc a b s (by omega) d (by omega) hb hd b i (by omega) hi hib _ ?_
  obtain ⟨u, v⟩ := qbi (fun x y => ltB (cmp x y) 0) d b b i (by omega) hib
  rw [partialIns]
  dsimp only
  generalize scanSorted (fun x y => ltB (cmp x y) 0) d b i = i2 at u v ⊢
  by_cases h1 : i2 = b
  ·simp only [if_pos h1]
  ·by_cases h2 : b - a < 50
   ·simp only [if_neg h1, if_pos h2]
   ·simp only [if_neg h1, if_neg h2];have e1 := subN (x := i2) (y := a) (by omega) (by omega)
    have e2 := subN (x := b) (y := i2) v (by omega)
    have sz : (swp d i2 (i2 - 1)).size = d.size := q0o _ _ _;generalize swp d i2 (i2 - 1) = d1 at sz ⊢;have up : ∀ d2 : Array Int, d2.size = d.size → ∀ r, z03 (a : Int) (b : Int) (i2 : Int) ((s + 1 : Nat) : Int) (if b - i2 ≥ 2 then shiftUp (fun x y => ltB (cmp x y) 0) b (i2 + 1) d2 else d2).toList = some r →
      (bif (leB 2 (subI .i64 (b : Int) (i2 : Int))) then z05 (a : Int) (b : Int) (i2 : Int) (s : Int) ((i2 + 1 : Nat) : Int) d2.toList
       else z03 (a : Int) (b : Int) (i2 : Int) ((s + 1 : Nat) : Int) d2.toList) = some r := by
     intro d2 h2s r hr;rw [e2];by_cases h3 : b - i2 ≥ 2
     ·rw [q0e (show (2 : Int) ≤ ((b - i2 : Nat) : Int) by omega)]
      rw [if_pos h3] at hr;exact pi_l5 hc a b i2 s (by omega) (by omega) b (i2 + 1) d2 (by omega) (by omega) (by omega) (by unfold Lim; omega) r hr
     ·rw [q09 (show ((b - i2 : Nat) : Int) < 2 by omega)]
      rw [if_neg h3] at hr;exact hr
    have last : ∀ d2 : Array Int, d2.size = d.size → z03 (a : Int) (b : Int) (i2 : Int) ((s + 1 : Nat) : Int) (if b - i2 ≥ 2 then shiftUp (fun x y => ltB (cmp x y) 0) b (i2 + 1) d2 else d2).toList = some ((partialIns (fun x y => ltB (cmp x y) 0) a b k i2 (if b - i2 ≥ 2 then shiftUp (fun x y => ltB (cmp x y) 0) b (i2 + 1) d2 else d2)).2, (partialIns (fun x y => ltB (cmp x y) 0) a b k i2 (if b - i2 ≥ 2 then shiftUp (fun x y => ltB (cmp x y) 0) b (i2 + 1) d2 else d2)).1.toList) := by
     intro d2 h2s;have hsz : (if b - i2 ≥ 2 then shiftUp (fun x y => ltB (cmp x y) 0) b (i2 + 1) d2 else d2).size = d.size := by
      split
      ·rw [qe2 b b _ _ (by omega), h2s]
      ·exact h2s
     exact pi_l1 a b hab k (s + 1) i2 _ (by omega) (by omega) v (by omega) (by unfold Lim; omega)
    rw [e1];by_cases h4 : i2 - a ≥ 2
    ·rw [q0e (show (2 : Int) ≤ ((i2 - a : Nat) : Int) by omega)]
     simp only [cond_true, if_pos h4];refine pi_l4 hc a b i2 s (by omega) (by omega) (i2 - 1) d1 (by omega) (by unfold Lim; omega) _ ?_
     exact up _ (by rw [q65, sz]) _ (last _ (by rw [q65, sz]))
    ·rw [q09 (show ((i2 - a : Nat) : Int) < 2 by omega)]
     simp only [cond_false, if_neg h4];exact up _ sz _ (last _ sz)
end
end Go.Proofs.YtbmelgbadedbbaaGreat

namespace Go.Proofs.YtbmelgbadedbbaaGreat
open Go Go.Ab Go.Sort
theorem wrapU {n : Nat} (h : n < 18446744073709551616) : IntKind.wrap .u64 (n : Int) = (n : Int) := by
 show ((n : Int)) % 18446744073709551616 = n;omega
theorem qwy (n : Nat) : IntKind.wrap .u64 (n : Int) = ((n % 18446744073709551616 : Nat) : Int) := by
 show ((n : Int)) % 18446744073709551616 = _;omega
theorem qo7 (a : UInt64) : BitVec.ofInt 64 (a.toNat : Int) = a.toBitVec := by
 apply BitVec.eq_of_toNat_eq;rw [BitVec.toNat_ofInt];have := a.toNat_lt;show ((a.toNat : Int) % ((2 ^ 64 : Nat) : Int)).toNat = a.toNat;omega
theorem xor_u (a b : UInt64) : xorI .u64 (a.toNat : Int) (b.toNat : Int) = ((a ^^^ b).toNat : Int) := by
 have h : (a ^^^ b).toNat < 18446744073709551616 := (a ^^^ b).toNat_lt;show IntKind.wrap .u64 (((BitVec.ofInt 64 (a.toNat : Int)) ^^^ (BitVec.ofInt 64 (b.toNat : Int))).toNat : Int) = _;rw [qo7, qo7];exact wrapU h
theorem shl_u (a : UInt64) (k : Nat) (c : UInt64) (hk : k < 64) (hc : c.toNat = k) : shlI .u64 (a.toNat : Int) (k : Int) = ((a <<< c).toNat : Int) := by
 rw [UInt64.toNat_shiftLeft, hc, Nat.mod_eq_of_lt hk, Nat.shiftLeft_eq];show IntKind.wrap .u64 ((a.toNat : Int) * 2 ^ (min ((k : Int).toNat) 64)) = _;rw [Int.toNat_natCast, Nat.min_eq_left (by omega)]
 have := qwy (a.toNat * 2 ^ k);rw [Int.natCast_mul, Int.natCast_pow] at this;exact this
theorem shr_u (a : UInt64) (k : Nat) (c : UInt64) (hk : k < 64) (hc : c.toNat = k) : shrI .u64 (a.toNat : Int) (k : Int) = ((a >>> c).toNat : Int) := by
 rw [UInt64.toNat_shiftRight, hc, Nat.mod_eq_of_lt hk, Nat.shiftRight_eq_div_pow];show (a.toNat : Int).fdiv (2 ^ (min ((k : Int).toNat) 64)) = _;rw [Int.toNat_natCast, Nat.min_eq_left (by omega), Int.fdiv_eq_ediv_of_nonneg _ (Int.pow_nonneg (by decide))]
 rw [Int.natCast_ediv, Int.natCast_pow];rfl
theorem qyb (r : UInt64) : z41 (r.toNat : Int) = some (((xorNext r).toNat : Int), ((xorNext r).toNat : Int)) := by
 apply y3v;have e1 : shlI .u64 (r.toNat : Int) 13 = ((r <<< 13).toNat : Int) := shl_u r 13 13 (by decide) rfl
 rw [e1, xor_u];generalize hr1 : r ^^^ (r <<< 13) = r1;have e2 : shrI .u64 (r1.toNat : Int) 7 = ((r1 >>> 7).toNat : Int) := shr_u r1 7 7 (by decide) rfl
 rw [e2, xor_u];generalize hr2 : r1 ^^^ (r1 >>> 7) = r2;have e3 : shlI .u64 (r2.toNat : Int) 17 = ((r2 <<< 17).toNat : Int) := shl_u r2 17 17 (by decide) rfl
 rw [e3, xor_u];have : xorNext r = r2 ^^^ (r2 <<< 17) := by simp only [xorNext, hr1, hr2]
 rw [this]
theorem q5c {n k : Nat} (h : n < 2 ^ k) : bitsLen n ≤ k := by
 unfold bitsLen;split
 ·omega
 ·rename_i h0;have := (Nat.log2_lt h0).2 h;omega
theorem qsp (n : Nat) : n < 2 ^ bitsLen n := by
 unfold bitsLen;split
 ·rename_i h; subst h; decide
 ·rename_i h0;exact (Nat.log2_lt h0).1 (Nat.lt_succ_self _)
theorem qis {n : Nat} (h : 256 ≤ n) : bitsLen n = 8 + bitsLen (n / 256) := by
 have h0 : n ≠ 0 := by omega
 have h1 : n / 256 ≠ 0 := by omega
 unfold bitsLen;rw [if_neg h0, if_neg h1];have a1 : 2 ^ Nat.log2 (n / 256) ≤ n / 256 := Nat.log2_self_le h1;have a2 : n / 256 < 2 ^ (Nat.log2 (n / 256) + 1) := Nat.lt_log2_self;have b1 : Nat.log2 (n / 256) + 8 ≤ Nat.log2 n := (Nat.le_log2 h0).2 (by rw [Nat.pow_add]; omega)
 have b2 : Nat.log2 n < Nat.log2 (n / 256) + 9 := (Nat.log2_lt h0).2 (by
  rw [show Nat.log2 (n / 256) + 9 = (Nat.log2 (n / 256) + 1) + 8 by omega, Nat.pow_add]; omega)
 omega
def qvr : List UInt8 := (List.range 256).map fun n => UInt8.ofNat (bitsLen n)
theorem qsx {n : Nat} (h : n < 256) : qvr[n]? = some (UInt8.ofNat (bitsLen n)) := by
 unfold qvr;rw [List.getElem?_map, List.getElem?_range h]; rfl
theorem qhm {n : Nat} (h : n < 256) : ((UInt8.ofNat (bitsLen n)).toNat : Nat) = bitsLen n := by
 have := q5c (n := n) (k := 8) h;simp;omega
theorem y6p {n : Nat} (h : n < 256) : IntKind.wrap .u8 (n : Int) = (n : Int) := by
 show ((n : Int)) % 256 = n;omega
theorem qwx {β : Type} (T : List UInt8) (hT : T = qvr) {n : Nat} (h : n < 256) (k : UInt8 → Option β) : nth T (IntKind.wrap .u8 (n : Int)) k = k (UInt8.ofNat (bitsLen n)) := by
 subst hT;rw [y6p h, q0v (by omega) (by rw [Int.toNat_natCast]; exact qsx h)]
set_option maxRecDepth 100000 in
theorem qym {n : Nat} (h : n < 65536) : z6j (n : Int) = some ((bitsLen n : Nat) : Int) := by
 apply y3p;rw [q09 (show (n : Int) < 4294967296 by omega), q09 (show (n : Int) < 65536 by omega)]
 simp only [cond_false];by_cases h1 : 256 ≤ n
 ·have e : shrI .u64 (n : Int) 8 = ((n / 256 : Nat) : Int) := by
   show (n : Int).fdiv (2 ^ (min ((8 : Int).toNat) 64)) = _;rw [show (min ((8 : Int).toNat) 64) = 8 from rfl, Int.fdiv_eq_ediv_of_nonneg _ (by decide), Int.natCast_ediv]; rfl
  have hs : n / 256 < 256 := by omega
  rw [q0e (by omega)]
  simp only [cond_true];rw [e, qwx _ (by kernel_rfl) hs, qhm hs, qis h1]
  have := q5c (n := n / 256) (k := 8) hs;rw [q4x (by omega) (by omega), q1n (by omega) (by omega)]
  congr 1 <;> omega
 ·have hs : n < 256 := by omega
  rw [q09 (by omega)]
  simp only [cond_false];rw [qwx _ (by kernel_rfl) hs, qhm hs]
  have := q5c (n := n) (k := 8) hs;rw [q4x (by omega) (by omega), q1n (by omega) (by omega)]
  congr 1 <;> omega
theorem y0h {n : Nat} (h : n < 65536) : z6m (n : Int) = some ((bitsLen n : Nat) : Int) := by
 apply y5r;rw [qym h]; rfl
theorem y3l {n : Nat} (h : n < 65536) : z3l (n : Int) = some ((2 ^ bitsLen n : Nat) : Int) := by
 apply y6j;have hb := q5c (n := n) (k := 16) h;rw [wrapU (by omega), y0h h]
 simp only [Option.bind_some];rw [q0q (by omega)]
 congr 1
 show IntKind.wrap .u64 (1 * 2 ^ (min (((bitsLen n : Nat) : Int).toNat) 64)) = _;rw [Int.toNat_natCast, Nat.min_eq_left (by omega), Int.one_mul]
 have h2 : 2 ^ bitsLen n ≤ 2 ^ 16 := Nat.pow_le_pow_right (by decide) hb
 have := wrapU (n := 2 ^ bitsLen n) (by omega)
 rw [Int.natCast_pow] at this;exact this
theorem q6a {a length modulus : Nat} (st : UInt64 × Array Int) (idx : Nat) : (breakStep a length modulus st idx).2.size = st.2.size := by
 simp only [breakStep, q0o]
theorem qd1 (a length idx : Nat) (r : UInt64) (d : Array Int) (hl : 8 ≤ length) (hl2 : length < 65536) (hb : a + length ≤ d.size) (hd : Lim d) (hi : idx ≤ a + length / 4 * 2 + 1) (hi2 : idx < d.size) :
  Le (z0b (a : Int) (length : Int) ((2 ^ bitsLen length : Nat) : Int) ((idx + 1 : Nat) : Int) (breakStep a length (2 ^ bitsLen length) (r, d) idx).2.toList ((breakStep a length (2 ^ bitsLen length) (r, d) idx).1.toNat : Int))
   (z0b (a : Int) (length : Int) ((2 ^ bitsLen length : Nat) : Int) (idx : Int) d.toList (r.toNat : Int)) := by
 intro q hq;apply y0w;unfold Lim at hd;have hbl := q5c (n := length) (k := 16) hl2;have h2 : 2 ^ bitsLen length ≤ 2 ^ 16 := Nat.pow_le_pow_right (by decide) hbl
 have h3 := Nat.two_pow_pos (bitsLen length);have h4 := qsp length;have h5 : 2 ^ bitsLen length ≤ 2 * length := by
  have : bitsLen length = Nat.log2 length + 1 := by unfold bitsLen; rw [if_neg (by omega)]
  rw [this, Nat.pow_succ];have := Nat.log2_self_le (n := length) (by omega)
  omega
 generalize hM : 2 ^ bitsLen length = M at *;have e0 : addI .i64 (addI .i64 (a : Int) (mulI .i64 (quoI .i64 (length : Int) 4) 2)) 1 = ((a + length / 4 * 2 + 1 : Nat) : Int) := by
  rw [quo4 (by omega), show (2 : Int) = ((2 : Nat) : Int) from rfl, mulN (by omega), addN (by omega), q02 (by omega)]
 rw [e0, q0e (by omega), qyb]
 simp only [cond_true, Option.bind_some];have e1 : subI .u64 (M : Int) 1 = ((M - 1 : Nat) : Int) := by
  show IntKind.wrap .u64 ((M : Int) - 1) = _;rw [show (M : Int) - 1 = ((M - 1 : Nat) : Int) by omega, wrapU (by omega)]
 have e2 : andI .u64 ((xorNext r).toNat : Int) ((M - 1 : Nat) : Int) = (((xorNext r).toNat &&& (M - 1) : Nat) : Int) := by
  show IntKind.wrap .u64 (((BitVec.ofInt 64 ((xorNext r).toNat : Int)) &&& (BitVec.ofInt 64 ((M - 1 : Nat) : Int))).toNat : Int) = _;have hr : (xorNext r).toNat < 18446744073709551616 := (xorNext r).toNat_lt;have c1 : BitVec.ofInt 64 ((M - 1 : Nat) : Int) = BitVec.ofNat 64 (M - 1) := BitVec.ofInt_natCast ..;rw [qo7, c1, BitVec.toNat_and, BitVec.toNat_ofNat, Nat.mod_eq_of_lt (show M - 1 < 2 ^ 64 by omega)]
  have : (xorNext r).toBitVec.toNat &&& (M - 1) ≤ M - 1 := Nat.and_le_right;exact wrapU (by omega)
 rw [e1, e2];have hother : (xorNext r).toNat &&& (M - 1) ≤ M - 1 := Nat.and_le_right;generalize ho : (xorNext r).toNat &&& (M - 1) = o at hother;rw [q4x (by omega) (by omega), q02 (by omega)]
 have key : ∀ p : Nat, p < d.size → breakStep a length M (r, d) idx = (xorNext r, swp d idx p) →
   z0b (a : Int) (length : Int) (M : Int) ((idx + 1 : Nat) : Int) (List.set (List.set d.toList idx d[p]!) p d[idx]!) ((xorNext r).toNat : Int) = some q := by
  intro p hp he;rw [he] at hq;rw [q1b];exact hq
 have hbs : breakStep a length M (r, d) idx = (xorNext r, swp d idx (a + if o ≥ length then o - length else o)) := by simp only [breakStep, ho]
 by_cases hge : length ≤ o
 ·rw [q0e (by omega)]
  simp only [cond_true];rw [subN hge (by omega), addN (by omega)]
  have hp : a + (o - length) < d.size := by omega
  rw [nthA hp, nthA hi2, Int.toNat_natCast, Int.toNat_natCast, nthNA hp, nthNA hi2, nthA hi2, nthNA hi2, nthS _ hp, nthNS _ hp];exact key _ hp (by rw [hbs, if_pos hge])
 ·rw [q09 (by omega)]
  simp only [cond_false];rw [addN (by omega)]
  have hp : a + o < d.size := by omega
  rw [nthA hp, nthA hi2, Int.toNat_natCast, Int.toNat_natCast, nthNA hp, nthNA hi2, nthA hi2, nthNA hi2, nthS _ hp, nthNS _ hp];exact key _ hp (by rw [hbs, if_neg (by omega)])
theorem qx7 (a b : Nat) (d : Array Int) (hab : a ≤ b) (hbd : b ≤ d.size) (hd : Lim d) (hs : b - a < 65536) :
  z13 (a : Int) (b : Int) d.toList = some (breakPatterns d a b).toList := by
 apply y4l;have hd' := hd;unfold Lim at hd';rw [subN hab (by omega)]
 by_cases h8 : 8 ≤ b - a
 ·rw [q0e (by omega)]
  simp only [cond_true];rw [y3l hs];simp only [Option.bind_some];rw [wrapU (by omega), quo4 (by omega), show (2 : Int) = ((2 : Nat) : Int) from rfl, mulN (by omega), addN (by omega), show (1 : Int) = ((1 : Nat) : Int) from rfl, subN (by omega) (by omega)]
  have hu : ((b - a : Nat) : Int) = ((UInt64.ofNat (b - a)).toNat : Int) := by
   rw [UInt64.toNat_ofNat_of_lt' (by show b - a < 2 ^ 64; omega)]
  have hbp : breakPatterns d a b = (breakStep a (b - a) (2 ^ bitsLen (b - a)) (breakStep a (b - a) (2 ^ bitsLen (b - a)) (breakStep a (b - a) (2 ^ bitsLen (b - a)) (UInt64.ofNat (b - a), d) (a + (b - a) / 4 * 2 - 1)) (a + (b - a) / 4 * 2 - 1 + 1)) (a + (b - a) / 4 * 2 - 1 + 2)).2 := by
   simp only [breakPatterns, if_pos h8, Nat.one_shiftLeft]
  rw [hbp];have s1 := q6a (a := a) (length := b - a) (modulus := 2 ^ bitsLen (b - a)) (UInt64.ofNat (b - a), d) (a + (b - a) / 4 * 2 - 1);generalize hst1 : breakStep a (b - a) (2 ^ bitsLen (b - a)) (UInt64.ofNat (b - a), d) (a + (b - a) / 4 * 2 - 1) = st1 at s1 ⊢;have s2 := q6a (a := a) (length := b - a) (modulus := 2 ^ bitsLen (b - a)) st1 (a + (b - a) / 4 * 2 - 1 + 1);generalize hst2 : breakStep a (b - a) (2 ^ bitsLen (b - a)) st1 (a + (b - a) / 4 * 2 - 1 + 1) = st2 at s2 ⊢;have s3 := q6a (a := a) (length := b - a) (modulus := 2 ^ bitsLen (b - a)) st2 (a + (b - a) / 4 * 2 - 1 + 2);generalize hst3 : breakStep a (b - a) (2 ^ bitsLen (b - a)) st2 (a + (b - a) / 4 * 2 - 1 + 2) = st3 at s3 ⊢;simp only at s1
  have g1 := qd1 a (b - a) (a + (b - a) / 4 * 2 - 1) (UInt64.ofNat (b - a)) d h8 hs (by omega) hd (by omega) (by omega)
  rw [hst1] at g1;have g2 := qd1 a (b - a) (a + (b - a) / 4 * 2 - 1 + 1) st1.1 st1.2 h8 hs (by omega) (by unfold Lim; omega) (by omega) (by omega)
  rw [show (st1.1, st1.2) = st1 from rfl, hst2] at g2
  have g3 := qd1 a (b - a) (a + (b - a) / 4 * 2 - 1 + 1 + 1) st2.1 st2.2 h8 hs (by omega) (by unfold Lim; omega) (by omega) (by omega)
  rw [show (st2.1, st2.2) = st2 from rfl, show a + (b - a) / 4 * 2 - 1 + 1 + 1 = a + (b - a) / 4 * 2 - 1 + 2 from rfl, hst3] at g3
  have hfin : z0b (a : Int) ((b - a : Nat) : Int) ((2 ^ bitsLen (b - a) : Nat) : Int) ((a + (b - a) / 4 * 2 - 1 + 2 + 1 : Nat) : Int) st3.2.toList (st3.1.toNat : Int) = some st3.2.toList := by
   apply y0w;have e0 : addI .i64 (addI .i64 (a : Int) (mulI .i64 (quoI .i64 ((b - a : Nat) : Int) 4) 2)) 1 = ((a + (b - a) / 4 * 2 + 1 : Nat) : Int) := by
    rw [quo4 (by omega), show (2 : Int) = ((2 : Nat) : Int) from rfl, mulN (by omega), addN (by omega), q02 (by omega)]
   rw [e0, q09 (by omega)]
   rfl
  have := g1 _ (g2 _ (g3 _ hfin));rw [← this];congr 1
 ·rw [q09 (by omega)]
  simp only [cond_false, breakPatterns, if_neg (show ¬ (b - a ≥ 8) by omega)]
end Go.Proofs.YtbmelgbadedbbaaGreat

namespace Go.Proofs.YtbmelgbadedbbaaGreat
open Go Go.Ab Go.Sort
noncomputable def qjj (a1 a3 p l : Int) (xs : List Int) : Option (List Int) :=
 Option.bind (z02 a1 a3 p xs) fun x10 =>
 bif (ltB (subI .i64 x10.1 a1) (subI .i64 a3 x10.1)) then
  Option.bind (z01 a1 x10.1 l x10.2.2) fun x11 =>
  z00 (addI .i64 x10.1 1) a3 l (leB (quoI .i64 (subI .i64 a3 a1) 8) (subI .i64 x10.1 a1)) x10.2.1 x11
 else
  Option.bind (z01 (addI .i64 x10.1 1) a3 l x10.2.2) fun x12 =>
  z00 a1 x10.1 l (leB (quoI .i64 (subI .i64 a3 a1) 8) (subI .i64 a3 x10.1)) x10.2.1 x12
noncomputable def q9g (a1 a3 p l : Int) (wb wp : Bool) (xs : List Int) : Option (List Int) :=
 bif (ltB 0 a1) then
  nth xs (subI .i64 a1 1) fun _ =>
  nth xs p fun _ =>
  nthN xs (Int.toNat (subI .i64 a1 1)) fun y6 =>
  nthN xs (Int.toNat p) fun y7 =>
  Option.bind (z08 y6 y7) fun x8 =>
  bif (!(ltB x8 0)) then
   Option.bind (z04 a1 a3 p xs) fun x9 =>
   z00 x9.1 a3 l wb wp x9.2
  else
   qjj a1 a3 p l xs
 else
  qjj a1 a3 p l xs
theorem quo8 {x : Nat} (h : x < 4611686018427387904) : quoI .i64 (x : Int) 8 = ((x / 8 : Nat) : Int) := by
 show IntKind.wrap .i64 ((x : Int).tdiv 8) = _;rw [Int.tdiv_eq_ediv_of_nonneg (by omega), q4x (by omega) (by omega)]
 omega
def qcq (lt : Int → Int → Bool) (d3 : Array Int) (a b pivot limit : Nat) (wb wp : Bool) : Array Int :=
 if a > 0 && !lt d3[a - 1]! d3[pivot]! then
  match partitionEqual lt d3 a b pivot with
  | (mid, d4) => if _h : a < mid ∧ mid ≤ b then pdq lt d4 mid b limit wb wp else d4
 else
  match Sort.partition lt d3 a b pivot with
  | (mid, alreadyPartitioned, d4) =>
   if _h : a ≤ mid ∧ mid < b then
    if mid - a < b - mid then
     pdq lt (pdq lt d4 a mid limit true true) (mid + 1) b limit (decide (mid - a ≥ (b - a) / 8)) alreadyPartitioned
    else
     pdq lt (pdq lt d4 (mid + 1) b limit true true) a mid limit (decide (b - mid ≥ (b - a) / 8)) alreadyPartitioned
   else d4
theorem pi_ok {cmp : Int → Int → Int} (hc : ∀ x y, z08 x y = some (cmp x y)) (a b : Nat) (d : Array Int) (hab : a < b) (hb : b ≤ d.size) (hd : Lim d) :
  z09 (a : Int) (b : Int) d.toList = some ((partialInsertionSort (fun x y => ltB (cmp x y) 0) d a b).2, (partialInsertionSort (fun x y => ltB (cmp x y) 0) d a b).1.toList) := by
 apply y4s;have hd' : d.size < 1152921504606846976 := hd;rw [q02 (by omega)]
 exact pi_l1 hc a b hab 5 0 (a + 1) d rfl (Nat.le_refl _) (by omega) hb hd
theorem y5m (lt : Int → Int → Bool) (d : Array Int) (a b limit : Nat) (wb wp : Bool) (h1 : ¬ b - a ≤ 12) (h2 : limit ≠ 0) : pdq lt d a b limit wb wp =
  (let d1 := if !wb then breakPatterns d a b else d
  let l := if !wb then limit - 1 else limit
  let c := choosePivot lt d1 a b
  let d2 := if c.2 = .decreasing then reverseRange d1 a b else d1
  let p := if c.2 = .decreasing then (b - 1) - (c.1 - a) else c.1
  let hint := if c.2 = .decreasing then Hint.increasing else c.2
  let pi := if wb && wp && hint = .increasing then partialInsertionSort lt d2 a b else (d2, false)
  if pi.2 then pi.1 else qcq lt pi.1 a b p l wb wp) := by
 rw [pdq, if_neg h1, if_neg h2];rfl
section
variable {cmp : Int → Int → Int} (hc : ∀ x y, z08 x y = some (cmp x y)) (hS : SWO (fun x y => ltB (cmp x y) 0))
include hc hS
def Ih (cmp : Int → Int → Int) (n : Nat) : Prop := ∀ (a b limit : Nat) (wb wp : Bool) (d : Array Int), b - a < n → b - a < 65536 → a ≤ b → b ≤ d.size → Lim d → limit < 1000 → Below (fun x y => ltB (cmp x y) 0) a b d →
 z00 (a : Int) (b : Int) (limit : Int) wb wp d.toList = some (pdq (fun x y => ltB (cmp x y) 0) d a b limit wb wp).toList
theorem qlg {a b p limit : Nat} {d : Array Int} (ih : Ih cmp (b - a)) (h16 : b - a < 65536) (hap : a ≤ p) (hpb : p < b) (hb : b ≤ d.size) (hd : Lim d) (hl : limit < 1000) (hB : Below (fun x y => ltB (cmp x y) 0) a b d) :
  qjj (a : Int) (b : Int) (p : Int) (limit : Int) d.toList = some (match Sort.partition (fun x y => ltB (cmp x y) 0) d a b p with
  | (mid, alreadyPartitioned, d4) =>
   if _h : a ≤ mid ∧ mid < b then
    if mid - a < b - mid then
     pdq (fun x y => ltB (cmp x y) 0) (pdq (fun x y => ltB (cmp x y) 0) d4 a mid limit true true) (mid + 1) b limit (decide (mid - a ≥ (b - a) / 8)) alreadyPartitioned
    else
     pdq (fun x y => ltB (cmp x y) 0) (pdq (fun x y => ltB (cmp x y) 0) d4 (mid + 1) b limit true true) a mid limit (decide (b - mid ≥ (b - a) / 8)) alreadyPartitioned
   else d4).toList := by
 have hd' : d.size < 1152921504606846976 := hd;unfold qjj;rw [y3k hc a b p d hap hpb hb hd];simp only [Option.bind_some];cases hx : Sort.partition (fun x y => ltB (cmp x y) 0) d a b p with
 | mk mid q =>
  obtain ⟨ap, d4⟩ := q;obtain ⟨h1, h2, hs4, hB1, hB2, hL1, hL2⟩ := round_part hS (partition_holds _) hap hpb hb hB hx;simp only;rw [dif_pos ⟨h1, h2⟩, subN h1 (by omega), subN (by omega) (by omega), subN (by omega) (by omega), quo8 (by omega), q02 (by omega)]
  have call : ∀ (a' b' : Nat) (dd : Array Int), b' - a' < b - a → a' ≤ b' → b' ≤ dd.size → Lim dd → Below (fun x y => ltB (cmp x y) 0) a' b' dd →
    z01 (a' : Int) (b' : Int) (limit : Int) dd.toList = some (pdq (fun x y => ltB (cmp x y) 0) dd a' b' limit true true).toList := by
   intro a' b' dd g1 g2 g3 g4 g5;exact y1q _ _ _ _ _ (ih a' b' limit true true dd g1 (by omega) g2 g3 g4 hl g5)
  have lb : ∀ x y : Nat, leB ((x / 8 : Nat) : Int) (y : Int) = decide (y ≥ x / 8) := fun x y => by
   by_cases h : x / 8 ≤ y
   ·rw [q0e (by omega)]; simp [h]
   ·rw [q09 (by omega)]; simp [h]
  have hl4 : Lim d4 := by unfold Lim; omega
  by_cases hlt : mid - a < b - mid
  ·rw [q03 (by omega), if_pos hlt]
   simp only [cond_true];obtain ⟨p1, p2⟩ := pdq_sorts (fun x y => ltB (cmp x y) 0) hS d4 a mid limit true true h1 (by omega) hB1
   rw [call a mid d4 (by omega) h1 (by omega) hl4 hB1]
   simp only [Option.bind_some];have hsz : (pdq (fun x y => ltB (cmp x y) 0) d4 a mid limit true true).size = d.size := by rw [p1.1, hs4]
   rw [ih (mid + 1) b limit _ ap _ (by omega) (by omega) (by omega) (by omega) (by unfold Lim; omega) hl (hL1 _ p1 p2).1, lb]
  ·rw [q00 (by omega), if_neg hlt]
   simp only [cond_false];obtain ⟨p1, p2⟩ := pdq_sorts (fun x y => ltB (cmp x y) 0) hS d4 (mid + 1) b limit true true (by omega) (by omega) hB2
   rw [call (mid + 1) b d4 (by omega) (by omega) (by omega) hl4 hB2]
   simp only [Option.bind_some];have hsz : (pdq (fun x y => ltB (cmp x y) 0) d4 (mid + 1) b limit true true).size = d.size := by rw [p1.1, hs4]
   rw [ih a mid limit _ ap _ (by omega) (by omega) (by omega) (by omega) (by unfold Lim; omega) hl (hL2 _ p1 p2).1, lb]
theorem qwq {a b p limit : Nat} {wb wp : Bool} {d : Array Int} (ih : Ih cmp (b - a)) (h16 : b - a < 65536) (hap : a ≤ p) (hpb : p < b) (hb : b ≤ d.size) (hd : Lim d) (hl : limit < 1000) (hB : Below (fun x y => ltB (cmp x y) 0) a b d) :
  q9g (a : Int) (b : Int) (p : Int) (limit : Int) wb wp d.toList = some (qcq (fun x y => ltB (cmp x y) 0) d a b p limit wb wp).toList := by
 have hd' : d.size < 1152921504606846976 := hd;unfold q9g qcq;by_cases h0 : 0 < a
 ·have e1 : subI .i64 (a : Int) 1 = ((a - 1 : Nat) : Int) := subN (y := 1) h0 (by omega)
  rw [q03 (by omega), e1, nthA (by omega), nthA (by omega), Int.toNat_natCast, Int.toNat_natCast, nthNA (by omega), nthNA (by omega), hc]
  simp only [cond_true, Option.bind_some];by_cases hlt : ltB (cmp d[a - 1]! d[p]!) 0 = true
  ·rw [hlt];simp only [Bool.not_true, cond_false, Bool.and_false, Bool.false_eq_true, if_false];exact qlg hc hS ih h16 hap hpb hb hd hl hB
  ·have hf : ltB (cmp d[a - 1]! d[p]!) 0 = false := by simpa using hlt
   rw [hf];simp only [Bool.not_false, cond_true, Bool.and_true, decide_eq_true h0, if_true];rw [qw1 hc a b p d hap hpb hb hd];simp only [Option.bind_some];cases hx : partitionEqual (fun x y => ltB (cmp x y) 0) d a b p with
   | mk mid d4 =>
    obtain ⟨h1, h2, hs4, hB4, _⟩ := round_eq hS (partitionEqual_holds _) h0 hap hpb hb hB hf hx;simp only;rw [dif_pos ⟨h1, h2⟩];exact ih mid b limit wb wp d4 (by omega) (by omega) h2 (by omega) (by unfold Lim; omega) hl hB4
 ·rw [q00 (by omega)]
  simp only [cond_false, gt_iff_lt, decide_eq_false h0, Bool.false_and, Bool.false_eq_true, if_false];exact qlg hc hS ih h16 hap hpb hb hd hl hB
theorem y1i : ∀ n, Ih cmp n
 | 0 => fun a b limit wb wp d h => by omega
 | n + 1 => by
  intro a b limit wb wp d hn h16 hab hb hd hl hB;have hd' : d.size < 1152921504606846976 := hd;have ih : Ih cmp (b - a) := fun a' b' l' wb' wp' dd g => y1i n a' b' l' wb' wp' dd (by omega)
  apply y3u;have e12 := subN hab (show b < 4611686018427387904 by omega)
  by_cases h12 : b - a ≤ 12
  ·rw [show leB (subI .i64 (b : Int) (a : Int)) 12 = true by rw [e12, q0e (by omega)], y7f hc a b d hab hb (by omega)]
   rw [pdq, if_pos h12];rfl
  ·rw [show leB (subI .i64 (b : Int) (a : Int)) 12 = false by rw [e12, q09 (by omega)]]
   simp only [cond_false];by_cases h0 : limit = 0
   ·subst h0;rw [Int.natCast_zero, q0p, y28 hc a b d hab hb (by omega)]
    rw [pdq, if_neg h12, if_pos rfl];rfl
   ·rw [q0t (by omega), y5m _ d a b limit wb wp h12 h0]
    simp only [cond_false];have hlt : a < b := by omega
    have tail : ∀ (d2 : Array Int) (p l : Nat) (wb wp : Bool), PermIn a b d d2 → a ≤ p → p < b → l < 1000 → q9g (a : Int) (b : Int) (p : Int) (l : Int) wb wp d2.toList = some (qcq (fun x y => ltB (cmp x y) 0) d2 a b p l wb wp).toList := by
     intro d2 p l wb wp hp g1 g2 g3;exact qwq hc hS ih h16 g1 g2 (by rw [hp.1]; exact hb) (by unfold Lim; rw [hp.1]; exact hd') g3 (hB.perm hb hp)
    have both : ∀ (d1 : Array Int) (l : Nat) (wb wp : Bool), PermIn a b d d1 → l < 1000 →
      (Option.bind (z0n (a : Int) (b : Int) d1.toList) fun x3 =>
       bif (eqB x3.2.1 2) then
        Option.bind (z0k (a : Int) (b : Int) x3.2.2) fun x4 =>
        bif wb && wp then
         Option.bind (z09 (a : Int) (b : Int) x4) fun x5 =>
         bif x5.1 then some x5.2 else q9g (a : Int) (b : Int) (subI .i64 (subI .i64 (b : Int) 1) (subI .i64 x3.1 (a : Int))) (l : Int) wb wp x5.2
        else q9g (a : Int) (b : Int) (subI .i64 (subI .i64 (b : Int) 1) (subI .i64 x3.1 (a : Int))) (l : Int) wb wp x4
       else
        bif wb && wp && eqB x3.2.1 1 then
         Option.bind (z09 (a : Int) (b : Int) x3.2.2) fun x5 =>
         bif x5.1 then some x5.2 else q9g (a : Int) (b : Int) x3.1 (l : Int) wb wp x5.2
        else q9g (a : Int) (b : Int) x3.1 (l : Int) wb wp x3.2.2) =
      some (let c := choosePivot (fun x y => ltB (cmp x y) 0) d1 a b
       let d2 := if c.2 = .decreasing then reverseRange d1 a b else d1
       let p := if c.2 = .decreasing then (b - 1) - (c.1 - a) else c.1
       let hint := if c.2 = .decreasing then Hint.increasing else c.2
       let pi := if wb && wp && hint = .increasing then partialInsertionSort (fun x y => ltB (cmp x y) 0) d2 a b else (d2, false)
       if pi.2 then pi.1 else qcq (fun x y => ltB (cmp x y) 0) pi.1 a b p l wb wp).toList := by
     intro d1 l wb wp hp hl1;have hb1 : b ≤ d1.size := by rw [hp.1]; exact hb
     have hd1 : Lim d1 := by unfold Lim; rw [hp.1]; exact hd'
     have hd1' : d1.size < 1152921504606846976 := hd1;rw [y35 hc d1 a b hlt hb1 hd1];obtain ⟨c1, c2⟩ := choosePivot_holds (fun x y => ltB (cmp x y) 0) d1 a b hlt
     simp only [Option.bind_some];generalize choosePivot (fun x y => ltB (cmp x y) 0) d1 a b = c at c1 c2
     have fin : ∀ (d2 : Array Int) (p : Nat), PermIn a b d d2 → a ≤ p → p < b →
       (Option.bind (z09 (a : Int) (b : Int) d2.toList) fun x5 =>
        bif x5.1 then some x5.2 else q9g (a : Int) (b : Int) (p : Int) (l : Int) wb wp x5.2) =
       some (if (partialInsertionSort (fun x y => ltB (cmp x y) 0) d2 a b).2 then (partialInsertionSort (fun x y => ltB (cmp x y) 0) d2 a b).1 else qcq (fun x y => ltB (cmp x y) 0) (partialInsertionSort (fun x y => ltB (cmp x y) 0) d2 a b).1 a b p l wb wp).toList := by
      intro d2 p hp2 g1 g2;have hb2 : b ≤ d2.size := by rw [hp2.1]; exact hb
      rw [pi_ok hc a b d2 hlt hb2 (by unfold Lim; rw [hp2.1]; exact hd')]
      simp only [Option.bind_some];obtain ⟨q1, _⟩ := partialInsertionSort_holds hS d2 a b hlt hb2 (hB.perm hb hp2);cases hok : (partialInsertionSort (fun x y => ltB (cmp x y) 0) d2 a b).2 with
      | true => rfl
      | false =>
       simp only [cond_false, Bool.false_eq_true, if_false];exact tail _ p l wb wp (permIn_trans _ _ _ a b hp2 q1) g1 g2 hl1
     cases hh : c.2 with
     | decreasing =>
      have e2 : eqB (hintI Hint.decreasing) 2 = true := rfl;rw [e2];simp only [cond_true, if_true];rw [y43 a b d1 hab (by omega) hb1 hd1]
      simp only [Option.bind_some];have e3 : subI .i64 (subI .i64 (b : Int) 1) (subI .i64 (c.1 : Int) (a : Int)) = ((b - 1 - (c.1 - a) : Nat) : Int) := by
       rw [subN c1 (by omega), show (1 : Int) = ((1 : Nat) : Int) from rfl, subN (by omega) (by omega), subN (by omega) (by omega)]
      rw [e3];have hp2 := permIn_trans _ _ _ a b hp (reverseRange_holds d1 a b hab hb1);cases hw : (wb && wp) with
      | true =>
       simp only [cond_true, Bool.true_and, decide_true, if_true];exact fin _ _ hp2 (by omega) (by omega)
      | false =>
       simp only [cond_false, Bool.false_and, Bool.false_eq_true, if_false];exact tail _ _ l wb wp hp2 (by omega) (by omega) hl1
     | increasing =>
      have e2 : eqB (hintI Hint.increasing) 2 = false := rfl;have e4 : eqB (hintI Hint.increasing) 1 = true := rfl;rw [e2, e4];simp only [cond_false, Bool.and_true, reduceCtorEq, if_false, decide_true];cases hw : (wb && wp) with
      | true =>
       simp only [cond_true, if_true];exact fin _ _ hp c1 c2
      | false =>
       simp only [cond_false, Bool.false_eq_true, if_false];exact tail _ _ l wb wp hp c1 c2 hl1
     | unknown =>
      have e2 : eqB (hintI Hint.unknown) 2 = false := rfl;have e4 : eqB (hintI Hint.unknown) 1 = false := rfl;rw [e2, e4];simp only [cond_false, Bool.and_false, reduceCtorEq, if_false, decide_false, Bool.false_eq_true];exact tail _ _ l wb wp hp c1 c2 hl1
    cases wb with
    | false =>
     simp only [Bool.not_false, cond_true, if_true, Bool.false_and];have hp1 := breakPatterns_holds d a b hab hb;have el : subI .i64 (limit : Int) 1 = ((limit - 1 : Nat) : Int) := subN (y := 1) (by omega) (by omega)
     rw [qx7 a b d hab hb hd h16, el];simp only [Option.bind_some];cases wp with
     | true => exact both _ (limit - 1) false true hp1 (by omega)
     | false => exact both _ (limit - 1) false false hp1 (by omega)
    | true =>
     simp only [Bool.not_true, cond_false, Bool.false_eq_true, if_false, Bool.true_and];cases wp with
     | true => exact both d limit true true (permIn_refl d a b) hl
     | false => exact both d limit true false (permIn_refl d a b) hl
theorem y2a (xs : List Int) (hl : xs.length < 65536) : ∃ ys, z0j xs = some ys ∧ ys.Perm xs ∧ ys.Pairwise fun x y => ltB (cmp y x) 0 = false := by
 have hd : Lim xs.toArray := by unfold Lim; simp; omega
 have hb := q5c (n := xs.length) (k := 16) hl;obtain ⟨p1, p2⟩ := pdq_sorts (fun x y => ltB (cmp x y) 0) hS xs.toArray 0 xs.length (bitsLen xs.length) true true (Nat.zero_le _) (by simp) (.inl rfl)
 refine ⟨(pdq (fun x y => ltB (cmp x y) 0) xs.toArray 0 xs.length (bitsLen xs.length) true true).toList, ?_, ?_, ?_⟩
 ·apply y72;rw [wrapU (by omega), y0h hl]
  simp only [Option.bind_some];have := y1i hc hS (xs.length + 1) 0 xs.length (bitsLen xs.length) true true xs.toArray (by omega) (by omega) (by omega) (by simp) hd (by omega) (.inl rfl)
  have h2 : z01 0 (xs.length : Int) ((bitsLen xs.length : Nat) : Int) xs = some _ := y1q _ _ _ _ _ this;rw [h2];rfl
 ·have := p1.2.2;have hsz : (pdq (fun x y => ltB (cmp x y) 0) xs.toArray 0 xs.length (bitsLen xs.length) true true).size = xs.length := by rw [p1.1]; simp
  have e1 : ∀ d : Array Int, d.size = xs.length → d.extract 0 xs.length = d := fun d hd => by rw [← hd]; simp
  rw [e1 _ hsz, e1 _ (by simp)] at this
  simpa using this
 ·have hsz : (pdq (fun x y => ltB (cmp x y) 0) xs.toArray 0 xs.length (bitsLen xs.length) true true).size = xs.length := by rw [p1.1]; simp
  rw [List.pairwise_iff_getElem];intro i j hi hj hij;have hi' : i < xs.length := by rw [← hsz]; simpa using hi
  have hj' : j < xs.length := by rw [← hsz]; simpa using hj
  have := p2 i j (Nat.zero_le _) hij hj';rw [getElem!_pos _ _ (by omega), getElem!_pos _ _ (by omega)] at this
  simpa using this
end
end Go.Proofs.YtbmelgbadedbbaaGreat
