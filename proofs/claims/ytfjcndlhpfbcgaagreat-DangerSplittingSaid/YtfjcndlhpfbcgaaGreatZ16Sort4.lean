/- Sorting: reverseRange, order2, median. -/
import Derived.Test.YtfjcndlhpfbcgaaGreatZ16Sort3
namespace Go.Proofs.YtfjcndlhpfbcgaaGreat
open Go Go.Ab Go.Sort
def Lim (d : Array Int) : Prop := d.size < 1152921504606846976
theorem qyu : ∀ (n i j : Nat) (d : Array Int), j ≤ i + n → j < d.size → Lim d → z0u (i : Int) (j : Int) d.toList = some (reverseLoop i j d).toList
  | n, i, j, d, hn, hj, hd => by
    have hd' : d.size < 1152921504606846976 := hd
    apply y6a
    rw [reverseLoop]
    by_cases h : i < j
    · obtain ⟨n, rfl⟩ : ∃ m, n = m + 1 := ⟨n - 1, by omega⟩
      have bi : i < d.size := by omega
      have e2 : subI .i64 (j : Int) 1 = ((j - 1 : Nat) : Int) := by rw [q1v (by omega) (by omega)]; omega
      simp only [q05 (show (i : Int) < (j : Int) by omega), cond_true, Int.toNat_natCast, nthA bi, nthA hj, nthNA bi, nthNA hj, nthS _ hj, nthNS _ hj, q1b, q04 (show i < 4611686018427387904 by omega), e2, if_pos h]
      exact qyu n (i + 1) (j - 1) (swp d i j) (by omega) (by rw [q0q]; omega) (by unfold Lim; rw [q0q]; exact hd)
    · rw [q02 (by omega), if_neg h]
      rfl
theorem y3q (a b : Nat) (d : Array Int) (_hab : a ≤ b) (h0 : 0 < b) (hbd : b ≤ d.size) (hd : Lim d) : z0l (a : Int) (b : Int) d.toList = some (reverseRange d a b).toList := by
  have hd' : d.size < 1152921504606846976 := hd
  apply y2p
  rw [show subI .i64 (b : Int) 1 = ((b - 1 : Nat) : Int) by rw [q1v (by omega) (by omega)]; omega]
  exact qyu (b - 1) a (b - 1) d (by omega) (by omega) hd
section
variable {cmp : Int → Int → Int} (hc : ∀ x y, z08 x y = some (cmp x y))
include hc
theorem qgb (d : Array Int) (a b s : Nat) (ha : a < d.size) (hb : b < d.size) (hs : s < 1000) :
    z0x (a : Int) (b : Int) d.toList (s : Int) = some (((order2 (fun x y => ltB (cmp x y) 0) d a b s).1 : Int), ((order2 (fun x y => ltB (cmp x y) 0) d a b s).2.1 : Int), d.toList, ((order2 (fun x y => ltB (cmp x y) 0) d a b s).2.2 : Int)) := by
  apply y40
  simp only [nthA ha, nthA hb, nthNA ha, nthNA hb, Int.toNat_natCast, hc, Option.bind_some, q04 (show s < 4611686018427387904 by omega)]
  unfold order2
  cases h : ltB (cmp d[b]! d[a]!) 0 <;> simp [h]
omit hc in
theorem q82 {lt : Int → Int → Bool} (d : Array Int) (a b s : Nat) (ha : a < d.size) (hb : b < d.size) :
    (order2 lt d a b s).1 < d.size ∧ (order2 lt d a b s).2.1 < d.size ∧ (order2 lt d a b s).2.2 ≤ s + 1 := by
  unfold order2; split <;> exact ⟨by assumption, by assumption, by simp⟩
theorem qfh (d : Array Int) (a b c s : Nat) (ha : a < d.size) (hb : b < d.size) (hcs : c < d.size) (hs : s < 900) :
    z0w (a : Int) (b : Int) (c : Int) d.toList (s : Int) = some (((median (fun x y => ltB (cmp x y) 0) d a b c s).1 : Int), d.toList, ((median (fun x y => ltB (cmp x y) 0) d a b c s).2 : Int)) := by
  apply y1x
  obtain ⟨i1, i2, i3⟩ := q82 (lt := fun x y => ltB (cmp x y) 0) d a b s ha hb
  rw [qgb hc d a b s ha hb (by omega)]
  simp only [Option.bind_some]
  generalize hr1 : order2 (fun x y => ltB (cmp x y) 0) d a b s = r1 at i1 i2 i3
  obtain ⟨j1, j2, j3⟩ := q82 (lt := fun x y => ltB (cmp x y) 0) d r1.2.1 c r1.2.2 i2 hcs
  rw [qgb hc d r1.2.1 c r1.2.2 i2 hcs (by omega)]
  simp only [Option.bind_some]
  generalize hr2 : order2 (fun x y => ltB (cmp x y) 0) d r1.2.1 c r1.2.2 = r2 at j1 j2 j3
  rw [qgb hc d r1.1 r2.1 r2.2.2 i1 j1 (by omega)]
  simp only [Option.bind_some]
  unfold median
  simp only [hr1, hr2]
end
end Go.Proofs.YtfjcndlhpfbcgaaGreat
