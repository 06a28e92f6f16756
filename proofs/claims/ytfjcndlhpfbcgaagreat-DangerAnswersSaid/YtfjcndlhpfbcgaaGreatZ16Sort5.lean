/- Sorting: medianAdjacent, choosePivot. -/
import Derived.Test.YtfjcndlhpfbcgaaGreatZ16Sort4
namespace Go.Proofs.YtfjcndlhpfbcgaaGreat
open Go Go.Ab Go.Sort
def hintI : Hint → Int
  | .unknown => 0 | .increasing => 1 | .decreasing => 2
theorem quo4 {x : Nat} (h : x < 4611686018427387904) : quoI .i64 (x : Int) 4 = ((x / 4 : Nat) : Int) := by
  show IntKind.wrap .i64 ((x : Int).tdiv 4) = _
  rw [show (x : Int).tdiv 4 = ((x / 4 : Nat) : Int) from rfl, q4s (by omega) (by omega)]
theorem mulN {x k : Nat} (h : x * k < 4611686018427387904) : mulI .i64 (x : Int) (k : Int) = ((x * k : Nat) : Int) := by
  show IntKind.wrap .i64 ((x : Int) * (k : Int)) = _
  rw [← Int.natCast_mul, q4s (by omega) (by omega)]
theorem q99 {lt : Int → Int → Bool} (d : Array Int) (a b c s : Nat) (ha : a < d.size) (hb : b < d.size) (hc : c < d.size) : (median lt d a b c s).1 < d.size ∧ (median lt d a b c s).2 ≤ s + 3 := by
  unfold median
  obtain ⟨i1, i2, i3⟩ := q82 (lt := lt) d a b s ha hb
  obtain ⟨j1, j2, j3⟩ := q82 (lt := lt) d _ c (order2 lt d a b s).2.2 i2 hc
  obtain ⟨k1, k2, k3⟩ := q82 (lt := lt) d _ _ (order2 lt d (order2 lt d a b s).2.1 c (order2 lt d a b s).2.2).2.2 i1 j1
  exact ⟨k2, by simp only; omega⟩
section
variable {cmp : Int → Int → Int} (hc : ∀ x y, z08 x y = some (cmp x y))
include hc
theorem q90 (d : Array Int) (a s : Nat) (h0 : 1 ≤ a) (ha : a + 1 < d.size) (hd : Lim d) (hs : s < 900) :
    z0k (a : Int) d.toList (s : Int) = some (((medianAdjacent (fun x y => ltB (cmp x y) 0) d a s).1 : Int), d.toList, ((medianAdjacent (fun x y => ltB (cmp x y) 0) d a s).2 : Int)) := by
  have hd' : d.size < 1152921504606846976 := hd
  apply y39
  rw [show subI .i64 (a : Int) 1 = ((a - 1 : Nat) : Int) by rw [q1v (by omega) (by omega)]; omega, q04 (by omega), qfh hc d (a - 1) a (a + 1) s (by omega) (by omega) ha hs]
  rfl
theorem y04 (d : Array Int) (a b : Nat) (hab : a < b) (hbd : b ≤ d.size) (hd : Lim d) :
    z0p (a : Int) (b : Int) d.toList = some (((choosePivot (fun x y => ltB (cmp x y) 0) d a b).1 : Int), hintI (choosePivot (fun x y => ltB (cmp x y) 0) d a b).2, d.toList) := by
  have hd' : d.size < 1152921504606846976 := hd
  apply y5j
  have el := subN (x := b) (y := a) (by omega) (by omega)
  have eq := quo4 (x := b - a) (by omega)
  have m1 : mulI .i64 (((b - a) / 4 : Nat) : Int) 1 = (((b - a) / 4 * 1 : Nat) : Int) := mulN (k := 1) (by omega)
  have m2 : mulI .i64 (((b - a) / 4 : Nat) : Int) 2 = (((b - a) / 4 * 2 : Nat) : Int) := mulN (k := 2) (by omega)
  have m3 : mulI .i64 (((b - a) / 4 : Nat) : Int) 3 = (((b - a) / 4 * 3 : Nat) : Int) := mulN (k := 3) (by omega)
  have a1 := addN (x := a) (y := (b - a) / 4 * 1) (by omega)
  have a2 := addN (x := a) (y := (b - a) / 4 * 2) (by omega)
  have a3 := addN (x := a) (y := (b - a) / 4 * 3) (by omega)
  simp only [el, eq, m1, m2, m3, a1, a2, a3]
  have tail : ∀ (p : Nat × Nat), p.2 ≤ 900 → (bif (eqB (p.2 : Int) 0) then some ((p.1 : Int), (1 : Int), d.toList) else bif (eqB (p.2 : Int) 12) then some ((p.1 : Int), 2, d.toList) else some ((p.1 : Int), 0, d.toList)) =
      some ((p.1 : Int), hintI (if p.2 = 0 then .increasing else if p.2 = 12 then .decreasing else .unknown), d.toList) := by
    intro p _
    by_cases h0 : p.2 = 0
    · simp [h0, eqB, hintI]
    · by_cases h12 : p.2 = 12
      · simp [h12, eqB, hintI]
      · rw [q0z (by omega), q0z (by omega)]
        simp [h0, h12, hintI]
  unfold choosePivot
  by_cases h8 : b - a ≥ 8
  · rw [q0f (show (8 : Int) ≤ ((b - a : Nat) : Int) by omega)]
    simp only [cond_true, if_pos h8]
    by_cases h50 : b - a ≥ 50
    · rw [q0f (show (50 : Int) ≤ ((b - a : Nat) : Int) by omega)]
      simp only [cond_true, if_pos h50]
      have q1 := q90 hc d (a + (b - a) / 4 * 1) 0 (by omega) (by omega) hd (by omega)
      have i1 := q99 (lt := fun x y => ltB (cmp x y) 0) d (a + (b - a) / 4 * 1 - 1) (a + (b - a) / 4 * 1) (a + (b - a) / 4 * 1 + 1) 0 (by omega) (by omega) (by omega)
      rw [show (0 : Int) = ((0 : Nat) : Int) from rfl, q1]
      simp only [Option.bind_some]
      change (medianAdjacent (fun x y => ltB (cmp x y) 0) d (a + (b - a) / 4 * 1) 0).1 < d.size ∧ (medianAdjacent (fun x y => ltB (cmp x y) 0) d (a + (b - a) / 4 * 1) 0).2 ≤ 0 + 3 at i1
      generalize medianAdjacent (fun x y => ltB (cmp x y) 0) d (a + (b - a) / 4 * 1) 0 = r1 at i1
      have q2 := q90 hc d (a + (b - a) / 4 * 2) r1.2 (by omega) (by omega) hd (by omega)
      have i2 := q99 (lt := fun x y => ltB (cmp x y) 0) d (a + (b - a) / 4 * 2 - 1) (a + (b - a) / 4 * 2) (a + (b - a) / 4 * 2 + 1) r1.2 (by omega) (by omega) (by omega)
      rw [q2]
      simp only [Option.bind_some]
      change (medianAdjacent (fun x y => ltB (cmp x y) 0) d (a + (b - a) / 4 * 2) r1.2).1 < d.size ∧ (medianAdjacent (fun x y => ltB (cmp x y) 0) d (a + (b - a) / 4 * 2) r1.2).2 ≤ r1.2 + 3 at i2
      generalize medianAdjacent (fun x y => ltB (cmp x y) 0) d (a + (b - a) / 4 * 2) r1.2 = r2 at i2
      have q3 := q90 hc d (a + (b - a) / 4 * 3) r2.2 (by omega) (by omega) hd (by omega)
      have i3 := q99 (lt := fun x y => ltB (cmp x y) 0) d (a + (b - a) / 4 * 3 - 1) (a + (b - a) / 4 * 3) (a + (b - a) / 4 * 3 + 1) r2.2 (by omega) (by omega) (by omega)
      rw [q3]
      simp only [Option.bind_some]
      change (medianAdjacent (fun x y => ltB (cmp x y) 0) d (a + (b - a) / 4 * 3) r2.2).1 < d.size ∧ (medianAdjacent (fun x y => ltB (cmp x y) 0) d (a + (b - a) / 4 * 3) r2.2).2 ≤ r2.2 + 3 at i3
      generalize medianAdjacent (fun x y => ltB (cmp x y) 0) d (a + (b - a) / 4 * 3) r2.2 = r3 at i3
      have i4 := q99 (lt := fun x y => ltB (cmp x y) 0) d r1.1 r2.1 r3.1 r3.2 i1.1 i2.1 i3.1
      rw [qfh hc d r1.1 r2.1 r3.1 r3.2 i1.1 i2.1 i3.1 (by omega)]
      simp only [Option.bind_some]
      exact tail _ (by omega)
    · rw [q0a (show ((b - a : Nat) : Int) < 50 by omega)]
      simp only [cond_false, if_neg h50]
      have i4 := q99 (lt := fun x y => ltB (cmp x y) 0) d (a + (b - a) / 4 * 1) (a + (b - a) / 4 * 2) (a + (b - a) / 4 * 3) 0 (by omega) (by omega) (by omega)
      rw [show (0 : Int) = ((0 : Nat) : Int) from rfl, qfh hc d _ _ _ 0 (by omega) (by omega) (by omega) (by omega)]
      simp only [Option.bind_some]
      exact tail _ (by omega)
  · rw [q0a (show ((b - a : Nat) : Int) < 8 by omega)]
    simp only [cond_false, if_neg h8, if_true]
    rfl
end
end Go.Proofs.YtfjcndlhpfbcgaaGreat
