/- A flat trust: so many of the first nodes; numbers of nodes. -/
import Derived.Test.YtfjcndlhpfbcgaaGreatZ16Uni
namespace Go.Proofs.YtfjcndlhpfbcgaaGreat
open Go Go.Ab Go.Sort
def ints' (n : Nat) : List Int := (List.range n).map Int.ofNat
def flat (n k : Nat) : Trust := ⟨(k : Int), ints' n, []⟩
theorem qsu (n : Nat) : ints' (n + 1) = ints' n ++ [(n : Int)] := by simp [ints', List.range_succ]
theorem qo7 (n : Nat) : (ints' n).length = n := by simp [ints']
theorem qoi {n : Nat} : ∀ x ∈ ints' n, 0 ≤ x ∧ x < (n : Int) := fun x hx => by
  obtain ⟨i, hi, rfl⟩ := List.mem_map.1 hx
  have := List.mem_range.1 hi
  simp; omega
theorem qw6 (n : Nat) : (ints' n).Pairwise (· < ·) := by
  unfold ints'
  rw [List.pairwise_map]
  exact (List.pairwise_lt_range).imp fun h => by simpa using h
theorem qhe {n k : Nat} (hn : n ≤ 10) (h1 : 1 ≤ k) (hk : k ≤ n) : valid (flat n k) = true :=
  q9d (m := (n : Int)) (by omega) (by omega) qoi (qw6 n) (by omega) (by rw [qo7]; omega)
theorem qqi (n k : Nat) : below (n : Int) (flat n k) = true := q63 qoi rfl
theorem pcn (s : Nat) : ∀ m i, (q0u s m i).length = (List.range' i m).countP fun k => s.testBit k
  | 0, i => rfl
  | m + 1, i => by
    rw [q3o, pcn s m (i + 1), List.range'_succ, List.countP_cons]
    omega
theorem y4a {n s : Nat} (hn : n ≤ 10) (hs : s < 2 ^ n) : cnt s (ints' n) = pc s := by
  have h1 : cnt s (ints' n) = (List.range' 0 n).countP fun k => s.testBit k := by
    unfold cnt ints'
    rw [List.countP_map, List.range_eq_range']
    apply List.countP_congr
    intro k hk
    have hk' : k < n := by have := List.mem_range'_1.1 hk; omega
    simp only [Function.comp]
    rw [show Int.ofNat k = (k : Int) from rfl, q98 (by omega)]
  have h2 : pc s = (List.range' 0 10).countP fun k => s.testBit k := pcn s 10 0
  have h3 : (List.range' 0 10 : List Nat) = List.range' 0 n ++ List.range' n (10 - n) := by
    have := @List.range'_append_1 0 n (10 - n)
    rw [Nat.zero_add] at this
    rw [this, show n + (10 - n) = 10 by omega]
  have h4 : (List.range' n (10 - n)).countP (fun k => s.testBit k) = 0 := by
    rw [List.countP_eq_zero]
    intro k hk hb
    have hk' := (List.mem_range'_1.1 hk).1
    have := Nat.ge_two_pow_of_testBit hb
    have := Nat.pow_le_pow_right (n := 2) (by decide) hk'
    omega
  rw [h1, h2, h3, List.countP_append, h4]; rfl
theorem qen {n k : Nat} (hn : n ≤ 10) {s : Nat} (hs : s < 2 ^ n) : sat s (flat n k) = decide (k ≤ pc s) := by
  rw [qa6, show (flat n k).Nodes = ints' n from rfl, y4a hn hs]
  show decide ((k : Int) ≤ ((pc s + 0 : Nat) : Int)) = _
  congr 1
  simp
theorem q8z {a b : Nat} (ha : a < 1024) (hb : b < 1024) (h : Sub a b) (he : pc a = pc b) : a = b := by
  obtain ⟨_, h2⟩ := q9s h 10 0
  apply Nat.eq_of_testBit_eq
  intro i
  by_cases hi : i < 10
  · exact h2 he i (by omega) (by omega)
  · have : ∀ z : Nat, z < 1024 → z.testBit i = false := fun z hz => by
      cases hbz : z.testBit i with
      | false => rfl
      | true => exact absurd (q3g hz hbz) hi
    rw [this a ha, this b hb]
theorem qcj {a b : Nat} (h : Sub a b) : pc a ≤ pc b := (q9s h 10 0).1
end Go.Proofs.YtfjcndlhpfbcgaaGreat
