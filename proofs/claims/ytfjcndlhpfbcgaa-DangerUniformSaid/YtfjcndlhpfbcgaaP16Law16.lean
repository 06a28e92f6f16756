/- Law 16's own functions: the uniform configuration, the example of the chapter. -/
import Derived.Test.YtfjcndlhpfbcgaaP16Unid
namespace Go.Proofs.Ytfjcndlhpfbcgaa
open Go Go.Ab Go.Sort
theorem dsame_l3 {n k : Nat} (hn : n ≤ 10) (ms : List Member) : ∀ (j i : Nat), i + j = n →
    z31 (n : Int) (i : Int) ms (k : Int) (ints' n) [] (List.replicate i ⟨true, flat n k⟩) = some (uni n (flat n k))
  | 0, i, h => by
    have : i = n := by omega
    subst this
    apply z31_le
    rw [ltB_false (by omega)]; rfl
  | j + 1, i, h => by
    have ih := dsame_l3 (k := k) hn ms j (i + 1) (by omega)
    rw [List.replicate_succ'] at ih
    apply z31_le
    rw [ltB_true (by omega), capOk_true (by simp [maxElems]; omega), next_nat (by omega)]
    exact ih
theorem dsame_l1 {n k : Nat} (h1 : 1 ≤ n) (hn : n ≤ 10) : ∀ (j i : Nat), i + j = n →
    z2z (n : Int) (i : Int) [] (k : Int) (ints' i) [] = some (uni n (flat n k))
  | 0, i, h => by
    have : i = n := by omega
    subst this
    apply z2z_le
    rw [ltB_false (by omega)]
    simp only [cond_false]
    apply z3u_le
    rw [ltB_true (by omega), capOk_true (by simp [maxElems]), show (0 : Int) = ((0 : Nat) : Int) from rfl, next_nat (by omega)]
    exact dsame_l3 hn [] (i - 1) 1 (by omega)
  | j + 1, i, h => by
    have ih := dsame_l1 (k := k) h1 hn j (i + 1) (by omega)
    rw [ints_succ] at ih
    have := ints_len i
    apply z2z_le
    rw [ltB_true (by omega), capOk_true (by simp [maxElems]; omega), next_nat (by omega)]
    exact ih
theorem dsame_ok {n k : Nat} (h1 : 1 ≤ n) (hn : n ≤ 10) : law16_same (n : Int) (k : Int) = some (uni n (flat n k)) := by
  apply law16_same_le
  exact dsame_l1 h1 hn n 0 (by omega)
def six : List Nat := [3, 5, 6, 9, 10, 12]
theorem six_ord : six.Pairwise nlt := by
  unfold six nlt; decide
theorem six_mem : ∀ s, s < 16 → (s ∈ six ↔ pc s = 2) := by unfold six; decide
theorem six_of {out : List Nat} (ho : out.Pairwise nlt) (h : ∀ z, z ∈ out ↔ z ∈ pick (fun z => decide (pc z = 2)) (2 ^ 4)) : out = six :=
  ord_unique ho six_ord fun s => by
    rw [h, mem_pick, decide_eq_true_eq]
    constructor
    · rintro ⟨h1, h2⟩; exact (six_mem s h1).2 h2
    · intro hs
      have hall : ∀ t ∈ six, t < 16 := by unfold six; decide
      have : s < 16 := hall s hs
      exact ⟨this, (six_mem s this).1 hs⟩
theorem dawake_true : law16_awake = some true := by
  have hv := flat_conf (n := 4) (k := 3) (by decide) (by decide) (by decide)
  have hlen : (uni 4 (flat 4 3)).Members.length = 4 := uni_len 4 _
  obtain ⟨a, a1, a2⟩ := pSplitting_ok hv (by rw [hlen]; decide)
  obtain ⟨b, b1, b2⟩ := pHalting_ok hv
  have t := pTolerates_ok hv (by rw [hlen]; decide) a2 b2
  rw [hlen] at a2 b2 t
  have ha := six_of a2.1 (flat_splits (by decide) (by decide) a2 (by decide))
  have hb := six_of b2.1 (flat_halts (by decide) (by decide) (by decide) b2)
  subst ha
  subst hb
  have hs : law16_same 4 3 = some (uni 4 (flat 4 3)) := dsame_ok (n := 4) (k := 3) (by decide) (by decide)
  apply law16_awake_le
  rw [hs]
  simp only [Option.bind_some]
  rw [a1]
  simp only [Option.bind_some]
  rw [b1]
  simp only [Option.bind_some]
  rw [t]
  simp only [Option.bind_some, eqB_self, cond_true]
  rw [mkints_dec (by simp [six]), mkints_dec (by simp [six])]
  have e1 : (List.map Int.ofNat six) = ([3, 5, 6, 9, 10, 12] : List Int) := rfl
  rw [e1]
  simp only [decide_true, Option.bind_some, cond_true]
  decide
end Go.Proofs.Ytfjcndlhpfbcgaa
