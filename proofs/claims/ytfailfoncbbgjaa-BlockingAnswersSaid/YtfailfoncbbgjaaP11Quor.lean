/- Quorums and the greatest quorum: what the reference computes, and what it means. -/
import Derived.Test.YtfailfoncbbgjaaP11Sets
namespace Go.Proofs.Ytfailfoncbbgjaa
open Go Go.Ab
def SmallC (c : Config) : Prop := c.Members.length < 1152921504606846976 ∧ ∀ m ∈ c.Members, Small m.Trust
theorem ConfOk.good {n : Nat} {c : Config} (h : ConfOk n c) : ∀ m ∈ c.Members, m.Declared = true → Good (c.Members.length : Int) m.Trust := fun m hm hd => by
  have := h.mem m hm
  unfold MemOk at this
  rwa [if_pos hd] at this
theorem member_of {c : Config} {k : Nat} (h : (decl c).testBit k = true) : ∃ m, c.Members[k]? = some m ∧ tr c k = m.Trust ∧ m.Declared = true := by
  obtain ⟨_, m, h1, h2⟩ := testBit_decl.1 h
  exact ⟨m, h1, by simp [tr, h1], h2⟩
theorem testBit_sub_pow {s k : Nat} (h : s.testBit k = true) (i : Nat) : (s - 2 ^ k).testBit i = (s.testBit i && decide (i ≠ k)) := by
  have hp := Nat.two_pow_pos k
  have hodd : s / 2 ^ k % 2 = 1 := by
    have := h
    rw [Nat.testBit_eq_decide_div_mod_eq, decide_eq_true_eq] at this; exact this
  have hr : s % 2 ^ k < 2 ^ k := Nat.mod_lt _ hp
  have e0 : s = 2 ^ k * (2 * (s / 2 ^ k / 2) + 1) + s % 2 ^ k := by
    have e1 : 2 * (s / 2 ^ k / 2) + 1 = s / 2 ^ k := by omega
    rw [e1]; exact (Nat.div_add_mod s (2 ^ k)).symm
  generalize s / 2 ^ k / 2 = q at e0
  generalize s % 2 ^ k = r at e0 hr
  have e2 : s - 2 ^ k = 2 ^ k * (2 * q) + r := by rw [Nat.mul_add] at e0; omega
  rw [e2, e0, Nat.testBit_two_pow_mul_add _ hr, Nat.testBit_two_pow_mul_add _ hr]
  by_cases h1 : i < k
  · have : i ≠ k := by omega
    simp [h1, this]
  · rw [if_neg h1, if_neg h1]
    by_cases h2 : i = k
    · subst h2; simp [Nat.testBit_zero]
    · obtain ⟨d, hd⟩ : ∃ d, i - k = d + 1 := ⟨i - k - 1, by omega⟩
      rw [hd, Nat.testBit_succ, Nat.testBit_succ, show 2 * q / 2 = q by omega, show (2 * q + 1) / 2 = q by omega]
      simp [h2]
def unhappy (c : Config) (s : Nat) : Option Nat := (nodes s).find? fun k => !sat s (tr c k)
def elim (c : Config) : Nat → Nat → List Nat × Nat
  | 0, s => ([], s)
  | n + 1, s => match unhappy c s with
    | none => ([], s)
    | some k => (k :: (elim c n (s - 2 ^ k)).1, (elim c n (s - 2 ^ k)).2)
def greatest (c : Config) (s : Nat) : Nat := (elim c 1024 (s &&& decl c)).2
theorem sub_pow {s k : Nat} (h : s.testBit k = true) : s - 2 ^ k < s ∧ Sub (s - 2 ^ k) s := by
  have h1 : 2 ^ k ≤ s := Nat.ge_two_pow_of_testBit h
  have := Nat.two_pow_pos k
  refine ⟨by omega, fun i hi => ?_⟩
  rw [testBit_sub_pow h] at hi
  simp only [Bool.and_eq_true] at hi
  exact hi.1
theorem subI_nat {a b : Nat} (h : b ≤ a) (ha : a < 4611686018427387904) : subI .i64 (a : Int) ((b : Nat) : Int) = ((a - b : Nat) : Int) := by
  rw [subI64 (by omega) (by omega)]; omega
end Go.Proofs.Ytfailfoncbbgjaa
