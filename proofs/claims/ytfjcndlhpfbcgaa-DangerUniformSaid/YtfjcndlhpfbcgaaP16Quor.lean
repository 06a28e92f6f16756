/- Quorums and the greatest quorum: what the reference computes, and what it means. -/
import Derived.Test.YtfjcndlhpfbcgaaP16Sets
namespace Go.Proofs.Ytfjcndlhpfbcgaa
open Go Go.Ab
def Quorum (c : Config) (s : Nat) : Prop := s ≠ 0 ∧ Sub s (decl c) ∧ ∀ k, s.testBit k = true → sat s (tr c k) = true
def SmallC (c : Config) : Prop := c.Members.length < 1152921504606846976 ∧ ∀ m ∈ c.Members, Small m.Trust
theorem ConfOk.good {n : Nat} {c : Config} (h : ConfOk n c) : ∀ m ∈ c.Members, m.Declared = true → Good (c.Members.length : Int) m.Trust := fun m hm hd => by
  have := h.mem m hm
  unfold MemOk at this
  rwa [if_pos hd] at this
theorem member_of {c : Config} {k : Nat} (h : (decl c).testBit k = true) : ∃ m, c.Members[k]? = some m ∧ tr c k = m.Trust ∧ m.Declared = true := by
  obtain ⟨_, m, h1, h2⟩ := testBit_decl.1 h
  exact ⟨m, h1, by simp [tr, h1], h2⟩
theorem testBit_sub_pow {s k : Nat} (h : s.testBit k = true) (i : Nat) : (s - 2 ^ k).testBit i = (s.testBit i && decide (i ≠ k)) := by
  have hp := Nat.two_pow_pos k
  have hodd : s / 2 ^ k % 2 = 1 := by
    have := h
    rw [Nat.testBit_eq_decide_div_mod_eq, decide_eq_true_eq] at this; exact this
  have hr : s % 2 ^ k < 2 ^ k := Nat.mod_lt _ hp
  have e0 : s = 2 ^ k * (2 * (s / 2 ^ k / 2) + 1) + s % 2 ^ k := by
    have e1 : 2 * (s / 2 ^ k / 2) + 1 = s / 2 ^ k := by omega
    rw [e1]; exact (Nat.div_add_mod s (2 ^ k)).symm
  generalize s / 2 ^ k / 2 = q at e0
  generalize s % 2 ^ k = r at e0 hr
  have e2 : s - 2 ^ k = 2 ^ k * (2 * q) + r := by rw [Nat.mul_add] at e0; omega
  rw [e2, e0, Nat.testBit_two_pow_mul_add _ hr, Nat.testBit_two_pow_mul_add _ hr]
  by_cases h1 : i < k
  · have : i ≠ k := by omega
    simp [h1, this]
  · rw [if_neg h1, if_neg h1]
    by_cases h2 : i = k
    · subst h2; simp [Nat.testBit_zero]
    · obtain ⟨d, hd⟩ : ∃ d, i - k = d + 1 := ⟨i - k - 1, by omega⟩
      rw [hd, Nat.testBit_succ, Nat.testBit_succ, show 2 * q / 2 = q by omega, show (2 * q + 1) / 2 = q by omega]
      simp [h2]
def unhappy (c : Config) (s : Nat) : Option Nat := (nodes s).find? fun k => !sat s (tr c k)
def elim (c : Config) : Nat → Nat → List Nat × Nat
  | 0, s => ([], s)
  | n + 1, s => match unhappy c s with
    | none => ([], s)
    | some k => (k :: (elim c n (s - 2 ^ k)).1, (elim c n (s - 2 ^ k)).2)
def greatest (c : Config) (s : Nat) : Nat := (elim c 1024 (s &&& decl c)).2
theorem unhappy_some {c : Config} {s k : Nat} (h : unhappy c s = some k) : s.testBit k = true ∧ k < 10 ∧ sat s (tr c k) = false := by
  unfold unhappy at h
  have h1 := List.find?_some h
  have h2 := mem_nodes.1 (List.mem_of_find?_eq_some h)
  exact ⟨h2.1, h2.2, by simpa using h1⟩
theorem unhappy_none {c : Config} {s : Nat} (hs : s < 1024) (h : unhappy c s = none) : ∀ k, s.testBit k = true → sat s (tr c k) = true := by
  intro k hk
  unfold unhappy at h
  have := List.find?_eq_none.1 h k (mem_nodes.2 ⟨hk, bit_lt_of hs hk⟩)
  simpa using this
theorem sub_pow {s k : Nat} (h : s.testBit k = true) : s - 2 ^ k < s ∧ Sub (s - 2 ^ k) s := by
  have h1 : 2 ^ k ≤ s := Nat.ge_two_pow_of_testBit h
  have := Nat.two_pow_pos k
  refine ⟨by omega, fun i hi => ?_⟩
  rw [testBit_sub_pow h] at hi
  simp only [Bool.and_eq_true] at hi
  exact hi.1
theorem elim_facts (c : Config) : ∀ (n s : Nat), s < n → s < 1024 → Sub (elim c n s).2 s ∧ unhappy c (elim c n s).2 = none ∧ (∀ q, Sub q s → (∀ k, q.testBit k = true → sat q (tr c k) = true) → Sub q (elim c n s).2)
  | 0, s, h, _ => by omega
  | n + 1, s, h, hs => by
    simp only [elim]
    cases hu : unhappy c s with
    | none => exact ⟨Sub.refl s, hu, fun q hq _ => hq⟩
    | some k =>
      obtain ⟨h1, h2, h3⟩ := unhappy_some hu
      obtain ⟨h4, h5⟩ := sub_pow h1
      obtain ⟨i1, i2, i3⟩ := elim_facts c n (s - 2 ^ k) (by omega) (by omega)
      refine ⟨i1.trans h5, i2, fun q hq hsat => i3 q (fun i hi => ?_) hsat⟩
      rw [testBit_sub_pow h1, hq i hi]
      have : i ≠ k := by
        rintro rfl
        have := sat_mono (has_sub hq) _ (hsat i hi)
        rw [h3] at this; cases this
      simp [this]
theorem greatest_sub (c : Config) {s : Nat} (hs : s < 1024) : Sub (greatest c s) (s &&& decl c) := by
  have hlt : s &&& decl c < 1024 := Nat.lt_of_le_of_lt Nat.and_le_left hs
  exact (elim_facts c 1024 _ hlt hlt).1
theorem greatest_lt (c : Config) {s : Nat} (hs : s < 1024) : greatest c s < 1024 := ((greatest_sub c hs).trans (Sub.and_left _ _)).lt hs
theorem greatest_quorum (c : Config) {s : Nat} (hs : s < 1024) (h0 : greatest c s ≠ 0) : Quorum c (greatest c s) := by
  have hlt : s &&& decl c < 1024 := Nat.lt_of_le_of_lt Nat.and_le_left hs
  exact ⟨h0, (greatest_sub c hs).trans (Sub.and_right _ _), unhappy_none (greatest_lt c hs) (elim_facts c 1024 _ hlt hlt).2.1⟩
theorem greatest_max (c : Config) {s : Nat} (hs : s < 1024) {q : Nat} (hq : Quorum c q) (h : Sub q s) : Sub q (greatest c s) := by
  have hlt : s &&& decl c < 1024 := Nat.lt_of_le_of_lt Nat.and_le_left hs
  refine (elim_facts c 1024 _ hlt hlt).2.2 q (fun i hi => ?_) hq.2.2
  rw [Nat.testBit_and, h i hi, hq.2.1 i hi]; rfl
theorem subI_nat {a b : Nat} (h : b ≤ a) (ha : a < 4611686018427387904) : subI .i64 (a : Int) ((b : Nat) : Int) = ((a - b : Nat) : Int) := by
  rw [subI64 (by omega) (by omega)]; omega
end Go.Proofs.Ytfjcndlhpfbcgaa
