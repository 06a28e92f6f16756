/- Configurations whose members all have one trust. -/
import Derived.Test.YtfjcndlhpfbcgaaGreatZ16Pquor
namespace Go.Proofs.YtfjcndlhpfbcgaaGreat
open Go Go.Ab Go.Sort
def uni (n : Nat) (x : Trust) : Config := ⟨List.replicate n ⟨true, x⟩⟩
theorem qcz (n : Nat) (x : Trust) : (uni n x).Members.length = n := List.length_replicate
theorem qrg {n : Nat} {x : Trust} {k : Nat} (h : k < n) : (uni n x).Members[k]? = some ⟨true, x⟩ := by
  rw [show (uni n x).Members = List.replicate n ⟨true, x⟩ from rfl, List.getElem?_replicate, if_pos h]
theorem qe7 {n : Nat} (hn : n ≤ 10) (x : Trust) : decl (uni n x) = 2 ^ n - 1 := by
  apply Nat.eq_of_testBit_eq
  intro i
  rw [Bool.eq_iff_iff, q4n, Nat.testBit_two_pow_sub_one, decide_eq_true_eq]
  constructor
  · rintro ⟨_, m, h1, _⟩
    have := (List.getElem?_eq_some_iff.1 h1).1
    rw [qcz] at this; exact this
  · intro h
    exact ⟨by omega, _, qrg h, rfl⟩
theorem qpp {n : Nat} {x : Trust} {k : Nat} (h : k < n) : tr (uni n x) k = x := by simp [tr, qrg h]
theorem qtc {n : Nat} (hn : n ≤ 10) {x : Trust} (hv : valid x = true) (hu : uses x < 2 ^ n) : cerr (uni n x) = 0 := by
  refine q1y.2 ⟨by rw [qcz]; exact hn, fun m hm => ?_⟩
  rw [(List.mem_replicate.1 hm).2, qcz]
  exact ⟨hv, hu⟩
theorem qlq : ∀ {l : List Trust}, (∀ x ∈ l, sat 0 x = false) → sats 0 l = 0
  | [], _ => rfl
  | y :: r, h => by
    simp only [sats]
    rw [h y (by simp), qlq fun x hx => h x (by simp [hx])]
    rfl
theorem qv0 {l : List Trust} (h : goods l = true) : ∀ x ∈ l, good x = true := by
  induction l with
  | nil => intro x hx; cases hx
  | cons y r ih =>
    simp only [goods, Bool.and_eq_true] at h
    intro x hx
    rcases List.mem_cons.1 hx with rfl | hx
    · exact h.1
    · exact ih h.2 x hx
theorem qw0 : ∀ t : Trust, good t = true → sat 0 t = false := by
  apply Trust.ind
  intro t ih h
  rw [q8x] at h
  simp only [Bool.and_eq_true, decide_eq_true_eq] at h
  have h1 : cnt 0 t.Nodes = 0 := by
    unfold cnt
    rw [List.countP_eq_zero]
    intro k _
    rw [qjs]; decide
  rw [qa6, h1, qlq fun x hx => ih x hx (qv0 h.2.2.2.2 x hx)]
  exact decide_eq_false (by omega)
theorem qu2 {n : Nat} (hn : n ≤ 10) {x : Trust} (hg : good x = true) {z : Nat} (hz : z < 2 ^ n) : quoB (uni n x) z = sat z x := by
  have hz10 : z < 1024 := Nat.lt_of_lt_of_le hz (pow10 hn)
  have hsub : Sub z (2 ^ n - 1) := fun i hi => by
    rw [Nat.testBit_two_pow_sub_one, decide_eq_true_eq]
    refine Nat.lt_of_not_le fun hge => ?_
    have := Nat.ge_two_pow_of_testBit hi
    have := Nat.pow_le_pow_right (n := 2) (by decide) hge
    omega
  by_cases h0 : z = 0
  · subst h0
    rw [qw0 x hg]; rfl
  · rw [Bool.eq_iff_iff, q3y hz10]
    constructor
    · rintro ⟨_, _, h3⟩
      obtain ⟨i, hi⟩ := qel h0
      have hin : i < n := by have := hsub i hi; rw [Nat.testBit_two_pow_sub_one, decide_eq_true_eq] at this; exact this
      have := h3 i hi
      rw [qpp hin] at this; exact this
    · intro h
      refine ⟨h0, by rw [qe7 hn]; exact hsub, fun k hk => ?_⟩
      have hin : k < n := by have := hsub k hk; rw [Nat.testBit_two_pow_sub_one, decide_eq_true_eq] at this; exact this
      rw [qpp hin]; exact h
end Go.Proofs.YtfjcndlhpfbcgaaGreat
