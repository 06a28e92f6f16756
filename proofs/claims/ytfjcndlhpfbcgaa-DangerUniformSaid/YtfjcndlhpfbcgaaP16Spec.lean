/- What the functions of trusts and sets compute: plain definitions, and the functions' walks. -/
import Derived.Test.YtfjcndlhpfbcgaaP16Fn0
import Derived.Test.YtfjcndlhpfbcgaaP16Fn1
import Derived.Test.YtfjcndlhpfbcgaaP16Fn2
import Derived.Test.YtfjcndlhpfbcgaaP16Fn3
import Derived.Test.YtfjcndlhpfbcgaaP16Fn4
import Derived.Test.YtfjcndlhpfbcgaaMachT
namespace Go.Proofs.Ytfjcndlhpfbcgaa
open Go Go.Ab
theorem Trust.ind {p : Trust → Prop} (h : ∀ t, (∀ x ∈ t.Inner, p x) → p t) (t : Trust) : p t :=
  h t fun x _hx => Trust.ind h x
termination_by SizeOf.sizeOf t
decreasing_by
  have := List.sizeOf_lt_of_mem _hx
  cases t
  simp only [Trust.mk.sizeOf_spec] at *
  omega
@[simp] theorem Trust.eta (t : Trust) : Trust.mk t.Threshold t.Nodes t.Inner = t := by cases t; rfl
def has (s : Nat) (k : Int) : Bool := decide (0 ≤ k) && (decide (k < 10) && s.testBit k.toNat)
def cnt (s : Nat) (l : List Int) : Nat := l.countP (has s)
theorem nodeset_Valid_ok {s : Nat} (h : s < 1024) : z1j s = some true := by
  apply z1j_le
  have : z1w s 10 = some true := by
    apply z1w_le
    simp only [leB_true (show (0 : Int) ≤ (s : Int) by omega), cond_true, chk_true (show (0 : Int) ≤ 10 by decide), shl1 (show (0 : Int) ≤ 10 by decide) (by decide)]
    rw [ltB_true]
    show (s : Int) < ((2 ^ 10 : Nat) : Int)
    omega
  simp only [this, Option.bind_some]
theorem shift_and_one (s k : Nat) : (s >>> k) &&& 1 = if s.testBit k then 1 else 0 := by
  rw [Nat.testBit_eq_decide_div_mod_eq, Nat.shiftRight_eq_div_pow, Nat.and_one_is_mod]
  have : s / 2 ^ k % 2 = 0 ∨ s / 2 ^ k % 2 = 1 := by omega
  rcases this with h | h <;> simp [h]
theorem and_pow (s k : Nat) : s &&& 2 ^ k = if s.testBit k then 2 ^ k else 0 := by
  apply Nat.eq_of_testBit_eq
  intro i
  rw [Nat.testBit_and, Nat.testBit_two_pow]
  by_cases hi : k = i
  · subst hi
    cases h : s.testBit k <;> simp []
  · cases h : s.testBit k <;> simp [hi]
theorem nodeset_Has_ok {s : Nat} (h : s < 1024) (k : Int) : z2s s k = some (has s k) := by
  apply z2s_le
  simp only [nodeset_Valid_ok h, Option.bind_some, cond_true]
  unfold has
  by_cases h0 : 0 ≤ k
  · by_cases h1 : k < 10
    · obtain ⟨n, rfl⟩ := Int.eq_ofNat_of_zero_le h0
      have hn : n < 10 := by omega
      simp only [leB_true h0, ltB_true h1, cond_true, chk_true h0, shl1 h0 (show ((n : Nat) : Int) ≤ 62 by omega), decide_eq_true h0, decide_eq_true h1, Bool.true_and, Int.toNat_natCast]
      have h2 : 2 ^ n < 2 ^ 62 := Nat.pow_lt_pow_right (by decide) (by omega)
      rw [andI_nat (show s < 2 ^ 62 by omega) h2, and_pow]
      cases s.testBit n with
      | true =>
        have : (2 : Nat) ^ n ≠ 0 := by have := Nat.two_pow_pos n; omega
        simp only [if_true]
        rw [neB_ne (by omega)]
      | false => rfl
    · simp only [leB_true h0, ltB_false (Int.not_lt.1 h1), cond_true, cond_false, h1, decide_false, Bool.false_and, Bool.and_false]
  · simp only [leB_false (Int.not_le.1 h0), cond_false, h0, decide_false, Bool.false_and]
mutual
def size : Trust → Nat
  | ⟨_, nodes, inner⟩ => nodes.length + inner.length + sizes inner
def sizes : List Trust → Nat
  | [] => 0
  | x :: r => size x + sizes r
end
mutual
def depth : Trust → Nat
  | ⟨_, _, inner⟩ => depths inner + 1
def depths : List Trust → Nat
  | [] => 0
  | x :: r => max (depth x) (depths r)
end
theorem size_eq (t : Trust) : size t = t.Nodes.length + t.Inner.length + sizes t.Inner := by cases t; simp only [size]
theorem depth_eq (t : Trust) : depth t = depths t.Inner + 1 := by cases t; simp only [depth]
theorem size_mem {x : Trust} {l : List Trust} (h : x ∈ l) : size x ≤ sizes l := by
  induction l with
  | nil => cases h
  | cons y r ih =>
    simp only [sizes]
    rcases List.mem_cons.1 h with rfl | h
    · omega
    · have := ih h; omega
def Small (t : Trust) : Prop := size t < 1152921504606846976
theorem Small.nodes {t : Trust} (h : Small t) : t.Nodes.length < 1152921504606846976 := by unfold Small at h; rw [size_eq] at h; omega
theorem Small.inner {t : Trust} (h : Small t) : t.Inner.length < 1152921504606846976 := by unfold Small at h; rw [size_eq] at h; omega
theorem Small.mem {t x : Trust} (h : Small t) (hx : x ∈ t.Inner) : Small x := by
  unfold Small at *; rw [size_eq] at h; have := size_mem hx; omega
mutual
def sat (s : Nat) : Trust → Bool
  | ⟨thr, nodes, inner⟩ => decide (thr ≤ ((cnt s nodes + sats s inner : Nat) : Int))
def sats (s : Nat) : List Trust → Nat
  | [] => 0
  | x :: r => (if sat s x then 1 else 0) + sats s r
end
theorem sat_eq (s : Nat) (t : Trust) : sat s t = decide (t.Threshold ≤ ((cnt s t.Nodes + sats s t.Inner : Nat) : Int)) := by cases t; simp only [sat]
theorem depth_le_size : ∀ t : Trust, depth t ≤ size t + 1 := by
  apply Trust.ind
  intro t ih
  rw [depth_eq, size_eq]
  have : ∀ l : List Trust, (∀ x ∈ l, depth x ≤ size x + 1) → depths l ≤ sizes l + l.length := by
    intro l
    induction l with
    | nil => intro _; simp [depths]
    | cons y r ihl =>
      intro h
      have h1 := h y (by simp)
      have h2 := ihl (fun x hx => h x (by simp [hx]))
      simp only [depths, sizes, List.length_cons]; omega
  have := this t.Inner ih
  omega
def inR (k : Int) : Bool := decide (0 ≤ k) && decide (k < 10)
def bit (k : Int) : Nat := 2 ^ k.toNat
theorem bit_lt {k : Int} (h : inR k = true) : bit k < 1024 := by
  simp only [inR, Bool.and_eq_true, decide_eq_true_eq] at h
  have : k.toNat < 10 := by omega
  exact Nat.pow_lt_pow_right (a := 2) (by decide) this
theorem shl_bit {k : Int} (h : inR k = true) : shlI .i64 1 k = ((bit k : Nat) : Int) := by
  simp only [inR, Bool.and_eq_true, decide_eq_true_eq] at h
  exact shl1 h.1 (by omega)
theorem has_or {s : Nat} {k j : Int} (hk : inR k = true) : has (s ||| bit k) j = (has s j || (decide (j = k))) := by
  simp only [inR, Bool.and_eq_true, decide_eq_true_eq] at hk
  simp only [has, bit, Nat.testBit_or, Nat.testBit_two_pow]
  by_cases h0 : 0 ≤ j
  · by_cases h1 : j < 10
    · simp only [h0, h1, decide_true, Bool.true_and]
      congr 1
      by_cases h2 : j = k
      · subst h2; simp
      · have : k.toNat ≠ j.toNat := by omega
        simp [h2, this]
    · simp only [h1, decide_false, Bool.false_and, Bool.and_false, Bool.false_or]
      symm; rw [decide_eq_false_iff_not]; omega
  · simp only [h0, decide_false, Bool.false_and, Bool.false_or]
    symm; rw [decide_eq_false_iff_not]; omega
def fresh (s : Nat) : List Int → Bool
  | [] => true
  | k :: r => inR k && (!has s k && fresh (s ||| bit k) r)
mutual
def good : Trust → Bool
  | ⟨thr, nodes, inner⟩ => decide (1 ≤ thr) && (decide (thr ≤ ((nodes.length + inner.length : Nat) : Int)) && (nodes.all inR && (fresh 0 nodes && goods inner)))
def goods : List Trust → Bool
  | [] => true
  | x :: r => good x && goods r
end
theorem good_eq (t : Trust) : good t = (decide (1 ≤ t.Threshold) && (decide (t.Threshold ≤ ((t.Nodes.length + t.Inner.length : Nat) : Int)) && (t.Nodes.all inR && (fresh 0 t.Nodes && goods t.Inner)))) := by cases t; simp only [good]
def valid (t : Trust) : Bool := decide (depth t ≤ 4) && (decide (size t ≤ 200) && good t)
end Go.Proofs.Ytfjcndlhpfbcgaa
