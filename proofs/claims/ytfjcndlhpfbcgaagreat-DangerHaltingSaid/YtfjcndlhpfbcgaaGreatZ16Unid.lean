/- Danger where all trust in so many of the first nodes: it depends on the number of nodes alone. -/
import Derived.Test.YtfjcndlhpfbcgaaGreatZ16Danger
namespace Go.Proofs.YtfjcndlhpfbcgaaGreat
open Go Go.Ab Go.Sort
theorem qcl {a b u : Nat} (h : ∀ i, u.testBit i = (a.testBit i || b.testBit i)) (hd : ∀ i, a.testBit i = true → b.testBit i = false) : ∀ m i, (q0u u m i).length = (q0u a m i).length + (q0u b m i).length
  | 0, i => rfl
  | m + 1, i => by
    rw [q3o, q3o a, q3o b, qcl h hd m (i + 1), h]
    have := hd i
    cases h1 : a.testBit i <;> cases h2 : b.testBit i <;> simp_all <;> omega
theorem pc_or {a b : Nat} (hd : ∀ i, a.testBit i = true → b.testBit i = false) : pc (a ||| b) = pc a + pc b := qcl (fun _i => Nat.testBit_or ..) hd 10 0
theorem qem {u a : Nat} (h : Sub a u) : pc (ndiff u a) + pc a = pc u := by
  refine (qcl (a := ndiff u a) (b := a) (u := u) (fun i => ?_) (fun i hi => ?_) 10 0).symm
  · rw [q0p]
    have := h i
    cases h1 : u.testBit i <;> cases h2 : a.testBit i <;> simp_all
  · rw [q0p] at hi
    cases h2 : a.testBit i with
    | false => rfl
    | true => simp [h2] at hi
theorem qjq : pc 0 = 0 := by decide
theorem y64 {i : Nat} (h : i < 10) : pc (2 ^ i) = 1 := by
  have : ∀ i, i < 10 → pc (2 ^ i) = 1 := by decide
  exact this i h
theorem q4h (u a : Nat) : Sub (ndiff u a) u := fun i hi => by
  rw [q0p] at hi
  cases h : u.testBit i with
  | true => rfl
  | false => simp [h] at hi
theorem qnc {u : Nat} (hu : u < 1024) : ∀ (d j : Nat), j + d = pc u → ∃ a, Sub a u ∧ pc a = j
  | 0, j, h => ⟨u, Sub.refl _, by omega⟩
  | d + 1, j, h => by
    obtain ⟨a, h1, h2⟩ := qnc hu d (j + 1) (by omega)
    have h0 : a ≠ 0 := fun e => by subst e; rw [qjq] at h2; omega
    obtain ⟨i, hi⟩ := qel h0
    have hi10 := q3g hu (h1 i hi)
    have := qem (Sub.pow hi)
    rw [y64 hi10] at this
    exact ⟨ndiff a (2 ^ i), (q4h _ _).trans h1, by omega⟩
theorem qhv {n m : Nat} (hn : n ≤ 10) {p : Nat → Bool} {q : Nat → Bool} (hp : ∀ z, z < 2 ^ n → p z = q (pc z)) (hq : q m = true) (hno : ∀ j, j < m → q j = false) {out : List Nat} (ho : LeastOf (pick p (2 ^ n)) out) (z : Nat) : z ∈ out ↔ z ∈ pick (fun z => decide (pc z = m)) (2 ^ n) := by
  have hp10 := pow10 hn
  rw [ho.2, q0n, decide_eq_true_eq]
  constructor
  · rintro ⟨hm, hmin⟩
    obtain ⟨hz, hs⟩ := q0n.1 hm
    rw [hp z hz] at hs
    refine ⟨hz, ?_⟩
    have hge : m ≤ pc z := Nat.le_of_not_lt fun hlt => by rw [hno _ hlt] at hs; cases hs
    obtain ⟨a, h1, h2⟩ := qnc (u := z) (by omega) (pc z - m) m (by omega)
    have ha : a < 2 ^ n := Nat.lt_of_le_of_lt (q3p h1) hz
    have := hmin a (q0n.2 ⟨ha, by rw [hp a ha, h2]; exact hq⟩) h1
    rw [← this]; exact h2
  · rintro ⟨hz, hk⟩
    refine ⟨q0n.2 ⟨hz, by rw [hp z hz, hk]; exact hq⟩, fun t ht hts => ?_⟩
    obtain ⟨ht1, ht2⟩ := q0n.1 ht
    rw [hp t ht1] at ht2
    have hge : m ≤ pc t := Nat.le_of_not_lt fun hlt => by rw [hno _ hlt] at ht2; cases ht2
    have := qcj hts
    exact q8z (by omega) (by omega) hts (by omega)
theorem qu7 {n k : Nat} (hn : n ≤ 10) (h1 : 1 ≤ k) (hk : k ≤ n) : ValidC (uni n (flat n k)) := q1y.1 (qtc hn (qhe hn h1 hk) (qhx _ (qqi n k)))
theorem qsq {n k : Nat} (hn : n ≤ 10) (h1 : 1 ≤ k) (hk : k ≤ n) {s : Nat} (hs : s < 2 ^ n) : haltB (uni n (flat n k)) s = decide (n < pc s + k) := by
  have hp := pow10 hn
  have hg := qqf (qhe hn h1 hk)
  have hlt : ndiff (2 ^ n - 1) s < 1024 := q2k (by omega)
  have hlt2 : ndiff (2 ^ n - 1) s < 2 ^ n := q1c.2 (q4h _ _)
  have hpc := qem (q1c.1 hs)
  rw [q81 _ hn] at hpc
  unfold haltB
  rw [qcz]
  by_cases h : n < pc s + k
  · rw [decide_eq_true h, beq_iff_eq]
    refine Classical.byContradiction fun h0 => ?_
    have hQ := q3z _ hlt h0
    have hsub := (q3s (uni n (flat n k)) hlt).trans (Sub.and_left _ _)
    have hgl : q1a (uni n (flat n k)) (ndiff (2 ^ n - 1) s) < 2 ^ n := Nat.lt_of_le_of_lt (q3p hsub) hlt2
    have := (q3y (by omega)).2 hQ
    rw [qu2 hn hg hgl, qen hn hgl, decide_eq_true_eq] at this
    have := qcj hsub
    omega
  · rw [decide_eq_false h, beq_eq_false_iff_ne]
    intro h0
    have hQ : q44 (uni n (flat n k)) (ndiff (2 ^ n - 1) s) := (q3y hlt).1 (by rw [qu2 hn hg hlt2, qen hn hlt2, decide_eq_true_eq]; omega)
    have := q64 _ hlt hQ (Sub.refl _)
    rw [h0] at this
    have := q3p this
    exact hQ.1 (by omega)
theorem q5u {n k : Nat} (hn : n ≤ 10) {s y : Nat} (hs : s < 2 ^ n) (hy : y < 2 ^ n) (hd : ∀ i, y.testBit i = true → s.testBit i = false) : q44 (delC s (uni n (flat n k))) y ↔ y ≠ 0 ∧ k ≤ pc y + pc s := by
  have hp := pow10 hn
  rw [qq5 (by omega) hd, qe7 hn]
  have hys : y ||| s < 2 ^ n := Nat.or_lt_two_pow hy hs
  constructor
  · rintro ⟨h0, _, h2⟩
    refine ⟨h0, ?_⟩
    obtain ⟨i, hi⟩ := qel h0
    have hin : i < n := by
      have := q1c.1 hy i hi
      rwa [Nat.testBit_two_pow_sub_one, decide_eq_true_eq] at this
    have := h2 i hi
    rw [qpp hin, qen hn hys, decide_eq_true_eq, pc_or hd] at this
    exact this
  · rintro ⟨h0, h2⟩
    refine ⟨h0, q1c.1 hy, fun i hi => ?_⟩
    have hin : i < n := by
      have := q1c.1 hy i hi
      rwa [Nat.testBit_two_pow_sub_one, decide_eq_true_eq] at this
    rw [qpp hin, qen hn hys, decide_eq_true_eq, pc_or hd]
    exact h2
def splQ (n k j : Nat) : Bool := decide (j < k ∧ 2 * k ≤ n + j ∨ k ≤ j ∧ j + 2 ≤ n)
theorem qqe {n k : Nat} (hn : n ≤ 10) {s : Nat} (hs : s < 2 ^ n) : q2l (uni n (flat n k)) s = splQ n k (pc s) := by
  have hp := pow10 hn
  have hpc := qem (q1c.1 hs)
  rw [q81 _ hn] at hpc
  have hlt2 : ndiff (2 ^ n - 1) s < 2 ^ n := q1c.2 (q4h _ _)
  have hdis : ∀ a, Sub a (ndiff (2 ^ n - 1) s) → ∀ i, a.testBit i = true → s.testBit i = false := fun a ha i hi => by
    have := ha i hi
    rw [q0p] at this
    cases h : s.testBit i with
    | false => rfl
    | true => simp [h] at this
  rw [Bool.eq_iff_iff]
  unfold q2l splQ
  rw [qww (by rw [qja, qcz]; exact hn), decide_eq_true_eq]
  have hpos : ∀ a, a < 1024 → a ≠ 0 → 1 ≤ pc a := fun a ha h0 => by
    refine Nat.one_le_iff_ne_zero.2 fun h1 => h0 ?_
    have : (0 : Nat) = a := q8z (by decide) ha (fun i hi => by simp at hi) (by rw [qjq, h1])
    exact this.symm
  constructor
  · rintro ⟨a, b, ha, hb, hab⟩
    have hsa : Sub a (ndiff (2 ^ n - 1) s) := by have := ha.2.1; rwa [qpf, qe7 hn] at this
    have hsb : Sub b (ndiff (2 ^ n - 1) s) := by have := hb.2.1; rwa [qpf, qe7 hn] at this
    have hla : a < 2 ^ n := Nat.lt_of_le_of_lt (q3p hsa) hlt2
    have hlb : b < 2 ^ n := Nat.lt_of_le_of_lt (q3p hsb) hlt2
    obtain ⟨a0, a1⟩ := (q5u hn hs hla (hdis a hsa)).1 ha
    obtain ⟨b0, b1⟩ := (q5u hn hs hlb (hdis b hsb)).1 hb
    have hd : ∀ i, a.testBit i = true → b.testBit i = false := fun i hi => by
      cases hbi : b.testBit i with
      | false => rfl
      | true =>
        have : (a &&& b).testBit i = true := by rw [Nat.testBit_and, hi, hbi]; rfl
        rw [hab] at this; simp at this
    have h1 := qcj (Sub.or hsa hsb)
    rw [pc_or hd] at h1
    have := hpos a (by omega) a0
    have := hpos b (by omega) b0
    omega
  · intro h
    have hj : ∃ j, 1 ≤ j ∧ k ≤ j + pc s ∧ 2 * j ≤ n - pc s := by
      by_cases hk : pc s < k
      · exact ⟨k - pc s, by omega, by omega, by omega⟩
      · exact ⟨1, by omega, by omega, by omega⟩
    obtain ⟨j, j1, j2, j3⟩ := hj
    obtain ⟨a, ha, hpa⟩ := qnc (u := ndiff (2 ^ n - 1) s) (by omega) (pc (ndiff (2 ^ n - 1) s) - j) j (by omega)
    have hb := q4h (ndiff (2 ^ n - 1) s) a
    have hpb := qem ha
    have hla : a < 2 ^ n := Nat.lt_of_le_of_lt (q3p ha) hlt2
    have hlb : ndiff (ndiff (2 ^ n - 1) s) a < 2 ^ n := Nat.lt_of_le_of_lt (q3p hb) hlt2
    refine ⟨a, ndiff (ndiff (2 ^ n - 1) s) a, (q5u hn hs hla (hdis a ha)).2 ⟨?_, by omega⟩, (q5u hn hs hlb (hdis _ hb)).2 ⟨?_, by omega⟩, ?_⟩
    · rintro rfl; rw [qjq] at hpa; omega
    · intro h0; rw [h0, qjq] at hpb; omega
    · apply Nat.eq_of_testBit_eq
      intro i
      rw [Nat.testBit_and, q0p, Nat.zero_testBit]
      cases a.testBit i <;> simp
theorem qr1 {n k : Nat} (hn : n ≤ 10) (h1 : 1 ≤ k) (hk : k ≤ n) {out : List Nat} (ho : LeastOf (pick (haltB (uni n (flat n k))) (2 ^ n)) out) (z : Nat) : z ∈ out ↔ z ∈ pick (fun z => decide (pc z = n - k + 1)) (2 ^ n) :=
  qhv hn (q := fun j => decide (n < j + k)) (fun z hz => qsq hn h1 hk hz) (by simp; omega) (fun j hj => by simp; omega) ho z
theorem qmf {n k : Nat} (hn : n ≤ 10) (hk : k < n) {out : List Nat} (ho : LeastOf (pick (q2l (uni n (flat n k))) (2 ^ n)) out) (h1 : 1 ≤ k) (z : Nat) : z ∈ out ↔ z ∈ pick (fun z => decide (pc z = 2 * k - n)) (2 ^ n) :=
  qhv hn (q := splQ n k) (fun z hz => qqe hn hz) (by simp [splQ]; omega) (fun j hj => by simp [splQ]; omega) ho z
end Go.Proofs.YtfjcndlhpfbcgaaGreat
