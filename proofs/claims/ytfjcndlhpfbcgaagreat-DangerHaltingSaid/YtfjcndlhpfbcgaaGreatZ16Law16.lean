/- Law 16's own functions: the uniform configuration, the example of the chapter. -/
import Derived.Test.YtfjcndlhpfbcgaaGreatZ16Unid
namespace Go.Proofs.YtfjcndlhpfbcgaaGreat
open Go Go.Ab Go.Sort
theorem qo6 {n k : Nat} (hn : n ≤ 10) (ms : List Member) : ∀ (j i : Nat), i + j = n →
    z53 (n : Int) (i : Int) ms (k : Int) (ints' n) [] (List.replicate i ⟨true, flat n k⟩) = some (uni n (flat n k))
  | 0, i, h => by
    have : i = n := by omega
    subst this
    apply qyr
    rw [q02 (by omega)]; rfl
  | j + 1, i, h => by
    have ih := qo6 (k := k) hn ms j (i + 1) (by omega)
    rw [List.replicate_succ'] at ih
    apply qyr
    rw [q05 (by omega), q09 (by simp [q0g]; omega), q04 (by omega)]
    exact ih
theorem qp5 {n k : Nat} (h1 : 1 ≤ n) (hn : n ≤ 10) : ∀ (j i : Nat), i + j = n →
    z50 (n : Int) (i : Int) [] (k : Int) (ints' i) [] = some (uni n (flat n k))
  | 0, i, h => by
    have : i = n := by omega
    subst this
    apply qzs
    rw [q02 (by omega)]
    simp only [cond_false]
    apply y6b
    rw [q05 (by omega), q09 (by simp [q0g]), show (0 : Int) = ((0 : Nat) : Int) from rfl, q04 (by omega)]
    exact qo6 hn [] (i - 1) 1 (by omega)
  | j + 1, i, h => by
    have ih := qp5 (k := k) h1 hn j (i + 1) (by omega)
    rw [qsu] at ih
    have := qo7 i
    apply qzs
    rw [q05 (by omega), q09 (by simp [q0g]; omega), q04 (by omega)]
    exact ih
theorem qw5 {n k : Nat} (h1 : 1 ≤ n) (hn : n ≤ 10) : law16_same (n : Int) (k : Int) = some (uni n (flat n k)) := by
  apply law16_same_le
  exact qp5 h1 hn n 0 (by omega)
def six : List Nat := [3, 5, 6, 9, 10, 12]
theorem y0g : six.Pairwise nlt := by
  unfold six nlt; decide
theorem qud : ∀ s, s < 16 → (s ∈ six ↔ pc s = 2) := by unfold six; decide
theorem qyy {out : List Nat} (ho : out.Pairwise nlt) (h : ∀ z, z ∈ out ↔ z ∈ pick (fun z => decide (pc z = 2)) (2 ^ 4)) : out = six :=
  q9j ho y0g fun s => by
    rw [h, q0n, decide_eq_true_eq]
    constructor
    · rintro ⟨h1, h2⟩; exact (qud s h1).2 h2
    · intro hs
      have hall : ∀ t ∈ six, t < 16 := by unfold six; decide
      have : s < 16 := hall s hs
      exact ⟨this, (qud s this).1 hs⟩
theorem q5e : law16_awake = some true := by
  have hv := qu7 (n := 4) (k := 3) (by decide) (by decide) (by decide)
  have hlen : (uni 4 (flat 4 3)).Members.length = 4 := qcz 4 _
  obtain ⟨a, a1, a2⟩ := q7f hv (by rw [hlen]; decide)
  obtain ⟨b, b1, b2⟩ := q7l hv
  have t := qbl hv (by rw [hlen]; decide) a2 b2
  rw [hlen] at a2 b2 t
  have ha := qyy a2.1 (qmf (by decide) (by decide) a2 (by decide))
  have hb := qyy b2.1 (qr1 (by decide) (by decide) (by decide) b2)
  subst ha
  subst hb
  have hs : law16_same 4 3 = some (uni 4 (flat 4 3)) := qw5 (n := 4) (k := 3) (by decide) (by decide)
  apply law16_awake_le
  rw [hs]
  simp only [Option.bind_some]
  rw [a1]
  simp only [Option.bind_some]
  rw [b1]
  simp only [Option.bind_some]
  rw [t]
  simp only [Option.bind_some, q0t, cond_true]
  rw [q6y (by simp [six]), q6y (by simp [six])]
  have e1 : (List.map Int.ofNat six) = ([3, 5, 6, 9, 10, 12] : List Int) := rfl
  rw [e1]
  simp only [decide_true, Option.bind_some, cond_true]
  decide
theorem qu5 {c : Config} {n : Nat} (hn : n ≤ 10) (h1 : 1 ≤ n) (hm : c.Members.length = n) {l : List Int} : ∀ (k s : Nat) (i : Int), k ≤ 100 → s < 2 ^ n → q0v l i →
    ∃ (v : Nat) (j : Int), z67 (n : Int) (s : Int) (k : Int) l i c.Members = some ((v : Int), l, j) ∧ v < 2 ^ n ∧ q0v l j
  | 0, s, i, hk, hs, h => by
    have hp := pow10 hn
    have hp1 := Nat.two_pow_pos n
    obtain ⟨v, j, g1, g2, g3, g4⟩ := N_ok (n := 2) (by decide) (by decide) h
    have hd := q8m c
    have hr := q5i c (by omega)
    have hlt : ndiff (2 ^ n - 1) (decl c) < 2 ^ n := q1c.2 fun i hi => by
      rw [q0p] at hi
      cases hx : (2 ^ n - 1).testBit i with
      | true => rfl
      | false => simp [hx] at hi
    have hv : v = 0 ∨ v = 1 := by omega
    have key : ∀ w : Nat, mulI .i64 ((ndiff (2 ^ n - 1) (decl c) : Nat) : Int) v = ((w : Nat) : Int) → w < 2 ^ n → ∃ (v : Nat) (j : Int), z67 (n : Int) (s : Int) ((0 : Nat) : Int) l i c.Members = some ((v : Int), l, j) ∧ v < 2 ^ n ∧ q0v l j := by
      intro w hw hwl
      refine ⟨s ||| w, j, ?_, Nat.or_lt_two_pow hs hwl, g4⟩
      apply qzy
      rw [q02 (by omega), q0m (by omega), show Config.mk c.Members = c from rfl, hr]
      simp only [cond_false, Option.bind_some]
      rw [g1]
      simp only [Option.bind_some]
      rw [q32 hn, q2y (by omega) (by omega), hw, q4q (by omega) (by omega)]
    rcases hv with rfl | rfl
    · refine key 0 ?_ hp1
      show mulI .i64 _ 0 = _
      unfold mulI
      rw [Int.mul_zero]
      exact q4s (by omega) (by omega)
    · refine key (ndiff (2 ^ n - 1) (decl c)) ?_ hlt
      show mulI .i64 _ 1 = _
      unfold mulI
      rw [Int.mul_one]
      exact q4s (by omega) (by omega)
  | k + 1, s, i, hk, hs, h => by
    have hp := pow10 hn
    obtain ⟨v, j, g1, g2, g3, g4⟩ := N_ok (n := (n : Int)) (by omega) (by omega) h
    obtain ⟨w, rfl⟩ := Int.eq_ofNat_of_zero_le g2
    have hw : 2 ^ w < 2 ^ n := Nat.pow_lt_pow_right (by decide) (by omega)
    obtain ⟨v', j', k1, k2, k3⟩ := qu5 hn h1 hm k (s ||| 2 ^ w) j (by omega) (Nat.or_lt_two_pow hs hw) g4
    refine ⟨v', j', ?_, k2, k3⟩
    apply qzy
    rw [q05 (by omega), g1]
    simp only [cond_true, Option.bind_some]
    rw [q0m (by omega), shl1 (by omega) (by omega), Int.toNat_natCast, q4q (by omega) (by omega), q1v (by omega) (by omega)]
    rw [show ((k + 1 : Nat) : Int) - 1 = ((k : Nat) : Int) by omega]
    exact k1
theorem qzx {m : Nat} {c : Config} (hc : ConfOk m c) (hm : m ≤ 10) {l : List Int} {i : Int} (h : q0v l i) : ∃ (v : Nat) (j : Int), z72 c l i = some ((v : Int), l, j) ∧ v < 2 ^ c.Members.length ∧ q0v l j := by
  have hle := hc.le
  have hpos := hc.pos
  obtain ⟨p, j, g1, g2, g3⟩ := qah (ps := [0, 1, 1, 2, 3]) (by decide) (by decide) h
  have hpn : ∃ k : Nat, k ≤ 100 ∧ p = (k : Int) := by
    simp at g2
    rcases g2 with rfl | rfl | rfl | rfl
    · exact ⟨0, by decide, rfl⟩
    · exact ⟨1, by decide, rfl⟩
    · exact ⟨2, by decide, rfl⟩
    · exact ⟨3, by decide, rfl⟩
  obtain ⟨k, hk, rfl⟩ := hpn
  have hp1 := Nat.two_pow_pos c.Members.length
  obtain ⟨v, j', k1, k2, k3⟩ := qu5 (c := c) (n := c.Members.length) (by omega) (by omega) rfl (l := l) k 0 j hk hp1 g3
  refine ⟨v, j', ?_, k2, k3⟩
  apply y54
  rw [g1]
  simp only [Option.bind_some]
  exact k1
end Go.Proofs.YtfjcndlhpfbcgaaGreat
