/- Law 16's own functions: the uniform configuration, the example of the chapter. -/
import Derived.Test.YtbmelgbadedbbaaGreatP14Unid
namespace Go.Proofs.YtbmelgbadedbbaaGreat
open Go Go.Ab Go.Sort
theorem qwz {c : Config} {n : Nat} (hn : n ≤ 10) (h1 : 1 ≤ n) (hm : c.Members.length = n) {l : List Int} : ∀ (k s : Nat) (i : Int), k ≤ 100 → s < 2 ^ n → q0n l i →
  ∃ (v : Nat) (j : Int), z5s (n : Int) (s : Int) (k : Int) l i c.Members = some ((v : Int), l, j) ∧ v < 2 ^ n ∧ q0n l j
 | 0, s, i, hk, hs, h => by
  have hp := pow10 hn;have hp1 := Nat.two_pow_pos n;obtain ⟨v, j, g1, g2, g3, g4⟩ := N_ok (n := 2) (by decide) (by decide) h
  have hd := q81 c;have hr := q3i c (by omega)
  have hlt : ndiff (2 ^ n - 1) (decl c) < 2 ^ n := q1k.2 fun i hi => by
   rw [q07] at hi;cases hx : (2 ^ n - 1).testBit i with
   | true => rfl
   | false => simp [hx] at hi
  have hv : v = 0 ∨ v = 1 := by omega
  have key : ∀ w : Nat, mulI .i64 ((ndiff (2 ^ n - 1) (decl c) : Nat) : Int) v = ((w : Nat) : Int) → w < 2 ^ n → ∃ (v : Nat) (j : Int), z5s (n : Int) (s : Int) ((0 : Nat) : Int) l i c.Members = some ((v : Int), l, j) ∧ v < 2 ^ n ∧ q0n l j := by
   intro w hw hwl;refine ⟨s ||| w, j, ?_, Nat.or_lt_two_pow hs hwl, g4⟩;apply y1e;rw [q00 (by omega), q0q (by omega), show Config.mk c.Members = c from rfl, hr]
   simp only [cond_false, Option.bind_some];rw [g1];simp only [Option.bind_some];rw [q3k hn, q2y (by omega) (by omega), hw, q5i (by omega) (by omega)]
  rcases hv with rfl | rfl
  ·refine key 0 ?_ hp1;show mulI .i64 _ 0 = _;unfold mulI;rw [Int.mul_zero];exact q4x (by omega) (by omega)
  ·refine key (ndiff (2 ^ n - 1) (decl c)) ?_ hlt;show mulI .i64 _ 1 = _;unfold mulI;rw [Int.mul_one];exact q4x (by omega) (by omega)
 | k + 1, s, i, hk, hs, h => by
  have hp := pow10 hn;obtain ⟨v, j, g1, g2, g3, g4⟩ := N_ok (n := (n : Int)) (by omega) (by omega) h
  obtain ⟨w, rfl⟩ := Int.eq_ofNat_of_zero_le g2;have hw : 2 ^ w < 2 ^ n := Nat.pow_lt_pow_right (by decide) (by omega)
  obtain ⟨v', j', k1, k2, k3⟩ := qwz hn h1 hm k (s ||| 2 ^ w) j (by omega) (Nat.or_lt_two_pow hs hw) g4
  refine ⟨v', j', ?_, k2, k3⟩;apply y1e;rw [q03 (by omega), g1]
  simp only [cond_true, Option.bind_some];rw [q0q (by omega), shl1 (by omega) (by omega), Int.toNat_natCast, q5i (by omega) (by omega), q22 (by omega) (by omega)]
  rw [show ((k + 1 : Nat) : Int) - 1 = ((k : Nat) : Int) by omega]
  exact k1
theorem y1c {m : Nat} {c : Config} (hc : ConfOk m c) (hm : m ≤ 10) {l : List Int} {i : Int} (h : q0n l i) : ∃ (v : Nat) (j : Int), z6v c l i = some ((v : Int), l, j) ∧ v < 2 ^ c.Members.length ∧ q0n l j := by
 have hle := hc.le;have hpos := hc.pos;obtain ⟨p, j, g1, g2, g3⟩ := qan (ps := [0, 1, 1, 2, 3]) (by decide) (by decide) h
 have hpn : ∃ k : Nat, k ≤ 100 ∧ p = (k : Int) := by
  simp at g2;rcases g2 with rfl | rfl | rfl | rfl
  ·exact ⟨0, by decide, rfl⟩
  ·exact ⟨1, by decide, rfl⟩
  ·exact ⟨2, by decide, rfl⟩
  ·exact ⟨3, by decide, rfl⟩
 obtain ⟨k, hk, rfl⟩ := hpn;have hp1 := Nat.two_pow_pos c.Members.length;obtain ⟨v, j', k1, k2, k3⟩ := qwz (c := c) (n := c.Members.length) (by omega) (by omega) rfl (l := l) k 0 j hk hp1 g3
 refine ⟨v, j', ?_, k2, k3⟩;apply y59;rw [g1];simp only [Option.bind_some];exact k1
end Go.Proofs.YtbmelgbadedbbaaGreat
