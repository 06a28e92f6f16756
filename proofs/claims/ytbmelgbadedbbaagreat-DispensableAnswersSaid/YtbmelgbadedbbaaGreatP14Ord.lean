/- The order of sets: what both texts compute. -/
import Derived.Test.YtbmelgbadedbbaaGreatP14Block
import Derived.Test.YtbmelgbadedbbaaGreatP14Srt
namespace Go.Proofs.YtbmelgbadedbbaaGreat
open Go Go.Ab Go.Sort
def leOf {α : Type} {a b : Option α} (_ : Le a b) : Option α := a
def pc (n : Nat) : Nat := (nodes n).length
set_option maxRecDepth 100000 in
theorem qyq : ((List.range 1024).all fun n => decide (leOf (qzp (n : Int)) = some ((pc n : Nat) : Int))) = true := by kernel_rfl
theorem y2w {n : Nat} (h : n < 1024) : z5o (n : Int) = some ((pc n : Nat) : Int) := by
 have h1 := List.all_eq_true.1 qyq n (List.mem_range.2 h);simp only [decide_eq_true_eq] at h1;apply y5t;rw [qzp (n : Int) _ h1];rfl
theorem pc_le (n : Nat) : pc n ≤ 10 := q74 n
def okS (s : Int) : Bool := decide (0 ≤ s) && decide (s < 1024)
theorem q5m (s : Int) : z1o s = some (okS s) := by
 apply y1d;have : z2e s 10 = some (okS s) := by
  apply qv8;unfold okS;by_cases h0 : 0 ≤ s
  ·rw [q0e h0];simp only [cond_true];rw [q0q (by decide), shl1 (by decide) (by decide)]
   by_cases h1 : s < 1024
   ·rw [q03 (by simpa using h1)]; simp [h0, h1]
   ·rw [q00 (by simpa using h1)]; simp [h0, h1]
  ·rw [q09 (by omega)]; simp [h0]
 rw [this]; rfl
theorem qew (s : Int) : z1y s = some (okS s) := by
 apply y0u;unfold okS;by_cases h0 : 0 ≤ s
 ·rw [q0e h0];by_cases h1 : s < 1024
  ·rw [q0e (show s ≤ 1023 by omega)]; simp [h0, h1]
  ·rw [q09 (show 1023 < s by omega)]; simp [h0, h1]
 ·rw [q09 (by omega)]; simp [h0]
theorem q8j {n : Nat} (h : n < 1024) : okS (n : Int) = true := by simp [okS]; omega
theorem qpu {s : Int} (h : okS s = true) : ∃ n : Nat, s = (n : Int) ∧ n < 1024 := by
 simp only [okS, Bool.and_eq_true, decide_eq_true_eq] at h;exact ⟨s.toNat, by omega, by omega⟩
theorem qen {n : Nat} (h : n < 1024) : z5a (n : Int) = some ((pc n : Nat) : Int) := by
 apply y7i;rw [q5m, q8j h];simp only [Option.bind_some, Bool.not_true, cond_false];rw [wrapU (by omega), y2w h]
 rfl
def rank (s : Int) : Int := if okS s then ((pc s.toNat : Nat) : Int) else -1
theorem qq6 {n : Nat} (h : n < 1024) : rank (n : Int) = ((pc n : Nat) : Int) := by simp [rank, q8j h]
theorem qwg (s : Int) : z5q s = some (rank s) := by
 apply y44;rw [q5m];simp only [Option.bind_some];cases h : okS s with
 | false => simp [rank, h]
 | true =>
  obtain ⟨n, rfl, hn⟩ := qpu h;rw [qen hn];simp [rank, h]
def cmpI (a b : Int) : Int := if a < b then -1 else if b < a then 1 else 0
theorem qu2 (a b : Int) : z4g a b = some (cmpI a b) := by
 apply y51;have h1 : ∀ x, z55 x = some false := fun x => by apply y74; rw [q0d]
 rw [h1, h1];simp only [Option.bind_some, cond_false];unfold cmpI;by_cases h : a < b
 ·rw [q03 h]; simp [h]
 ·rw [q00 (by omega)]
  by_cases h' : b < a
  ·rw [q03 h']; simp [h, h']
  ·rw [q00 (by omega)]; simp [h, h']
theorem y4u (a b : Int) : z6e [a, b] = some (if a ≠ 0 then a else b) := by
 apply y8b;apply qvx;rw [q03 (by simp)]
 simp only [cond_true];rw [q0v (by decide) (show [a, b][(0 : Int).toNat]? = some a from rfl)]
 by_cases h : a ≠ 0
 ·rw [q0s h, if_pos h]; rfl
 ·have h0 : a = 0 := by omega
  rw [h0, q0d];simp only [cond_false];rw [show addI .i64 0 1 = 1 from rfl]
  apply qvx;rw [q03 (by simp)]
  simp only [cond_true];rw [q0v (by decide) (show [(0 : Int), b][(1 : Int).toNat]? = some b from rfl)]
  by_cases hb : b ≠ 0
  ·rw [q0s hb]; simp
  ·have hb0 : b = 0 := by omega
   rw [hb0, q0d];simp only [cond_false];rw [show addI .i64 1 1 = 2 from rfl]
   apply qvx;rw [q00 (by simp)]
   simp
def ncmp (a b : Int) : Int := if cmpI (rank a) (rank b) ≠ 0 then cmpI (rank a) (rank b) else cmpI a b
theorem y2d (a b : Int) : z08 a b = some (ncmp a b) := by
 apply y86;rw [qwg, qwg];simp only [Option.bind_some];rw [qu2, qu2];simp only [Option.bind_some];rw [y4u];rfl
theorem qir (a b : Int) : ltB (ncmp a b) 0 = decide (rank a < rank b ∨ rank a = rank b ∧ a < b) := by
 unfold ncmp cmpI;by_cases h1 : rank a < rank b
 ·simp [h1, ltB]
 ·by_cases h2 : rank b < rank a
  ·have : ¬ rank a = rank b := by omega
   simp [h1, h2, this, ltB]
  ·have : rank a = rank b := by omega
   by_cases h3 : a < b
   ·simp [this, h3, ltB]
   ·by_cases h4 : b < a <;> simp [this, h3, h4, ltB]
theorem qyk : SWO (fun x y => ltB (ncmp x y) 0) where
 irrefl x := by simp [qir]
 trans x y z := by simp only [qir, decide_eq_true_eq]; omega
 ntrans x y z := by simp only [qir, decide_eq_false_iff_not]; omega
theorem qay (s : Nat) : ∀ n i, (q0u s (n + 1) i).length = (if s.testBit i then 1 else 0) + (q0u s n (i + 1)).length := by
 intro n i;simp only [q0u];cases s.testBit i <;> simp <;> omega
theorem qjq {s : Nat} (hs : s < 1024) : ∀ (n i c : Nat), i + n = 10 → c ≤ i → z4t (s : Int) (c : Int) (i : Int) = some ((c + (q0u s n i).length : Nat) : Int)
 | 0, i, c, h, hc => by
  apply qzs;rw [q00 (by omega)]
  rfl
 | n + 1, i, c, h, hc => by
  apply qzs;rw [q03 (by omega), qew, q8j hs]
  simp only [cond_true, Option.bind_some];rw [q0q (by omega), qp8 _ _ (by omega)]
  have e1 : andI .i64 ((s >>> i : Nat) : Int) 1 = (((s >>> i) &&& 1 : Nat) : Int) := q3u (b := 1) (Nat.lt_of_le_of_lt (Nat.shiftRight_le _ _) (by omega)) (by decide)
  rw [e1, qc9, q02 (by omega), qay]
  cases s.testBit i with
  | true =>
   simp only [if_true];rw [show ((1 : Nat) : Int) = 1 from rfl, q02 (by omega), qjq hs n (i + 1) (c + 1) (by omega) (by omega)]
   congr 2; omega
  | false =>
   simp only [Bool.false_eq_true, if_false];rw [show addI .i64 (c : Int) ((0 : Nat) : Int) = (c : Int) by rw [q1n (by omega) (by omega)]; omega, qjq hs n (i + 1) c (by omega) (by omega)]
   congr 2; omega
theorem qim {s : Nat} (hs : s < 1024) : z6a (s : Int) = some ((pc s : Nat) : Int) := by
 apply y7j;have := qjq hs 10 0 0 rfl (Nat.le_refl _);rw [Nat.zero_add] at this;exact this
def nlt (a b : Nat) : Prop := pc a < pc b ∨ pc a = pc b ∧ a < b
theorem q18 (a : Nat) : ¬ nlt a a := by unfold nlt; omega
theorem q5l {a b c : Nat} (h : nlt a b) (h' : nlt b c) : nlt a c := by unfold nlt at *; omega
theorem qvn (a b : Nat) : nlt a b ∨ a = b ∨ nlt b a := by unfold nlt; omega
theorem qyt {a b : Nat} (ha : a < 1024) (hb : b < 1024) : ltB (ncmp a b) 0 = true ↔ nlt a b := by
 rw [qir, qq6 ha, qq6 hb, decide_eq_true_eq];unfold nlt;omega
theorem qct {a b : Nat} (h : Sub a b) : ∀ n i, (q0u a n i).length ≤ (q0u b n i).length ∧ ((q0u a n i).length = (q0u b n i).length → ∀ j, i ≤ j → j < i + n → a.testBit j = b.testBit j)
 | 0, i => ⟨Nat.le_refl _, fun _ j h1 h2 => by omega⟩
 | n + 1, i => by
  obtain ⟨h1, h2⟩ := qct h n (i + 1);rw [qay, qay];have hi := h i;cases ha : a.testBit i with
  | true =>
   rw [ha] at hi;rw [hi rfl];refine ⟨by omega, fun e j hj hj2 => ?_⟩
   by_cases hji : j = i
   ·subst hji; rw [ha, hi rfl]
   ·exact h2 (by omega) j (by omega) (by omega)
  | false =>
   cases hb : b.testBit i with
   | true => exact ⟨by simp; omega, fun e => by simp at e; omega⟩
   | false =>
    refine ⟨by simpa using h1, fun e j hj hj2 => ?_⟩
    by_cases hji : j = i
    ·subst hji; rw [ha, hb]
    ·exact h2 (by simpa using e) j (by omega) (by omega)
theorem qhu : ∀ {l l' : List Nat}, l.Pairwise nlt → l'.Pairwise nlt → (∀ s, s ∈ l ↔ s ∈ l') → l = l'
 | [], [], _, _, _ => rfl
 | [], y :: r, _, _, h => by have := (h y).2 (by simp); cases this
 | x :: r, [], _, _, h => by have := (h x).1 (by simp); cases this
 | x :: r, y :: r', hp, hp', h => by
  rw [List.pairwise_cons] at hp hp';have hxy : x = y := by
   rcases List.mem_cons.1 ((h x).1 (by simp)) with e | e
   ·exact e
   ·rcases List.mem_cons.1 ((h y).2 (by simp)) with e' | e'
    ·exact e'.symm
    ·exact absurd (q5l (hp.1 y e') (hp'.1 x e)) (q18 _)
  subst hxy;rw [qhu hp.2 hp'.2 fun s => ?_]
  constructor
  ·intro hs;rcases List.mem_cons.1 ((h s).1 (by simp [hs])) with e | e
   ·subst e; exact absurd (hp.1 s hs) (q18 _)
   ·exact e
  ·intro hs;rcases List.mem_cons.1 ((h s).2 (by simp [hs])) with e | e
   ·subst e; exact absurd (hp'.1 s hs) (q18 _)
   ·exact e
end Go.Proofs.YtbmelgbadedbbaaGreat
