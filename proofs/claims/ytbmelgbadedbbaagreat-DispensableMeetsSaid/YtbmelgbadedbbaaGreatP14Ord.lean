/- The order of sets: what both texts compute. -/
import Derived.Test.YtbmelgbadedbbaaGreatP14Block
import Derived.Test.YtbmelgbadedbbaaGreatP14Srt
namespace Go.Proofs.YtbmelgbadedbbaaGreat
open Go Go.Ab Go.Sort
def leOf {α : Type} {a b : Option α} (_ : Le a b) : Option α := a
def pc (n : Nat) : Nat := (nodes n).length
set_option maxRecDepth 100000 in
theorem qxd : ((List.range 1024).all fun n => decide (leOf (y09 (n : Int)) = some ((pc n : Nat) : Int))) = true := by kernel_rfl
theorem y32 {n : Nat} (h : n < 1024) : z5d (n : Int) = some ((pc n : Nat) : Int) := by
 have h1 := List.all_eq_true.1 qxd n (List.mem_range.2 h);simp only [decide_eq_true_eq] at h1;apply y5l;rw [y09 (n : Int) _ h1];rfl
theorem pc_le (n : Nat) : pc n ≤ 10 := q77 n
def okS (s : Int) : Bool := decide (0 ≤ s) && decide (s < 1024)
theorem q5i (s : Int) : z1q s = some (okS s) := by
 apply qze;have : z2h s 10 = some (okS s) := by
  apply qws;unfold okS;by_cases h0 : 0 ≤ s
  ·rw [q0d h0];simp only [cond_true];rw [q0n (by decide), shl1 (by decide) (by decide)]
   by_cases h1 : s < 1024
   ·rw [q03 (by simpa using h1)]; simp [h0, h1]
   ·rw [q00 (by simpa using h1)]; simp [h0, h1]
  ·rw [q0a (by omega)]; simp [h0]
 rw [this]; rfl
theorem qeq (s : Int) : z22 s = some (okS s) := by
 apply qzj;unfold okS;by_cases h0 : 0 ≤ s
 ·rw [q0d h0];by_cases h1 : s < 1024
  ·rw [q0d (show s ≤ 1023 by omega)]; simp [h0, h1]
  ·rw [q0a (show 1023 < s by omega)]; simp [h0, h1]
 ·rw [q0a (by omega)]; simp [h0]
theorem q7q {n : Nat} (h : n < 1024) : okS (n : Int) = true := by simp [okS]; omega
theorem qqj {s : Int} (h : okS s = true) : ∃ n : Nat, s = (n : Int) ∧ n < 1024 := by
 simp only [okS, Bool.and_eq_true, decide_eq_true_eq] at h;exact ⟨s.toNat, by omega, by omega⟩
theorem qee {n : Nat} (h : n < 1024) : z4z (n : Int) = some ((pc n : Nat) : Int) := by
 apply y5n;rw [q5i, q7q h];simp only [Option.bind_some, Bool.not_true, cond_false];rw [wrapU (by omega), y32 h]
 rfl
def rank (s : Int) : Int := if okS s then ((pc s.toNat : Nat) : Int) else -1
theorem qp8 {n : Nat} (h : n < 1024) : rank (n : Int) = ((pc n : Nat) : Int) := by simp [rank, q7q h]
theorem qwf (s : Int) : z5f s = some (rank s) := by
 apply y78;rw [q5i];simp only [Option.bind_some];cases h : okS s with
 | false => simp [rank, h]
 | true =>
  obtain ⟨n, rfl, hn⟩ := qqj h;rw [qee hn];simp [rank, h]
def cmpI (a b : Int) : Int := if a < b then -1 else if b < a then 1 else 0
theorem qt4 (a b : Int) : z44 a b = some (cmpI a b) := by
 apply y6v;have h1 : ∀ x, z4u x = some false := fun x => by apply y3f; rw [q0b]
 rw [h1, h1];simp only [Option.bind_some, cond_false];unfold cmpI;by_cases h : a < b
 ·rw [q03 h]; simp [h]
 ·rw [q00 (by omega)]
  by_cases h' : b < a
  ·rw [q03 h']; simp [h, h']
  ·rw [q00 (by omega)]; simp [h, h']
theorem y7f (a b : Int) : z62 [a, b] = some (if a ≠ 0 then a else b) := by
 apply y5b;apply qv0;rw [q03 (by simp)]
 simp only [cond_true];rw [q0x (by decide) (show [a, b][(0 : Int).toNat]? = some a from rfl)]
 by_cases h : a ≠ 0
 ·rw [q0r h, if_pos h]; rfl
 ·have h0 : a = 0 := by omega
  rw [h0, q0b];simp only [cond_false];rw [show addI .i64 0 1 = 1 from rfl]
  apply qv0;rw [q03 (by simp)]
  simp only [cond_true];rw [q0x (by decide) (show [(0 : Int), b][(1 : Int).toNat]? = some b from rfl)]
  by_cases hb : b ≠ 0
  ·rw [q0r hb]; simp
  ·have hb0 : b = 0 := by omega
   rw [hb0, q0b];simp only [cond_false];rw [show addI .i64 1 1 = 2 from rfl]
   apply qv0;rw [q00 (by simp)]
   simp
def ncmp (a b : Int) : Int := if cmpI (rank a) (rank b) ≠ 0 then cmpI (rank a) (rank b) else cmpI a b
theorem y1z (a b : Int) : z08 a b = some (ncmp a b) := by
 apply y4e;rw [qwf, qwf];simp only [Option.bind_some];rw [qt4, qt4];simp only [Option.bind_some];rw [y7f];rfl
theorem qil (a b : Int) : ltB (ncmp a b) 0 = decide (rank a < rank b ∨ rank a = rank b ∧ a < b) := by
 unfold ncmp cmpI;by_cases h1 : rank a < rank b
 ·simp [h1, ltB]
 ·by_cases h2 : rank b < rank a
  ·have : ¬ rank a = rank b := by omega
   simp [h1, h2, this, ltB]
  ·have : rank a = rank b := by omega
   by_cases h3 : a < b
   ·simp [this, h3, ltB]
   ·by_cases h4 : b < a <;> simp [this, h3, h4, ltB]
theorem qx7 : SWO (fun x y => ltB (ncmp x y) 0) where
 irrefl x := by simp [qil]
 trans x y z := by simp only [qil, decide_eq_true_eq]; omega
 ntrans x y z := by simp only [qil, decide_eq_false_iff_not]; omega
theorem qaf (s : Nat) : ∀ n i, (q0q s (n + 1) i).length = (if s.testBit i then 1 else 0) + (q0q s n (i + 1)).length := by
 intro n i;simp only [q0q];cases s.testBit i <;> simp <;> omega
theorem qip {s : Nat} (hs : s < 1024) : ∀ (n i c : Nat), i + n = 10 → c ≤ i → z4h (s : Int) (c : Int) (i : Int) = some ((c + (q0q s n i).length : Nat) : Int)
 | 0, i, c, h, hc => by
  apply qzh;rw [q00 (by omega)]
  rfl
 | n + 1, i, c, h, hc => by
  apply qzh;rw [q03 (by omega), qeq, q7q hs]
  simp only [cond_true, Option.bind_some];rw [q0n (by omega), qqt _ _ (by omega)]
  have e1 : andI .i64 ((s >>> i : Nat) : Int) 1 = (((s >>> i) &&& 1 : Nat) : Int) := q2o (b := 1) (Nat.lt_of_le_of_lt (Nat.shiftRight_le _ _) (by omega)) (by decide)
  rw [e1, qbl, q02 (by omega), qaf]
  cases s.testBit i with
  | true =>
   simp only [if_true];rw [show ((1 : Nat) : Int) = 1 from rfl, q02 (by omega), qip hs n (i + 1) (c + 1) (by omega) (by omega)]
   congr 2; omega
  | false =>
   simp only [Bool.false_eq_true, if_false];rw [show addI .i64 (c : Int) ((0 : Nat) : Int) = (c : Int) by rw [q1x (by omega) (by omega)]; omega, qip hs n (i + 1) c (by omega) (by omega)]
   congr 2; omega
theorem qjw {s : Nat} (hs : s < 1024) : z5w (s : Int) = some ((pc s : Nat) : Int) := by
 apply y3p;have := qip hs 10 0 0 rfl (Nat.le_refl _);rw [Nat.zero_add] at this;exact this
def nlt (a b : Nat) : Prop := pc a < pc b ∨ pc a = pc b ∧ a < b
theorem q17 (a : Nat) : ¬ nlt a a := by unfold nlt; omega
theorem q5q {a b c : Nat} (h : nlt a b) (h' : nlt b c) : nlt a c := by unfold nlt at *; omega
theorem qud (a b : Nat) : nlt a b ∨ a = b ∨ nlt b a := by unfold nlt; omega
theorem qyo {a b : Nat} (ha : a < 1024) (hb : b < 1024) : ltB (ncmp a b) 0 = true ↔ nlt a b := by
 rw [qil, qp8 ha, qp8 hb, decide_eq_true_eq];unfold nlt;omega
theorem qcr {a b : Nat} (h : Sub a b) : ∀ n i, (q0q a n i).length ≤ (q0q b n i).length ∧ ((q0q a n i).length = (q0q b n i).length → ∀ j, i ≤ j → j < i + n → a.testBit j = b.testBit j)
 | 0, i => ⟨Nat.le_refl _, fun _ j h1 h2 => by omega⟩
 | n + 1, i => by
  obtain ⟨h1, h2⟩ := qcr h n (i + 1);rw [qaf, qaf];have hi := h i;cases ha : a.testBit i with
  | true =>
   rw [ha] at hi;rw [hi rfl];refine ⟨by omega, fun e j hj hj2 => ?_⟩
   by_cases hji : j = i
   ·subst hji; rw [ha, hi rfl]
   ·exact h2 (by omega) j (by omega) (by omega)
  | false =>
   cases hb : b.testBit i with
   | true => exact ⟨by simp; omega, fun e => by simp at e; omega⟩
   | false =>
    refine ⟨by simpa using h1, fun e j hj hj2 => ?_⟩
    by_cases hji : j = i
    ·subst hji; rw [ha, hb]
    ·exact h2 (by simpa using e) j (by omega) (by omega)
theorem qhm : ∀ {l l' : List Nat}, l.Pairwise nlt → l'.Pairwise nlt → (∀ s, s ∈ l ↔ s ∈ l') → l = l'
 | [], [], _, _, _ => rfl
 | [], y :: r, _, _, h => by have := (h y).2 (by simp); cases this
 | x :: r, [], _, _, h => by have := (h x).1 (by simp); cases this
 | x :: r, y :: r', hp, hp', h => by
  rw [List.pairwise_cons] at hp hp';have hxy : x = y := by
   rcases List.mem_cons.1 ((h x).1 (by simp)) with e | e
   ·exact e
   ·rcases List.mem_cons.1 ((h y).2 (by simp)) with e' | e'
    ·exact e'.symm
    ·exact absurd (q5q (hp.1 y e') (hp'.1 x e)) (q17 _)
  subst hxy;rw [qhm hp.2 hp'.2 fun s => ?_]
  constructor
  ·intro hs;rcases List.mem_cons.1 ((h s).1 (by simp [hs])) with e | e
   ·subst e; exact absurd (hp.1 s hs) (q17 _)
   ·exact e
  ·intro hs;rcases List.mem_cons.1 ((h s).2 (by simp [hs])) with e | e
   ·subst e; exact absurd (hp'.1 s hs) (q17 _)
   ·exact e
end Go.Proofs.YtbmelgbadedbbaaGreat
